/- Contracts of Go functions of the seat Ytgccimhdbphenaa: what a call comes to; no condition but those that each theorem names. -/
import Derived.Test.YtgccimhdbphenaaFPre
import Derived.Test.YtgccimhdbphenaaFnote
import Derived.Test.YtgccimhdbphenaaFlaw09awake
import Derived.Test.YtgccimhdbphenaaFlaw09short
namespace Go.Proofs.Ytgccimhdbphenaa.F
open Go.RowKit Go.Proofs.YtgccimhdbphenaaW.PrintWords Go.Proofs.YtgccimhdbphenaaW.PrintLast Go.Proofs.YtgccimhdbphenaaW.PrintMore
attribute [local go_sem] max2_int min2_int max_two min_two max_three min_three max_four min_four   -- for this text's walks alone
set_option linter.unusedVariables false
set_option linter.unusedSimpArgs false

/-! ### weirkeeperlaw09_NoteLast: function 12 -/
def weirkeeperlaw09_NoteLast.j0 : Nat → ByteArray → ByteArray → Bool → Bool → List (S55) → List (S55) → Bool → Int → ByteArray → ByteArray → Int → Option (Bool)
  | 0, _, _, _, _, _, _, _, _, _, _, _ => none
  | k + 1, x0, x1, x2, x3, x4, x5, x62, x404000, x404001, x404002, x404003 => if x62 = true then ((weirkeeperlaw09_awake.f k).bind fun t410 => (some t410)) else ((some (([] : List (S55)) : List (S55))).bind fun y411 => (if y411.length + x4.length < 2932031007402 then ((some (y411 ++ x4 : List (S55))).bind fun y414 => ((some (([(⟨x404000, x404001, x404002, x404003⟩ : S55)] : List (S55)) : List (S55))).bind fun y417 => (if y414.length + y417.length < 2932031007402 then ((some (y414 ++ y417 : List (S55))).bind fun y420 => (if y420.length + x5.length < 2932031007402 then ((note_Done.f k x0 x2 (y420 ++ x5)).bind fun bt426 => ((some (([(⟨x404000, x404001, x404002, x404003⟩ : S55)] : List (S55)) : List (S55))).bind fun y428 => (if y428.length + x5.length < 2932031007402 then ((note_Done.f k x1 x3 (y428 ++ x5)).bind fun bt434 => (if bt426.1.toList = bt434.1.toList then (if (bt426.2 == bt434.2) = true then ((weirkeeperlaw09_awake.f k).bind fun t436 => (some t436)) else (some false)) else (some false))) else (none)))) else (none))) else (none)))) else (none)))
def weirkeeperlaw09_NoteLast.f (k : Nat) (a0 : ByteArray) (a1 : ByteArray) (a2 : Bool) (a3 : Bool) (l4 : List (S55)) (l5 : List (S55)) (a6_0 : Int) (a6_1 : ByteArray) (a6_2 : ByteArray) (a6_3 : Int) : Option (Bool) := if (a0.size : Int) > 300 then (weirkeeperlaw09_NoteLast.j0 k a0 a1 a2 a3 l4 l5 true a6_0 a6_1 a6_2 a6_3) else (if (a1.size : Int) > 300 then (weirkeeperlaw09_NoteLast.j0 k a0 a1 a2 a3 l4 l5 true a6_0 a6_1 a6_2 a6_3) else (if (l4.length : Int) > 60 then (weirkeeperlaw09_NoteLast.j0 k a0 a1 a2 a3 l4 l5 true a6_0 a6_1 a6_2 a6_3) else (if (l5.length : Int) > 60 then (weirkeeperlaw09_NoteLast.j0 k a0 a1 a2 a3 l4 l5 true a6_0 a6_1 a6_2 a6_3) else ((weirkeeperlaw09_short.f k l4).bind fun t404 => (if t404 = true then ((weirkeeperlaw09_short.f k l5).bind fun t405 => (if t405 = true then ((weirkeeperlaw09_short.f k (([(⟨a6_0, a6_1, a6_2, a6_3⟩ : S55)] : List (S55)))).bind fun t409 => (if t409 = true then (if a6_0 = 1 then (weirkeeperlaw09_NoteLast.j0 k a0 a1 a2 a3 l4 l5 false a6_0 a6_1 a6_2 a6_3) else (weirkeeperlaw09_NoteLast.j0 k a0 a1 a2 a3 l4 l5 (a6_0 != 2) a6_0 a6_1 a6_2 a6_3)) else (weirkeeperlaw09_NoteLast.j0 k a0 a1 a2 a3 l4 l5 true a6_0 a6_1 a6_2 a6_3))) else (weirkeeperlaw09_NoteLast.j0 k a0 a1 a2 a3 l4 l5 true a6_0 a6_1 a6_2 a6_3))) else (weirkeeperlaw09_NoteLast.j0 k a0 a1 a2 a3 l4 l5 true a6_0 a6_1 a6_2 a6_3))))))
theorem weirkeeperlaw09_NoteLast.mono_l : ∀ k, (∀ y0 y1 y2 y3 y4 y5 y6 y7 y8 y9 y10, LeO (weirkeeperlaw09_NoteLast.j0 k y0 y1 y2 y3 y4 y5 y6 y7 y8 y9 y10) (weirkeeperlaw09_NoteLast.j0 (k + 1) y0 y1 y2 y3 y4 y5 y6 y7 y8 y9 y10))
  | 0 => fun _ _ _ _ _ _ _ _ _ _ _ r h => by simp [weirkeeperlaw09_NoteLast.j0] at h
  | k + 1 => by
    have ih0 := weirkeeperlaw09_NoteLast.mono_l k
    · intro y0 y1 y2 y3 y4 y5 y6 y7 y8 y9 y10
      unfold weirkeeperlaw09_NoteLast.j0
      repeat' first
      | (with_reducible exact ih0 _ _ _ _ _ _ _ _ _ _ _)
      | (with_reducible exact note_Done.mono _ _ _ _)
      | (with_reducible exact weirkeeperlaw09_awake.mono _)
      | (with_reducible exact weirkeeperlaw09_short.mono _ _)
      | (with_reducible exact LeO.refl _)
      | (with_reducible exact LeO.none _)
      | (with_reducible refine LeO.ite ?_ ?_)
      | (with_reducible refine LeO.bind ?_ (fun _ => ?_))
      | exact ih0 _ _ _ _ _ _ _ _ _ _ _
      | exact note_Done.mono _ _ _ _
      | exact weirkeeperlaw09_awake.mono _
      | exact weirkeeperlaw09_short.mono _ _
      | exact LeO.none _
      | refine LeO.ite ?_ ?_
      | refine LeO.bind ?_ (fun _ => ?_)
theorem weirkeeperlaw09_NoteLast.mono : ∀ a0 a1 a2 a3 a4 a5 a6 a7 a8 a9 k, LeO (weirkeeperlaw09_NoteLast.f k a0 a1 a2 a3 a4 a5 a6 a7 a8 a9) (weirkeeperlaw09_NoteLast.f (k + 1) a0 a1 a2 a3 a4 a5 a6 a7 a8 a9) := by
  intro a0 a1 a2 a3 a4 a5 a6 a7 a8 a9 k
  have ih0 := weirkeeperlaw09_NoteLast.mono_l k
  unfold weirkeeperlaw09_NoteLast.f
  repeat' first
      | (with_reducible exact ih0 _ _ _ _ _ _ _ _ _ _ _)
      | (with_reducible exact note_Done.mono _ _ _ _)
      | (with_reducible exact weirkeeperlaw09_awake.mono _)
      | (with_reducible exact weirkeeperlaw09_short.mono _ _)
      | (with_reducible exact LeO.refl _)
      | (with_reducible exact LeO.none _)
      | (with_reducible refine LeO.ite ?_ ?_)
      | (with_reducible refine LeO.bind ?_ (fun _ => ?_))
      | exact ih0 _ _ _ _ _ _ _ _ _ _ _
      | exact note_Done.mono _ _ _ _
      | exact weirkeeperlaw09_awake.mono _
      | exact weirkeeperlaw09_short.mono _ _
      | exact LeO.none _
      | refine LeO.ite ?_ ?_
      | refine LeO.bind ?_ (fun _ => ?_)
def weirkeeperlaw09_NoteLast.T3 : Bool × List (List Nat × List Nat) := (true, [([], []), ([], []), ([], []), ([], []), ([2, 3], [2, 3]), ([], []), ([5], [5]), ([4, 6, 4], [4, 6]), ([], []), ([7, 8, 7], [7, 8]), ([0, 1, 9, 9], [0, 1, 9]), ([10], [10]), ([11], [11]), ([11], [11]), ([12, 10, 0, 1, 2, 3, 4, 5, 6, 7, 8, 9, 10, 11, 12], [12]), ([13, 14, 0, 1, 2, 3, 4, 5, 6, 7, 8, 9, 10, 11, 12, 13, 14], [13])])
def weirkeeperlaw09_NoteLast.B3 : List Nat := [0, 0, 0, 0, 12, 0, 32, 124, 0, 508, 1023, 2047, 4095, 4095, 8191, 32767]
theorem weirkeeperlaw09_NoteLast.tab3 : rtab .any (opsOf Try.f12 3) = weirkeeperlaw09_NoteLast.T3 := by kernel_rfl
theorem weirkeeperlaw09_NoteLast.bits3 : waitsOk weirkeeperlaw09_NoteLast.T3.2 weirkeeperlaw09_NoteLast.B3 = true := by kernel_rfl
set_option maxHeartbeats 8000000 in
set_option maxRecDepth 100000 in
theorem weirkeeperlaw09_NoteLast.calls (k : Nat) (a0 : ByteArray) (a1 : ByteArray) (a2 : Bool) (a3 : Bool) (A4 : Option Addr) (c4 : Nat) (l4 : List (S55)) (A5 : Option Addr) (c5 : Nat) (l5 : List (S55)) (a6_0 : Int) (a6_1 : ByteArray) (a6_2 : ByteArray) (a6_3 : Int) (w : World) (hr4 : Kd.C k55 w A4 l4.length l4) (hc4 : l4.length ≤ c4) (hr5 : Kd.C k55 w A5 l5.length l5) (hc5 : l5.length ≤ c5) (h : weirkeeperlaw09_NoteLast.f k a0 a1 a2 a3 l4 l5 a6_0 a6_1 a6_2 a6_3 = some true) :
    Calls Try.prog 12 #[.string a0, .string a1, .bool a2, .bool a3, .slice A4 l4.length c4, .slice A5 l5.length c5, .agg #[.int .i64 a6_0, .string a6_1, .string a6_2, .int .u64 a6_3]] w fun e w' => e = .returned (.bool true) ∧ Below w.heap.size w w' := by
  have hu55 := Try.underlying55
  have HR4 := Aside0.mk hr4
  have HC4 := Aside0.mk hc4
  clear hr4 hc4
  have HR5 := Aside0.mk hr5
  have HC5 := Aside0.mk hc5
  clear hr5 hc5
  have HB := Aside0.mk (Below.refl w.heap.size w)
  have H : (if (a0.size : Int) > 300 then (weirkeeperlaw09_NoteLast.j0 k a0 a1 a2 a3 l4 l5 true a6_0 a6_1 a6_2 a6_3) else (if (a1.size : Int) > 300 then (weirkeeperlaw09_NoteLast.j0 k a0 a1 a2 a3 l4 l5 true a6_0 a6_1 a6_2 a6_3) else (if (l4.length : Int) > 60 then (weirkeeperlaw09_NoteLast.j0 k a0 a1 a2 a3 l4 l5 true a6_0 a6_1 a6_2 a6_3) else (if (l5.length : Int) > 60 then (weirkeeperlaw09_NoteLast.j0 k a0 a1 a2 a3 l4 l5 true a6_0 a6_1 a6_2 a6_3) else ((weirkeeperlaw09_short.f k l4).bind fun t404 => (if t404 = true then ((weirkeeperlaw09_short.f k l5).bind fun t405 => (if t405 = true then ((weirkeeperlaw09_short.f k (([(⟨a6_0, a6_1, a6_2, a6_3⟩ : S55)] : List (S55)))).bind fun t409 => (if t409 = true then (if a6_0 = 1 then (weirkeeperlaw09_NoteLast.j0 k a0 a1 a2 a3 l4 l5 false a6_0 a6_1 a6_2 a6_3) else (weirkeeperlaw09_NoteLast.j0 k a0 a1 a2 a3 l4 l5 (a6_0 != 2) a6_0 a6_1 a6_2 a6_3)) else (weirkeeperlaw09_NoteLast.j0 k a0 a1 a2 a3 l4 l5 true a6_0 a6_1 a6_2 a6_3))) else (weirkeeperlaw09_NoteLast.j0 k a0 a1 a2 a3 l4 l5 true a6_0 a6_1 a6_2 a6_3))) else (weirkeeperlaw09_NoteLast.j0 k a0 a1 a2 a3 l4 l5 true a6_0 a6_1 a6_2 a6_3))))))) = some true := h
  clear h
  have HC8 := Aside0.mk H
  clear H
  go_enter Try.func12, Try.ntmps12
  go_upto_region 1 with (first | ((with_reducible refine gate_dst (N := 13) rfl ?_); (try (refine gate_guard (by rfl) ?_; dsimp only)); refine box_event ?hg (N := 13) ?hd (cs := #[.int .i64 a6_0, .string a6_1, .string a6_2, .int .u64 a6_3]) (t := 55) ?hr ?_; (case hd => rfl); (case hg => rfl); (case hr => first | (go_simp; done) | (go_simp; rfl)); intro gb403 hg w9 hbox hb; have n0_ := Aside0.mk (below_step (by repeat (first | (with_reducible first | exact HB.out | apply below_alloc | apply pw_below_drewN | apply below_drew1) | exact HB.out)) hb); have n1_ := Aside0.mk (hbox); have n2_ := Aside0.mk ((by rw [hg]; exact (below_size (by repeat (first | (with_reducible first | exact HB.out | apply below_alloc | apply pw_below_drewN | apply below_drew1) | exact HB.out))) : w.heap.size ≤ gb403)); have n3_ := Aside0.mk ((by rw [hg]; exact (below_size (by repeat (first | (with_reducible first | exact HB.out | apply below_alloc | apply pw_below_drewN | apply below_drew1) | exact HB.out))) : w.heap.size ≤ gb403)); clear HB; have HB := n0_; have BK403 := n1_; have GW403 := n2_; have GE403 := n3_; clear n0_ n1_ n2_ n3_; clear hb hbox hg))
  (try simp only [Act.put, List.setIfInBounds_toArray, List.set_cons_zero, List.set_cons_succ])
  go_cut [62] (fun v62 wc => ∃ (kq : Nat) (x62_7 : Bool), v62 = .bool x62_7 ∧ Aside0 (weirkeeperlaw09_NoteLast.j0 kq a0 a1 a2 a3 l4 l5 x62_7 a6_0 a6_1 a6_2 a6_3 = some true) ∧ Aside0 (kq ≤ k) ∧ Aside0 (wc.heap[gb403]? = some (.cells #[.int .i64 a6_0, .string a6_1, .string a6_2, .int .u64 a6_3] 55 (0, 0))) ∧ Aside0 (Below w.heap.size w wc))
  case first =>
    have H := HC8.out
    clear HC8
    by_cases c10 : (a0.size : Int) > 300
    · rw [if_pos c10] at H
      have c10b0 : decide (300 < (a0.size : Int)) = true := decide_eq_true c10
      have c10b1 : decide (300 < a0.size) = true := decide_eq_true (by omega)
      clear c10
      (first | rw [c10b0] | (simp only [i64_w, i32_w]; rw [c10b0]) | skip)
      have H' := Aside0.mk H
      clear H
      go_wp2
      go_meet
      case rel => exact ⟨_, (true), (by first | rfl | (simp; done) | (simp [*]; done)), H', ⟨by first | omega | exact Nat.le_refl _⟩, ⟨by (with_reducible repeat (first | refine blk_drewN ?_ _ | refine blk_drew ?_ | refine blk_alloc ?_ _)); exact BK403.out⟩, ⟨by repeat (first | (with_reducible first | exact HB.out | apply below_alloc | apply pw_below_drewN | apply below_drew1 | refine below_set ?_ GE403.out) | exact HB.out)⟩⟩
    · rw [if_neg c10] at H
      have c10b0 : decide (300 < (a0.size : Int)) = false := decide_eq_false c10
      have c10b1 : decide (300 < a0.size) = false := decide_eq_false (by omega)
      clear c10
      (first | rw [c10b0] | (simp only [i64_w, i32_w]; rw [c10b0]) | skip)
      by_cases c11 : (a1.size : Int) > 300
      · rw [if_pos c11] at H
        have c11b0 : decide (300 < (a1.size : Int)) = true := decide_eq_true c11
        have c11b1 : decide (300 < a1.size) = true := decide_eq_true (by omega)
        clear c11
        have H' := Aside0.mk H
        clear H
        go_wp2
        go_meet
        case rel => exact ⟨_, (true), (by first | rfl | (simp; done) | (simp [*]; done)), H', ⟨by first | omega | exact Nat.le_refl _⟩, ⟨by (with_reducible repeat (first | refine blk_drewN ?_ _ | refine blk_drew ?_ | refine blk_alloc ?_ _)); exact BK403.out⟩, ⟨by repeat (first | (with_reducible first | exact HB.out | apply below_alloc | apply pw_below_drewN | apply below_drew1 | refine below_set ?_ GE403.out) | exact HB.out)⟩⟩
      · rw [if_neg c11] at H
        have c11b0 : decide (300 < (a1.size : Int)) = false := decide_eq_false c11
        have c11b1 : decide (300 < a1.size) = false := decide_eq_false (by omega)
        clear c11
        by_cases c12 : (l4.length : Int) > 60
        · rw [if_pos c12] at H
          have c12b0 : decide (60 < (l4.length : Int)) = true := decide_eq_true c12
          have c12b1 : decide (60 < l4.length) = true := decide_eq_true (by omega)
          clear c12
          have H' := Aside0.mk H
          clear H
          go_wp2
          go_meet
          case rel => exact ⟨_, (true), (by first | rfl | (simp; done) | (simp [*]; done)), H', ⟨by first | omega | exact Nat.le_refl _⟩, ⟨by (with_reducible repeat (first | refine blk_drewN ?_ _ | refine blk_drew ?_ | refine blk_alloc ?_ _)); exact BK403.out⟩, ⟨by repeat (first | (with_reducible first | exact HB.out | apply below_alloc | apply pw_below_drewN | apply below_drew1 | refine below_set ?_ GE403.out) | exact HB.out)⟩⟩
        · rw [if_neg c12] at H
          have c12b0 : decide (60 < (l4.length : Int)) = false := decide_eq_false c12
          have c12b1 : decide (60 < l4.length) = false := decide_eq_false (by omega)
          clear c12
          by_cases c13 : (l5.length : Int) > 60
          · rw [if_pos c13] at H
            have c13b0 : decide (60 < (l5.length : Int)) = true := decide_eq_true c13
            have c13b1 : decide (60 < l5.length) = true := decide_eq_true (by omega)
            clear c13
            have H' := Aside0.mk H
            clear H
            go_wp2
            go_meet
            case rel => exact ⟨_, (true), (by first | rfl | (simp; done) | (simp [*]; done)), H', ⟨by first | omega | exact Nat.le_refl _⟩, ⟨by (with_reducible repeat (first | refine blk_drewN ?_ _ | refine blk_drew ?_ | refine blk_alloc ?_ _)); exact BK403.out⟩, ⟨by repeat (first | (with_reducible first | exact HB.out | apply below_alloc | apply pw_below_drewN | apply below_drew1 | refine below_set ?_ GE403.out) | exact HB.out)⟩⟩
          · rw [if_neg c13] at H
            have c13b0 : decide (60 < (l5.length : Int)) = false := decide_eq_false c13
            have c13b1 : decide (60 < l5.length) = false := decide_eq_false (by omega)
            clear c13
            replace H := Option.bind_eq_some_iff.mp H
            obtain ⟨t404, A140, H⟩ := H
            replace H : (if t404 = true then ((weirkeeperlaw09_short.f k l5).bind fun t405 => (if t405 = true then ((weirkeeperlaw09_short.f k (([(⟨a6_0, a6_1, a6_2, a6_3⟩ : S55)] : List (S55)))).bind fun t409 => (if t409 = true then (if a6_0 = 1 then (weirkeeperlaw09_NoteLast.j0 k a0 a1 a2 a3 l4 l5 false a6_0 a6_1 a6_2 a6_3) else (weirkeeperlaw09_NoteLast.j0 k a0 a1 a2 a3 l4 l5 (a6_0 != 2) a6_0 a6_1 a6_2 a6_3)) else (weirkeeperlaw09_NoteLast.j0 k a0 a1 a2 a3 l4 l5 true a6_0 a6_1 a6_2 a6_3))) else (weirkeeperlaw09_NoteLast.j0 k a0 a1 a2 a3 l4 l5 true a6_0 a6_1 a6_2 a6_3))) else (weirkeeperlaw09_NoteLast.j0 k a0 a1 a2 a3 l4 l5 true a6_0 a6_1 a6_2 a6_3)) = some true := H
            have A14 := Aside0.mk A140
            clear A140
            by_cases c15 : t404 = true
            · subst c15
              have H1 : ((weirkeeperlaw09_short.f k l5).bind fun t405 => (if t405 = true then ((weirkeeperlaw09_short.f k (([(⟨a6_0, a6_1, a6_2, a6_3⟩ : S55)] : List (S55)))).bind fun t409 => (if t409 = true then (if a6_0 = 1 then (weirkeeperlaw09_NoteLast.j0 k a0 a1 a2 a3 l4 l5 false a6_0 a6_1 a6_2 a6_3) else (weirkeeperlaw09_NoteLast.j0 k a0 a1 a2 a3 l4 l5 (a6_0 != 2) a6_0 a6_1 a6_2 a6_3)) else (weirkeeperlaw09_NoteLast.j0 k a0 a1 a2 a3 l4 l5 true a6_0 a6_1 a6_2 a6_3))) else (weirkeeperlaw09_NoteLast.j0 k a0 a1 a2 a3 l4 l5 true a6_0 a6_1 a6_2 a6_3))) = some true := by rw [if_pos rfl] at H; exact H
              clear H
              have H := H1
              clear H1
              replace H := Option.bind_eq_some_iff.mp H
              obtain ⟨t405, A160, H⟩ := H
              replace H : (if t405 = true then ((weirkeeperlaw09_short.f k (([(⟨a6_0, a6_1, a6_2, a6_3⟩ : S55)] : List (S55)))).bind fun t409 => (if t409 = true then (if a6_0 = 1 then (weirkeeperlaw09_NoteLast.j0 k a0 a1 a2 a3 l4 l5 false a6_0 a6_1 a6_2 a6_3) else (weirkeeperlaw09_NoteLast.j0 k a0 a1 a2 a3 l4 l5 (a6_0 != 2) a6_0 a6_1 a6_2 a6_3)) else (weirkeeperlaw09_NoteLast.j0 k a0 a1 a2 a3 l4 l5 true a6_0 a6_1 a6_2 a6_3))) else (weirkeeperlaw09_NoteLast.j0 k a0 a1 a2 a3 l4 l5 true a6_0 a6_1 a6_2 a6_3)) = some true := H
              have A16 := Aside0.mk A160
              clear A160
              by_cases c17 : t405 = true
              · subst c17
                have H1 : ((weirkeeperlaw09_short.f k (([(⟨a6_0, a6_1, a6_2, a6_3⟩ : S55)] : List (S55)))).bind fun t409 => (if t409 = true then (if a6_0 = 1 then (weirkeeperlaw09_NoteLast.j0 k a0 a1 a2 a3 l4 l5 false a6_0 a6_1 a6_2 a6_3) else (weirkeeperlaw09_NoteLast.j0 k a0 a1 a2 a3 l4 l5 (a6_0 != 2) a6_0 a6_1 a6_2 a6_3)) else (weirkeeperlaw09_NoteLast.j0 k a0 a1 a2 a3 l4 l5 true a6_0 a6_1 a6_2 a6_3))) = some true := by rw [if_pos rfl] at H; exact H
                clear H
                have H := H1
                clear H1
                obtain ⟨y406, hy406⟩ : ∃ y_ : List (S55), y_ = (([(⟨a6_0, a6_1, a6_2, a6_3⟩ : S55)] : List (S55))) := ⟨_, rfl⟩
                replace H : ((weirkeeperlaw09_short.f k y406).bind fun t409 => (if t409 = true then (if a6_0 = 1 then (weirkeeperlaw09_NoteLast.j0 k a0 a1 a2 a3 l4 l5 false a6_0 a6_1 a6_2 a6_3) else (weirkeeperlaw09_NoteLast.j0 k a0 a1 a2 a3 l4 l5 (a6_0 != 2) a6_0 a6_1 a6_2 a6_3)) else (weirkeeperlaw09_NoteLast.j0 k a0 a1 a2 a3 l4 l5 true a6_0 a6_1 a6_2 a6_3))) = some true := by first | (rw [hy406]; with_reducible exact H) | (have H2_ := (Option.bind_some _ _).symm.trans H; rw [hy406]; with_reducible exact H2_) | (have H2_ := (Option.bind_some _ _).symm.trans H; with_reducible exact H2_) | with_reducible exact H | (rw [hy406]; exact H) | exact H
                have Ny406 := Aside0.mk hy406
                clear hy406
                replace H := Option.bind_eq_some_iff.mp H
                obtain ⟨t409, A180, H⟩ := H
                replace H : (if t409 = true then (if a6_0 = 1 then (weirkeeperlaw09_NoteLast.j0 k a0 a1 a2 a3 l4 l5 false a6_0 a6_1 a6_2 a6_3) else (weirkeeperlaw09_NoteLast.j0 k a0 a1 a2 a3 l4 l5 (a6_0 != 2) a6_0 a6_1 a6_2 a6_3)) else (weirkeeperlaw09_NoteLast.j0 k a0 a1 a2 a3 l4 l5 true a6_0 a6_1 a6_2 a6_3)) = some true := H
                have A18 := Aside0.mk A180
                clear A180
                by_cases c19 : t409 = true
                · subst c19
                  have H1 : (if a6_0 = 1 then (weirkeeperlaw09_NoteLast.j0 k a0 a1 a2 a3 l4 l5 false a6_0 a6_1 a6_2 a6_3) else (weirkeeperlaw09_NoteLast.j0 k a0 a1 a2 a3 l4 l5 (a6_0 != 2) a6_0 a6_1 a6_2 a6_3)) = some true := by rw [if_pos rfl] at H; exact H
                  clear H
                  have H := H1
                  clear H1
                  by_cases c20 : a6_0 = 1
                  · rw [if_pos c20] at H
                    have c20b0 : (a6_0 == 1) = true := beq_iff_eq.mpr c20
                    have c20b1 : (a6_0 != 1) = false := bne_eq_false_iff_eq.mpr c20
                    clear c20
                    have H' := Aside0.mk H
                    clear H
                    go_wp2_with (first | (go_at_call 28; (with_reducible refine (weirkeeperlaw09_short.calls k _ _ l4 true _ ?side1 ?side2 A14.out).mono ?_); (case side1 => repeat (first | exact (Kd.C_below HR4.out HB.out) | (with_reducible refine Kd.C_alloc ?_ _) | (with_reducible refine Kd.C_drewN ?_ _) | (with_reducible refine Kd.C_drew ?_))); (case side2 => exact HC4.out); rintro e w21 ⟨rfl, hb⟩; have n0_ := Aside0.mk (blk_below (g := gb403) (o := .cells #[.int .i64 a6_0, .string a6_1, .string a6_2, .int .u64 a6_3] 55 (0, 0)) (by (with_reducible repeat (first | refine blk_drewN ?_ _ | refine blk_drew ?_ | refine blk_alloc ?_ _)); exact BK403.out) hb); have n1_ := Aside0.mk (below_step (by repeat (first | (with_reducible first | exact HB.out | apply below_alloc | apply pw_below_drewN | apply below_drew1 | refine below_set ?_ GE403.out) | exact HB.out)) hb); clear BK403; clear HB; have BK403 := n0_; have HB := n1_; clear n0_ n1_; (try clear hb); (try clear hb2); (try clear hk); (try clear hi)) | (go_at_call 28; (with_reducible refine (weirkeeperlaw09_short.calls k _ _ l5 true _ ?side1 ?side2 A16.out).mono ?_); (case side1 => repeat (first | exact (Kd.C_below HR5.out HB.out) | (with_reducible refine Kd.C_alloc ?_ _) | (with_reducible refine Kd.C_drewN ?_ _) | (with_reducible refine Kd.C_drew ?_))); (case side2 => exact HC5.out); rintro e w22 ⟨rfl, hb⟩; have n0_ := Aside0.mk (blk_below (g := gb403) (o := .cells #[.int .i64 a6_0, .string a6_1, .string a6_2, .int .u64 a6_3] 55 (0, 0)) (by (with_reducible repeat (first | refine blk_drewN ?_ _ | refine blk_drew ?_ | refine blk_alloc ?_ _)); exact BK403.out) hb); have n1_ := Aside0.mk (below_step (by repeat (first | (with_reducible first | exact HB.out | apply below_alloc | apply pw_below_drewN | apply below_drew1 | refine below_set ?_ GE403.out) | exact HB.out)) hb); clear BK403; clear HB; have BK403 := n0_; have HB := n1_; clear n0_ n1_; (try clear hb); (try clear hb2); (try clear hk); (try clear hi); have hcz23_0 : w22.cell? ⟨gb403, 0, none⟩ = some (.int .i64 a6_0) := (blk_cell BK403.out 0).trans rfl; have hcz23_1 : w22.cell? ⟨gb403, 1, none⟩ = some (.string a6_1) := (blk_cell BK403.out 1).trans rfl; have hcz23_2 : w22.cell? ⟨gb403, 2, none⟩ = some (.string a6_2) := (blk_cell BK403.out 2).trans rfl; have hcz23_3 : w22.cell? ⟨gb403, 3, none⟩ = some (.int .u64 a6_3) := (blk_cell BK403.out 3).trans rfl; have hfz23_0 := blk_frozen BK403.out 0; have hfz23_1 := blk_frozen BK403.out 1; have hfz23_2 := blk_frozen BK403.out 2; have hfz23_3 := blk_frozen BK403.out 3) | ((with_reducible refine gate_dst (N := 49) rfl ?_); (try (refine gate_guard (by rfl) ?_; dsimp only)); refine Kd.R_lit k55 _ 55 ?hg (N := 49) ?hd (xs := ([(⟨a6_0, a6_1, a6_2, a6_3⟩ : S55)] : List (S55))) (inner := [.int .i64 a6_0, .string a6_1, .string a6_2, .int .u64 a6_3]) (ok := fun _ => True) (okp := fun _ => True) ?hr ?hp (fun _ hk => hk) trivial (Below.refl _ _) (Nat.le_refl _) (by simp) ?_; (case hd => rfl); (case hg => rfl); (case hr => first | (go_simp; done) | (go_simp; rfl)); (case hp => exact (Reps.c4 (show Kd.M k55 _ _ _ (⟨a6_0, a6_1, a6_2, a6_3⟩ : S55) [.int .i64 a6_0, .string a6_1, .string a6_2, .int .u64 a6_3] from (k55_mkM _ _ _ (⟨a6_0, a6_1, a6_2, a6_3⟩ : S55) )) (Reps.none _ _))); intro v407 w24 ho25 hb hg_ hnew_; clear hg_ hnew_; (first | rw [← Ny406.out] at ho25 | (simp only [Int.reduceToNat] at ho25; rw [← Ny406.out] at ho25)); have n0_ := Aside0.mk (Kd.R_lower (Kd.R_newB ho25 (g := gb403) (o := .cells #[.int .i64 a6_0, .string a6_1, .string a6_2, .int .u64 a6_3] 55 (0, 0)) (by (with_reducible repeat (first | refine blk_drewN ?_ _ | refine blk_drew ?_ | refine blk_alloc ?_ _)); exact BK403.out)) (below_size (by repeat (first | (with_reducible first | exact HB.out | apply below_alloc | apply pw_below_drewN | apply below_drew1 | refine below_set ?_ GE403.out) | exact HB.out)))); have n1_ := Aside0.mk (blk_below (g := gb403) (o := .cells #[.int .i64 a6_0, .string a6_1, .string a6_2, .int .u64 a6_3] 55 (0, 0)) (by (with_reducible repeat (first | refine blk_drewN ?_ _ | refine blk_drew ?_ | refine blk_alloc ?_ _)); exact BK403.out) hb); have n2_ := Aside0.mk (below_step (by repeat (first | (with_reducible first | exact HB.out | apply below_alloc | apply pw_below_drewN | apply below_drew1 | refine below_set ?_ GE403.out) | exact HB.out)) hb); clear BK403; clear HB; have HO408 := n0_; have BK403 := n1_; have HB := n2_; clear n0_ n1_ n2_; clear hb ho25; obtain ⟨Ao26, co26, eo26⟩ := Kd.R_slice HO408.out; subst eo26) | (go_at_call 28; (with_reducible refine (weirkeeperlaw09_short.calls k _ _ y406 true _ ?side1 ?side2 A18.out).mono ?_); (case side1 => repeat (first | exact (Kd.R_reads' HO408.out).2.2 | (with_reducible refine Kd.C_alloc ?_ _) | (with_reducible refine Kd.C_drewN ?_ _) | (with_reducible refine Kd.C_drew ?_))); (case side2 => exact (Kd.R_reads' HO408.out).2.1); rintro e w27 ⟨rfl, hb⟩; have n0_ := Aside0.mk (Kd.R_below (by (with_reducible repeat (first | apply Kd.R_alloc | apply Kd.R_drewN | apply Kd.R_drew)); exact HO408.out) hb); have n1_ := Aside0.mk (blk_below (g := gb403) (o := .cells #[.int .i64 a6_0, .string a6_1, .string a6_2, .int .u64 a6_3] 55 (0, 0)) (by (with_reducible repeat (first | refine blk_drewN ?_ _ | refine blk_drew ?_ | refine blk_alloc ?_ _)); exact BK403.out) hb); have n2_ := Aside0.mk (below_step (by repeat (first | (with_reducible first | exact HB.out | apply below_alloc | apply pw_below_drewN | apply below_drew1 | refine below_set ?_ GE403.out) | exact HB.out)) hb); clear HO408; clear BK403; clear HB; have HO408 := n0_; have BK403 := n1_; have HB := n2_; clear n0_ n1_ n2_; (try clear hb); (try clear hb2); (try clear hk); (try clear hi); have hcz28_0 : w27.cell? ⟨gb403, 0, none⟩ = some (.int .i64 a6_0) := (blk_cell BK403.out 0).trans rfl; have hcz28_1 : w27.cell? ⟨gb403, 1, none⟩ = some (.string a6_1) := (blk_cell BK403.out 1).trans rfl; have hcz28_2 : w27.cell? ⟨gb403, 2, none⟩ = some (.string a6_2) := (blk_cell BK403.out 2).trans rfl; have hcz28_3 : w27.cell? ⟨gb403, 3, none⟩ = some (.int .u64 a6_3) := (blk_cell BK403.out 3).trans rfl; have hfz28_0 := blk_frozen BK403.out 0; have hfz28_1 := blk_frozen BK403.out 1; have hfz28_2 := blk_frozen BK403.out 2; have hfz28_3 := blk_frozen BK403.out 3))
                    go_meet
                    case rel => exact ⟨_, (false), (by first | rfl | (simp; done) | (simp [*]; done)), H', ⟨by first | omega | exact Nat.le_refl _⟩, ⟨by (with_reducible repeat (first | refine blk_drewN ?_ _ | refine blk_drew ?_ | refine blk_alloc ?_ _)); exact BK403.out⟩, ⟨by repeat (first | (with_reducible first | exact HB.out | apply below_alloc | apply pw_below_drewN | apply below_drew1 | refine below_set ?_ GE403.out) | exact HB.out)⟩⟩
                  · rw [if_neg c20] at H
                    have c20b0 : (a6_0 == 1) = false := beq_eq_false_iff_ne.mpr c20
                    have c20b1 : (a6_0 != 1) = true := bne_iff_ne.mpr c20
                    have H' := Aside0.mk H
                    clear H
                    go_wp2_with (first | (go_at_call 28; (with_reducible refine (weirkeeperlaw09_short.calls k _ _ l4 true _ ?side1 ?side2 A14.out).mono ?_); (case side1 => repeat (first | exact (Kd.C_below HR4.out HB.out) | (with_reducible refine Kd.C_alloc ?_ _) | (with_reducible refine Kd.C_drewN ?_ _) | (with_reducible refine Kd.C_drew ?_))); (case side2 => exact HC4.out); rintro e w29 ⟨rfl, hb⟩; have n0_ := Aside0.mk (blk_below (g := gb403) (o := .cells #[.int .i64 a6_0, .string a6_1, .string a6_2, .int .u64 a6_3] 55 (0, 0)) (by (with_reducible repeat (first | refine blk_drewN ?_ _ | refine blk_drew ?_ | refine blk_alloc ?_ _)); exact BK403.out) hb); have n1_ := Aside0.mk (below_step (by repeat (first | (with_reducible first | exact HB.out | apply below_alloc | apply pw_below_drewN | apply below_drew1 | refine below_set ?_ GE403.out) | exact HB.out)) hb); clear BK403; clear HB; have BK403 := n0_; have HB := n1_; clear n0_ n1_; (try clear hb); (try clear hb2); (try clear hk); (try clear hi)) | (go_at_call 28; (with_reducible refine (weirkeeperlaw09_short.calls k _ _ l5 true _ ?side1 ?side2 A16.out).mono ?_); (case side1 => repeat (first | exact (Kd.C_below HR5.out HB.out) | (with_reducible refine Kd.C_alloc ?_ _) | (with_reducible refine Kd.C_drewN ?_ _) | (with_reducible refine Kd.C_drew ?_))); (case side2 => exact HC5.out); rintro e w30 ⟨rfl, hb⟩; have n0_ := Aside0.mk (blk_below (g := gb403) (o := .cells #[.int .i64 a6_0, .string a6_1, .string a6_2, .int .u64 a6_3] 55 (0, 0)) (by (with_reducible repeat (first | refine blk_drewN ?_ _ | refine blk_drew ?_ | refine blk_alloc ?_ _)); exact BK403.out) hb); have n1_ := Aside0.mk (below_step (by repeat (first | (with_reducible first | exact HB.out | apply below_alloc | apply pw_below_drewN | apply below_drew1 | refine below_set ?_ GE403.out) | exact HB.out)) hb); clear BK403; clear HB; have BK403 := n0_; have HB := n1_; clear n0_ n1_; (try clear hb); (try clear hb2); (try clear hk); (try clear hi); have hcz31_0 : w30.cell? ⟨gb403, 0, none⟩ = some (.int .i64 a6_0) := (blk_cell BK403.out 0).trans rfl; have hcz31_1 : w30.cell? ⟨gb403, 1, none⟩ = some (.string a6_1) := (blk_cell BK403.out 1).trans rfl; have hcz31_2 : w30.cell? ⟨gb403, 2, none⟩ = some (.string a6_2) := (blk_cell BK403.out 2).trans rfl; have hcz31_3 : w30.cell? ⟨gb403, 3, none⟩ = some (.int .u64 a6_3) := (blk_cell BK403.out 3).trans rfl; have hfz31_0 := blk_frozen BK403.out 0; have hfz31_1 := blk_frozen BK403.out 1; have hfz31_2 := blk_frozen BK403.out 2; have hfz31_3 := blk_frozen BK403.out 3) | ((with_reducible refine gate_dst (N := 49) rfl ?_); (try (refine gate_guard (by rfl) ?_; dsimp only)); refine Kd.R_lit k55 _ 55 ?hg (N := 49) ?hd (xs := ([(⟨a6_0, a6_1, a6_2, a6_3⟩ : S55)] : List (S55))) (inner := [.int .i64 a6_0, .string a6_1, .string a6_2, .int .u64 a6_3]) (ok := fun _ => True) (okp := fun _ => True) ?hr ?hp (fun _ hk => hk) trivial (Below.refl _ _) (Nat.le_refl _) (by simp) ?_; (case hd => rfl); (case hg => rfl); (case hr => first | (go_simp; done) | (go_simp; rfl)); (case hp => exact (Reps.c4 (show Kd.M k55 _ _ _ (⟨a6_0, a6_1, a6_2, a6_3⟩ : S55) [.int .i64 a6_0, .string a6_1, .string a6_2, .int .u64 a6_3] from (k55_mkM _ _ _ (⟨a6_0, a6_1, a6_2, a6_3⟩ : S55) )) (Reps.none _ _))); intro v407 w32 ho33 hb hg_ hnew_; clear hg_ hnew_; (first | rw [← Ny406.out] at ho33 | (simp only [Int.reduceToNat] at ho33; rw [← Ny406.out] at ho33)); have n0_ := Aside0.mk (Kd.R_lower (Kd.R_newB ho33 (g := gb403) (o := .cells #[.int .i64 a6_0, .string a6_1, .string a6_2, .int .u64 a6_3] 55 (0, 0)) (by (with_reducible repeat (first | refine blk_drewN ?_ _ | refine blk_drew ?_ | refine blk_alloc ?_ _)); exact BK403.out)) (below_size (by repeat (first | (with_reducible first | exact HB.out | apply below_alloc | apply pw_below_drewN | apply below_drew1 | refine below_set ?_ GE403.out) | exact HB.out)))); have n1_ := Aside0.mk (blk_below (g := gb403) (o := .cells #[.int .i64 a6_0, .string a6_1, .string a6_2, .int .u64 a6_3] 55 (0, 0)) (by (with_reducible repeat (first | refine blk_drewN ?_ _ | refine blk_drew ?_ | refine blk_alloc ?_ _)); exact BK403.out) hb); have n2_ := Aside0.mk (below_step (by repeat (first | (with_reducible first | exact HB.out | apply below_alloc | apply pw_below_drewN | apply below_drew1 | refine below_set ?_ GE403.out) | exact HB.out)) hb); clear BK403; clear HB; have HO408 := n0_; have BK403 := n1_; have HB := n2_; clear n0_ n1_ n2_; clear hb ho33; obtain ⟨Ao34, co34, eo34⟩ := Kd.R_slice HO408.out; subst eo34) | (go_at_call 28; (with_reducible refine (weirkeeperlaw09_short.calls k _ _ y406 true _ ?side1 ?side2 A18.out).mono ?_); (case side1 => repeat (first | exact (Kd.R_reads' HO408.out).2.2 | (with_reducible refine Kd.C_alloc ?_ _) | (with_reducible refine Kd.C_drewN ?_ _) | (with_reducible refine Kd.C_drew ?_))); (case side2 => exact (Kd.R_reads' HO408.out).2.1); rintro e w35 ⟨rfl, hb⟩; have n0_ := Aside0.mk (Kd.R_below (by (with_reducible repeat (first | apply Kd.R_alloc | apply Kd.R_drewN | apply Kd.R_drew)); exact HO408.out) hb); have n1_ := Aside0.mk (blk_below (g := gb403) (o := .cells #[.int .i64 a6_0, .string a6_1, .string a6_2, .int .u64 a6_3] 55 (0, 0)) (by (with_reducible repeat (first | refine blk_drewN ?_ _ | refine blk_drew ?_ | refine blk_alloc ?_ _)); exact BK403.out) hb); have n2_ := Aside0.mk (below_step (by repeat (first | (with_reducible first | exact HB.out | apply below_alloc | apply pw_below_drewN | apply below_drew1 | refine below_set ?_ GE403.out) | exact HB.out)) hb); clear HO408; clear BK403; clear HB; have HO408 := n0_; have BK403 := n1_; have HB := n2_; clear n0_ n1_ n2_; (try clear hb); (try clear hb2); (try clear hk); (try clear hi); have hcz36_0 : w35.cell? ⟨gb403, 0, none⟩ = some (.int .i64 a6_0) := (blk_cell BK403.out 0).trans rfl; have hcz36_1 : w35.cell? ⟨gb403, 1, none⟩ = some (.string a6_1) := (blk_cell BK403.out 1).trans rfl; have hcz36_2 : w35.cell? ⟨gb403, 2, none⟩ = some (.string a6_2) := (blk_cell BK403.out 2).trans rfl; have hcz36_3 : w35.cell? ⟨gb403, 3, none⟩ = some (.int .u64 a6_3) := (blk_cell BK403.out 3).trans rfl; have hfz36_0 := blk_frozen BK403.out 0; have hfz36_1 := blk_frozen BK403.out 1; have hfz36_2 := blk_frozen BK403.out 2; have hfz36_3 := blk_frozen BK403.out 3))
                    go_meet
                    case rel => exact ⟨_, ((a6_0 != 2)), (by first | rfl | (simp; done) | (simp [*]; done)), H', ⟨by first | omega | exact Nat.le_refl _⟩, ⟨by (with_reducible repeat (first | refine blk_drewN ?_ _ | refine blk_drew ?_ | refine blk_alloc ?_ _)); exact BK403.out⟩, ⟨by repeat (first | (with_reducible first | exact HB.out | apply below_alloc | apply pw_below_drewN | apply below_drew1 | refine below_set ?_ GE403.out) | exact HB.out)⟩⟩
                · replace c19 := Bool.eq_false_iff.mpr c19
                  subst c19
                  have H1 : (weirkeeperlaw09_NoteLast.j0 k a0 a1 a2 a3 l4 l5 true a6_0 a6_1 a6_2 a6_3) = some true := by rw [if_neg (show ¬ (false = true) by decide)] at H; exact H
                  clear H
                  have H := H1
                  clear H1
                  have H' := Aside0.mk H
                  clear H
                  go_wp2_with (first | (go_at_call 28; (with_reducible refine (weirkeeperlaw09_short.calls k _ _ l4 true _ ?side1 ?side2 A14.out).mono ?_); (case side1 => repeat (first | exact (Kd.C_below HR4.out HB.out) | (with_reducible refine Kd.C_alloc ?_ _) | (with_reducible refine Kd.C_drewN ?_ _) | (with_reducible refine Kd.C_drew ?_))); (case side2 => exact HC4.out); rintro e w37 ⟨rfl, hb⟩; have n0_ := Aside0.mk (blk_below (g := gb403) (o := .cells #[.int .i64 a6_0, .string a6_1, .string a6_2, .int .u64 a6_3] 55 (0, 0)) (by (with_reducible repeat (first | refine blk_drewN ?_ _ | refine blk_drew ?_ | refine blk_alloc ?_ _)); exact BK403.out) hb); have n1_ := Aside0.mk (below_step (by repeat (first | (with_reducible first | exact HB.out | apply below_alloc | apply pw_below_drewN | apply below_drew1 | refine below_set ?_ GE403.out) | exact HB.out)) hb); clear BK403; clear HB; have BK403 := n0_; have HB := n1_; clear n0_ n1_; (try clear hb); (try clear hb2); (try clear hk); (try clear hi)) | (go_at_call 28; (with_reducible refine (weirkeeperlaw09_short.calls k _ _ l5 true _ ?side1 ?side2 A16.out).mono ?_); (case side1 => repeat (first | exact (Kd.C_below HR5.out HB.out) | (with_reducible refine Kd.C_alloc ?_ _) | (with_reducible refine Kd.C_drewN ?_ _) | (with_reducible refine Kd.C_drew ?_))); (case side2 => exact HC5.out); rintro e w38 ⟨rfl, hb⟩; have n0_ := Aside0.mk (blk_below (g := gb403) (o := .cells #[.int .i64 a6_0, .string a6_1, .string a6_2, .int .u64 a6_3] 55 (0, 0)) (by (with_reducible repeat (first | refine blk_drewN ?_ _ | refine blk_drew ?_ | refine blk_alloc ?_ _)); exact BK403.out) hb); have n1_ := Aside0.mk (below_step (by repeat (first | (with_reducible first | exact HB.out | apply below_alloc | apply pw_below_drewN | apply below_drew1 | refine below_set ?_ GE403.out) | exact HB.out)) hb); clear BK403; clear HB; have BK403 := n0_; have HB := n1_; clear n0_ n1_; (try clear hb); (try clear hb2); (try clear hk); (try clear hi); have hcz39_0 : w38.cell? ⟨gb403, 0, none⟩ = some (.int .i64 a6_0) := (blk_cell BK403.out 0).trans rfl; have hcz39_1 : w38.cell? ⟨gb403, 1, none⟩ = some (.string a6_1) := (blk_cell BK403.out 1).trans rfl; have hcz39_2 : w38.cell? ⟨gb403, 2, none⟩ = some (.string a6_2) := (blk_cell BK403.out 2).trans rfl; have hcz39_3 : w38.cell? ⟨gb403, 3, none⟩ = some (.int .u64 a6_3) := (blk_cell BK403.out 3).trans rfl; have hfz39_0 := blk_frozen BK403.out 0; have hfz39_1 := blk_frozen BK403.out 1; have hfz39_2 := blk_frozen BK403.out 2; have hfz39_3 := blk_frozen BK403.out 3) | ((with_reducible refine gate_dst (N := 49) rfl ?_); (try (refine gate_guard (by rfl) ?_; dsimp only)); refine Kd.R_lit k55 _ 55 ?hg (N := 49) ?hd (xs := ([(⟨a6_0, a6_1, a6_2, a6_3⟩ : S55)] : List (S55))) (inner := [.int .i64 a6_0, .string a6_1, .string a6_2, .int .u64 a6_3]) (ok := fun _ => True) (okp := fun _ => True) ?hr ?hp (fun _ hk => hk) trivial (Below.refl _ _) (Nat.le_refl _) (by simp) ?_; (case hd => rfl); (case hg => rfl); (case hr => first | (go_simp; done) | (go_simp; rfl)); (case hp => exact (Reps.c4 (show Kd.M k55 _ _ _ (⟨a6_0, a6_1, a6_2, a6_3⟩ : S55) [.int .i64 a6_0, .string a6_1, .string a6_2, .int .u64 a6_3] from (k55_mkM _ _ _ (⟨a6_0, a6_1, a6_2, a6_3⟩ : S55) )) (Reps.none _ _))); intro v407 w40 ho41 hb hg_ hnew_; clear hg_ hnew_; (first | rw [← Ny406.out] at ho41 | (simp only [Int.reduceToNat] at ho41; rw [← Ny406.out] at ho41)); have n0_ := Aside0.mk (Kd.R_lower (Kd.R_newB ho41 (g := gb403) (o := .cells #[.int .i64 a6_0, .string a6_1, .string a6_2, .int .u64 a6_3] 55 (0, 0)) (by (with_reducible repeat (first | refine blk_drewN ?_ _ | refine blk_drew ?_ | refine blk_alloc ?_ _)); exact BK403.out)) (below_size (by repeat (first | (with_reducible first | exact HB.out | apply below_alloc | apply pw_below_drewN | apply below_drew1 | refine below_set ?_ GE403.out) | exact HB.out)))); have n1_ := Aside0.mk (blk_below (g := gb403) (o := .cells #[.int .i64 a6_0, .string a6_1, .string a6_2, .int .u64 a6_3] 55 (0, 0)) (by (with_reducible repeat (first | refine blk_drewN ?_ _ | refine blk_drew ?_ | refine blk_alloc ?_ _)); exact BK403.out) hb); have n2_ := Aside0.mk (below_step (by repeat (first | (with_reducible first | exact HB.out | apply below_alloc | apply pw_below_drewN | apply below_drew1 | refine below_set ?_ GE403.out) | exact HB.out)) hb); clear BK403; clear HB; have HO408 := n0_; have BK403 := n1_; have HB := n2_; clear n0_ n1_ n2_; clear hb ho41; obtain ⟨Ao42, co42, eo42⟩ := Kd.R_slice HO408.out; subst eo42) | (go_at_call 28; (with_reducible refine (weirkeeperlaw09_short.calls k _ _ y406 false _ ?side1 ?side2 A18.out).mono ?_); (case side1 => repeat (first | exact (Kd.R_reads' HO408.out).2.2 | (with_reducible refine Kd.C_alloc ?_ _) | (with_reducible refine Kd.C_drewN ?_ _) | (with_reducible refine Kd.C_drew ?_))); (case side2 => exact (Kd.R_reads' HO408.out).2.1); rintro e w43 ⟨rfl, hb⟩; have n0_ := Aside0.mk (Kd.R_below (by (with_reducible repeat (first | apply Kd.R_alloc | apply Kd.R_drewN | apply Kd.R_drew)); exact HO408.out) hb); have n1_ := Aside0.mk (blk_below (g := gb403) (o := .cells #[.int .i64 a6_0, .string a6_1, .string a6_2, .int .u64 a6_3] 55 (0, 0)) (by (with_reducible repeat (first | refine blk_drewN ?_ _ | refine blk_drew ?_ | refine blk_alloc ?_ _)); exact BK403.out) hb); have n2_ := Aside0.mk (below_step (by repeat (first | (with_reducible first | exact HB.out | apply below_alloc | apply pw_below_drewN | apply below_drew1 | refine below_set ?_ GE403.out) | exact HB.out)) hb); clear HO408; clear BK403; clear HB; have HO408 := n0_; have BK403 := n1_; have HB := n2_; clear n0_ n1_ n2_; (try clear hb); (try clear hb2); (try clear hk); (try clear hi)))
                  go_meet
                  case rel => exact ⟨_, (true), (by first | rfl | (simp; done) | (simp [*]; done)), H', ⟨by first | omega | exact Nat.le_refl _⟩, ⟨by (with_reducible repeat (first | refine blk_drewN ?_ _ | refine blk_drew ?_ | refine blk_alloc ?_ _)); exact BK403.out⟩, ⟨by repeat (first | (with_reducible first | exact HB.out | apply below_alloc | apply pw_below_drewN | apply below_drew1 | refine below_set ?_ GE403.out) | exact HB.out)⟩⟩
              · replace c17 := Bool.eq_false_iff.mpr c17
                subst c17
                have H1 : (weirkeeperlaw09_NoteLast.j0 k a0 a1 a2 a3 l4 l5 true a6_0 a6_1 a6_2 a6_3) = some true := by rw [if_neg (show ¬ (false = true) by decide)] at H; exact H
                clear H
                have H := H1
                clear H1
                have H' := Aside0.mk H
                clear H
                go_wp2_with (first | (go_at_call 28; (with_reducible refine (weirkeeperlaw09_short.calls k _ _ l4 true _ ?side1 ?side2 A14.out).mono ?_); (case side1 => repeat (first | exact (Kd.C_below HR4.out HB.out) | (with_reducible refine Kd.C_alloc ?_ _) | (with_reducible refine Kd.C_drewN ?_ _) | (with_reducible refine Kd.C_drew ?_))); (case side2 => exact HC4.out); rintro e w44 ⟨rfl, hb⟩; have n0_ := Aside0.mk (blk_below (g := gb403) (o := .cells #[.int .i64 a6_0, .string a6_1, .string a6_2, .int .u64 a6_3] 55 (0, 0)) (by (with_reducible repeat (first | refine blk_drewN ?_ _ | refine blk_drew ?_ | refine blk_alloc ?_ _)); exact BK403.out) hb); have n1_ := Aside0.mk (below_step (by repeat (first | (with_reducible first | exact HB.out | apply below_alloc | apply pw_below_drewN | apply below_drew1 | refine below_set ?_ GE403.out) | exact HB.out)) hb); clear BK403; clear HB; have BK403 := n0_; have HB := n1_; clear n0_ n1_; (try clear hb); (try clear hb2); (try clear hk); (try clear hi)) | (go_at_call 28; (with_reducible refine (weirkeeperlaw09_short.calls k _ _ l5 false _ ?side1 ?side2 A16.out).mono ?_); (case side1 => repeat (first | exact (Kd.C_below HR5.out HB.out) | (with_reducible refine Kd.C_alloc ?_ _) | (with_reducible refine Kd.C_drewN ?_ _) | (with_reducible refine Kd.C_drew ?_))); (case side2 => exact HC5.out); rintro e w45 ⟨rfl, hb⟩; have n0_ := Aside0.mk (blk_below (g := gb403) (o := .cells #[.int .i64 a6_0, .string a6_1, .string a6_2, .int .u64 a6_3] 55 (0, 0)) (by (with_reducible repeat (first | refine blk_drewN ?_ _ | refine blk_drew ?_ | refine blk_alloc ?_ _)); exact BK403.out) hb); have n1_ := Aside0.mk (below_step (by repeat (first | (with_reducible first | exact HB.out | apply below_alloc | apply pw_below_drewN | apply below_drew1 | refine below_set ?_ GE403.out) | exact HB.out)) hb); clear BK403; clear HB; have BK403 := n0_; have HB := n1_; clear n0_ n1_; (try clear hb); (try clear hb2); (try clear hk); (try clear hi)))
                go_meet
                case rel => exact ⟨_, (true), (by first | rfl | (simp; done) | (simp [*]; done)), H', ⟨by first | omega | exact Nat.le_refl _⟩, ⟨by (with_reducible repeat (first | refine blk_drewN ?_ _ | refine blk_drew ?_ | refine blk_alloc ?_ _)); exact BK403.out⟩, ⟨by repeat (first | (with_reducible first | exact HB.out | apply below_alloc | apply pw_below_drewN | apply below_drew1 | refine below_set ?_ GE403.out) | exact HB.out)⟩⟩
            · replace c15 := Bool.eq_false_iff.mpr c15
              subst c15
              have H1 : (weirkeeperlaw09_NoteLast.j0 k a0 a1 a2 a3 l4 l5 true a6_0 a6_1 a6_2 a6_3) = some true := by rw [if_neg (show ¬ (false = true) by decide)] at H; exact H
              clear H
              have H := H1
              clear H1
              have H' := Aside0.mk H
              clear H
              go_wp2_with (first | (go_at_call 28; (with_reducible refine (weirkeeperlaw09_short.calls k _ _ l4 false _ ?side1 ?side2 A14.out).mono ?_); (case side1 => repeat (first | exact (Kd.C_below HR4.out HB.out) | (with_reducible refine Kd.C_alloc ?_ _) | (with_reducible refine Kd.C_drewN ?_ _) | (with_reducible refine Kd.C_drew ?_))); (case side2 => exact HC4.out); rintro e w46 ⟨rfl, hb⟩; have n0_ := Aside0.mk (blk_below (g := gb403) (o := .cells #[.int .i64 a6_0, .string a6_1, .string a6_2, .int .u64 a6_3] 55 (0, 0)) (by (with_reducible repeat (first | refine blk_drewN ?_ _ | refine blk_drew ?_ | refine blk_alloc ?_ _)); exact BK403.out) hb); have n1_ := Aside0.mk (below_step (by repeat (first | (with_reducible first | exact HB.out | apply below_alloc | apply pw_below_drewN | apply below_drew1 | refine below_set ?_ GE403.out) | exact HB.out)) hb); clear BK403; clear HB; have BK403 := n0_; have HB := n1_; clear n0_ n1_; (try clear hb); (try clear hb2); (try clear hk); (try clear hi)))
              go_meet
              case rel => exact ⟨_, (true), (by first | rfl | (simp; done) | (simp [*]; done)), H', ⟨by first | omega | exact Nat.le_refl _⟩, ⟨by (with_reducible repeat (first | refine blk_drewN ?_ _ | refine blk_drew ?_ | refine blk_alloc ?_ _)); exact BK403.out⟩, ⟨by repeat (first | (with_reducible first | exact HB.out | apply below_alloc | apply pw_below_drewN | apply below_drew1 | refine below_set ?_ GE403.out) | exact HB.out)⟩⟩
  case rest =>
    clear HC8
    try clear c1
    try clear c2
    try clear p2
    try clear c4
    try clear c5
    try clear c10
    try clear c10b0
    try clear c10b1
    try clear c11
    try clear c11b0
    try clear c11b1
    try clear c12
    try clear c12b0
    try clear c12b1
    try clear c13
    try clear c13b0
    try clear c13b1
    try clear c15
    try clear c17
    try clear c19
    try clear c20
    try clear c20b0
    try clear c20b1
    try clear hcz23_0
    try clear hcz23_1
    try clear hcz23_2
    try clear hcz23_3
    try clear hcz28_0
    try clear hcz28_1
    try clear hcz28_2
    try clear hcz28_3
    try clear hcz31_0
    try clear hcz31_1
    try clear hcz31_2
    try clear hcz31_3
    try clear hcz36_0
    try clear hcz36_1
    try clear hcz36_2
    try clear hcz36_3
    try clear hcz39_0
    try clear hcz39_1
    try clear hcz39_2
    try clear hcz39_3
    try clear hfz23_0
    try clear hfz23_1
    try clear hfz23_2
    try clear hfz23_3
    try clear hfz28_0
    try clear hfz28_1
    try clear hfz28_2
    try clear hfz28_3
    try clear hfz31_0
    try clear hfz31_1
    try clear hfz31_2
    try clear hfz31_3
    try clear hfz36_0
    try clear hfz36_1
    try clear hfz36_2
    try clear hfz36_3
    try clear hfz39_0
    try clear hfz39_1
    try clear hfz39_2
    try clear hfz39_3
    obtain ⟨kq, x62_7, rfl, HA, HJ7, BK403, HB⟩ := hcut
    cases kq with
    | zero => exact absurd HA.out (by simp [weirkeeperlaw09_NoteLast.j0])
    | succ kj7 =>
      have H := HA.out
      clear HA
      simp only [weirkeeperlaw09_NoteLast.j0] at H
      by_cases c47 : x62_7 = true
      · subst c47
        have H1 : ((weirkeeperlaw09_awake.f kj7).bind fun t410 => (some t410)) = some true := by rw [if_pos rfl] at H; exact H
        clear H
        have H := H1
        clear H1
        replace H := Option.bind_eq_some_iff.mp H
        obtain ⟨t410, A480, H⟩ := H
        replace H : (some t410) = some true := H
        have A48 := Aside0.mk A480
        clear A480
        (have H9_ := Option.some.inj H; first | subst H9_ | clear H9_)
        go_wp2_with (first | ((with_reducible refine gate_callee (f := 29) rfl ?_); refine goesL_ (some 63) rfl rfl Try.func29 (by kernel_rfl) rfl #[] rfl (by (try simp only [List.map_toArray, List.map_cons, List.map_nil]); first | done | rfl | (simp only [List.length_drop, List.length_take]; rfl)) ?_; (with_reducible refine (weirkeeperlaw09_awake.calls kj7 _ A48.out).mono ?_); rintro e w49 ⟨rfl, hb⟩; refine ⟨_, rfl, ?_⟩; have n0_ := Aside0.mk (blk_below (g := gb403) (o := .cells #[.int .i64 a6_0, .string a6_1, .string a6_2, .int .u64 a6_3] 55 (0, 0)) (by (with_reducible repeat (first | refine blk_drewN ?_ _ | refine blk_drew ?_ | refine blk_alloc ?_ _)); exact BK403.out) hb); have n1_ := Aside0.mk (below_step (by repeat (first | (with_reducible first | exact HB.out | apply below_alloc | apply pw_below_drewN | apply below_drew1 | refine below_set ?_ GE403.out) | exact HB.out)) hb); clear BK403; clear HB; have BK403 := n0_; have HB := n1_; clear n0_ n1_; (try clear hb); (try clear hb2); (try clear hk); (try clear hi)))
        go_ret
        exact ⟨by first | rfl | (simp [errW_none, errW_some] <;> rfl) | (simp [*, errW_none, errW_some] <;> rfl), by repeat (first | (with_reducible first | exact HB.out | apply below_alloc | apply pw_below_drewN | apply below_drew1 | refine below_set ?_ GE403.out) | exact HB.out)⟩
      · replace c47 := Bool.eq_false_iff.mpr c47
        subst c47
        have H1 : ((some (([] : List (S55)) : List (S55))).bind fun y411 => (if y411.length + l4.length < 2932031007402 then ((some (y411 ++ l4 : List (S55))).bind fun y414 => ((some (([(⟨a6_0, a6_1, a6_2, a6_3⟩ : S55)] : List (S55)) : List (S55))).bind fun y417 => (if y414.length + y417.length < 2932031007402 then ((some (y414 ++ y417 : List (S55))).bind fun y420 => (if y420.length + l5.length < 2932031007402 then ((note_Done.f kj7 a0 a2 (y420 ++ l5)).bind fun bt426 => ((some (([(⟨a6_0, a6_1, a6_2, a6_3⟩ : S55)] : List (S55)) : List (S55))).bind fun y428 => (if y428.length + l5.length < 2932031007402 then ((note_Done.f kj7 a1 a3 (y428 ++ l5)).bind fun bt434 => (if bt426.1.toList = bt434.1.toList then (if (bt426.2 == bt434.2) = true then ((weirkeeperlaw09_awake.f kj7).bind fun t436 => (some t436)) else (some false)) else (some false))) else (none)))) else (none))) else (none)))) else (none))) = some true := by rw [if_neg (show ¬ (false = true) by decide)] at H; exact H
        clear H
        have H := H1
        clear H1
        obtain ⟨y411, hy411⟩ : ∃ y_ : List (S55), y_ = (([] : List (S55))) := ⟨_, rfl⟩
        replace H : (if y411.length + l4.length < 2932031007402 then ((some (y411 ++ l4 : List (S55))).bind fun y414 => ((some (([(⟨a6_0, a6_1, a6_2, a6_3⟩ : S55)] : List (S55)) : List (S55))).bind fun y417 => (if y414.length + y417.length < 2932031007402 then ((some (y414 ++ y417 : List (S55))).bind fun y420 => (if y420.length + l5.length < 2932031007402 then ((note_Done.f kj7 a0 a2 (y420 ++ l5)).bind fun bt426 => ((some (([(⟨a6_0, a6_1, a6_2, a6_3⟩ : S55)] : List (S55)) : List (S55))).bind fun y428 => (if y428.length + l5.length < 2932031007402 then ((note_Done.f kj7 a1 a3 (y428 ++ l5)).bind fun bt434 => (if bt426.1.toList = bt434.1.toList then (if (bt426.2 == bt434.2) = true then ((weirkeeperlaw09_awake.f kj7).bind fun t436 => (some t436)) else (some false)) else (some false))) else (none)))) else (none))) else (none)))) else (none)) = some true := by first | (rw [hy411]; with_reducible exact H) | (have H2_ := (Option.bind_some _ _).symm.trans H; rw [hy411]; with_reducible exact H2_) | (have H2_ := (Option.bind_some _ _).symm.trans H; with_reducible exact H2_) | with_reducible exact H | (rw [hy411]; exact H) | exact H
        have Ny411 := Aside0.mk hy411
        clear hy411
        by_cases c50 : y411.length + l4.length < 2932031007402
        · rw [if_pos c50] at H
          have LMc50 := Aside0.mk c50
          clear c50
          obtain ⟨y414, hy414⟩ : ∃ y_ : List (S55), y_ = (y411 ++ l4) := ⟨_, rfl⟩
          replace H : ((some (([(⟨a6_0, a6_1, a6_2, a6_3⟩ : S55)] : List (S55)) : List (S55))).bind fun y417 => (if y414.length + y417.length < 2932031007402 then ((some (y414 ++ y417 : List (S55))).bind fun y420 => (if y420.length + l5.length < 2932031007402 then ((note_Done.f kj7 a0 a2 (y420 ++ l5)).bind fun bt426 => ((some (([(⟨a6_0, a6_1, a6_2, a6_3⟩ : S55)] : List (S55)) : List (S55))).bind fun y428 => (if y428.length + l5.length < 2932031007402 then ((note_Done.f kj7 a1 a3 (y428 ++ l5)).bind fun bt434 => (if bt426.1.toList = bt434.1.toList then (if (bt426.2 == bt434.2) = true then ((weirkeeperlaw09_awake.f kj7).bind fun t436 => (some t436)) else (some false)) else (some false))) else (none)))) else (none))) else (none))) = some true := by first | (rw [hy414]; with_reducible exact H) | (have H2_ := (Option.bind_some _ _).symm.trans H; rw [hy414]; with_reducible exact H2_) | (have H2_ := (Option.bind_some _ _).symm.trans H; with_reducible exact H2_) | with_reducible exact H | (rw [hy414]; exact H) | exact H
          have Ny414 := Aside0.mk hy414
          clear hy414
          obtain ⟨y417, hy417⟩ : ∃ y_ : List (S55), y_ = (([(⟨a6_0, a6_1, a6_2, a6_3⟩ : S55)] : List (S55))) := ⟨_, rfl⟩
          replace H : (if y414.length + y417.length < 2932031007402 then ((some (y414 ++ y417 : List (S55))).bind fun y420 => (if y420.length + l5.length < 2932031007402 then ((note_Done.f kj7 a0 a2 (y420 ++ l5)).bind fun bt426 => ((some (([(⟨a6_0, a6_1, a6_2, a6_3⟩ : S55)] : List (S55)) : List (S55))).bind fun y428 => (if y428.length + l5.length < 2932031007402 then ((note_Done.f kj7 a1 a3 (y428 ++ l5)).bind fun bt434 => (if bt426.1.toList = bt434.1.toList then (if (bt426.2 == bt434.2) = true then ((weirkeeperlaw09_awake.f kj7).bind fun t436 => (some t436)) else (some false)) else (some false))) else (none)))) else (none))) else (none)) = some true := by first | (rw [hy417]; with_reducible exact H) | (have H2_ := (Option.bind_some _ _).symm.trans H; rw [hy417]; with_reducible exact H2_) | (have H2_ := (Option.bind_some _ _).symm.trans H; with_reducible exact H2_) | with_reducible exact H | (rw [hy417]; exact H) | exact H
          have Ny417 := Aside0.mk hy417
          clear hy417
          by_cases c51 : y414.length + y417.length < 2932031007402
          · rw [if_pos c51] at H
            have LMc51 := Aside0.mk c51
            clear c51
            obtain ⟨y420, hy420⟩ : ∃ y_ : List (S55), y_ = (y414 ++ y417) := ⟨_, rfl⟩
            replace H : (if y420.length + l5.length < 2932031007402 then ((note_Done.f kj7 a0 a2 (y420 ++ l5)).bind fun bt426 => ((some (([(⟨a6_0, a6_1, a6_2, a6_3⟩ : S55)] : List (S55)) : List (S55))).bind fun y428 => (if y428.length + l5.length < 2932031007402 then ((note_Done.f kj7 a1 a3 (y428 ++ l5)).bind fun bt434 => (if bt426.1.toList = bt434.1.toList then (if (bt426.2 == bt434.2) = true then ((weirkeeperlaw09_awake.f kj7).bind fun t436 => (some t436)) else (some false)) else (some false))) else (none)))) else (none)) = some true := by first | (rw [hy420]; with_reducible exact H) | (have H2_ := (Option.bind_some _ _).symm.trans H; rw [hy420]; with_reducible exact H2_) | (have H2_ := (Option.bind_some _ _).symm.trans H; with_reducible exact H2_) | with_reducible exact H | (rw [hy420]; exact H) | exact H
            have Ny420 := Aside0.mk hy420
            clear hy420
            by_cases c52 : y420.length + l5.length < 2932031007402
            · rw [if_pos c52] at H
              have LMc52 := Aside0.mk c52
              clear c52
              obtain ⟨y423, hy423⟩ : ∃ y_ : List (S55), y_ = (y420 ++ l5) := ⟨_, rfl⟩
              replace H : ((note_Done.f kj7 a0 a2 y423).bind fun bt426 => ((some (([(⟨a6_0, a6_1, a6_2, a6_3⟩ : S55)] : List (S55)) : List (S55))).bind fun y428 => (if y428.length + l5.length < 2932031007402 then ((note_Done.f kj7 a1 a3 (y428 ++ l5)).bind fun bt434 => (if bt426.1.toList = bt434.1.toList then (if (bt426.2 == bt434.2) = true then ((weirkeeperlaw09_awake.f kj7).bind fun t436 => (some t436)) else (some false)) else (some false))) else (none)))) = some true := by first | (rw [hy423]; with_reducible exact H) | (have H2_ := (Option.bind_some _ _).symm.trans H; rw [hy423]; with_reducible exact H2_) | (have H2_ := (Option.bind_some _ _).symm.trans H; with_reducible exact H2_) | with_reducible exact H | (rw [hy423]; exact H) | exact H
              have Ny423 := Aside0.mk hy423
              clear hy423
              replace H := Option.bind_eq_some_iff.mp H
              obtain ⟨⟨t426, t427⟩, A530, H⟩ := H
              replace H : ((some (([(⟨a6_0, a6_1, a6_2, a6_3⟩ : S55)] : List (S55)) : List (S55))).bind fun y428 => (if y428.length + l5.length < 2932031007402 then ((note_Done.f kj7 a1 a3 (y428 ++ l5)).bind fun bt434 => (if t426.toList = bt434.1.toList then (if (t427 == bt434.2) = true then ((weirkeeperlaw09_awake.f kj7).bind fun t436 => (some t436)) else (some false)) else (some false))) else (none))) = some true := H
              have A53 := Aside0.mk A530
              clear A530
              obtain ⟨y428, hy428⟩ : ∃ y_ : List (S55), y_ = (([(⟨a6_0, a6_1, a6_2, a6_3⟩ : S55)] : List (S55))) := ⟨_, rfl⟩
              replace H : (if y428.length + l5.length < 2932031007402 then ((note_Done.f kj7 a1 a3 (y428 ++ l5)).bind fun bt434 => (if t426.toList = bt434.1.toList then (if (t427 == bt434.2) = true then ((weirkeeperlaw09_awake.f kj7).bind fun t436 => (some t436)) else (some false)) else (some false))) else (none)) = some true := by first | (rw [hy428]; with_reducible exact H) | (have H2_ := (Option.bind_some _ _).symm.trans H; rw [hy428]; with_reducible exact H2_) | (have H2_ := (Option.bind_some _ _).symm.trans H; with_reducible exact H2_) | with_reducible exact H | (rw [hy428]; exact H) | exact H
              have Ny428 := Aside0.mk hy428
              clear hy428
              by_cases c54 : y428.length + l5.length < 2932031007402
              · rw [if_pos c54] at H
                have LMc54 := Aside0.mk c54
                clear c54
                obtain ⟨y431, hy431⟩ : ∃ y_ : List (S55), y_ = (y428 ++ l5) := ⟨_, rfl⟩
                replace H : ((note_Done.f kj7 a1 a3 y431).bind fun bt434 => (if t426.toList = bt434.1.toList then (if (t427 == bt434.2) = true then ((weirkeeperlaw09_awake.f kj7).bind fun t436 => (some t436)) else (some false)) else (some false))) = some true := by first | (rw [hy431]; with_reducible exact H) | (have H2_ := (Option.bind_some _ _).symm.trans H; rw [hy431]; with_reducible exact H2_) | (have H2_ := (Option.bind_some _ _).symm.trans H; with_reducible exact H2_) | with_reducible exact H | (rw [hy431]; exact H) | exact H
                have Ny431 := Aside0.mk hy431
                clear hy431
                replace H := Option.bind_eq_some_iff.mp H
                obtain ⟨⟨t434, t435⟩, A550, H⟩ := H
                replace H : (if t426.toList = t434.toList then (if (t427 == t435) = true then ((weirkeeperlaw09_awake.f kj7).bind fun t436 => (some t436)) else (some false)) else (some false)) = some true := H
                have A55 := Aside0.mk A550
                clear A550
                by_cases c56 : t426.toList = t434.toList
                · rw [if_pos c56] at H
                  have c56b0 : (t426.toList == t434.toList) = true := beq_iff_eq.mpr c56
                  have c56b1 : (t426.toList != t434.toList) = false := bne_eq_false_iff_eq.mpr c56
                  clear c56
                  by_cases c57 : (t427 == t435) = true
                  · rw [if_pos c57] at H
                    have c57b0 : (t427 == t435) = true := c57
                    (try (have c57b1 : decide (t427 = t435) = true := by simpa using c57))
                    (try (have c57b2 : (t427 == t435) = true := by simpa using c57))
                    clear c57
                    replace H := Option.bind_eq_some_iff.mp H
                    obtain ⟨t436, A580, H⟩ := H
                    replace H : (some t436) = some true := H
                    have A58 := Aside0.mk A580
                    clear A580
                    (have H9_ := Option.some.inj H; first | subst H9_ | clear H9_)
                    try go_wp2
                    have n0_ := Aside0.mk (blk_drew BK403.out)
                    have n1_ := Aside0.mk (below_drew1 HB.out)
                    clear BK403
                    clear HB
                    have BK403 := n0_
                    have HB := n1_
                    clear n0_ n1_
                    refine start_ (n := 16) (S := fun w' => w'.cell? ⟨gb403, 0, none⟩ = some (.int .i64 a6_0) ∧ w'.cell? ⟨gb403, 1, none⟩ = some (.string a6_1) ∧ w'.cell? ⟨gb403, 2, none⟩ = some (.string a6_2) ∧ w'.cell? ⟨gb403, 3, none⟩ = some (.int .u64 a6_3)) (ds := []) #[false, false, false, false, false, false, false, false, false, false, false, false, false, false, false, false] (by kernel_rfl) rfl rfl ⟨(blk_cell BK403.out 0).trans rfl, (blk_cell BK403.out 1).trans rfl, (blk_cell BK403.out 2).trans rfl, (blk_cell BK403.out 3).trans rfl⟩ (fun hHeld => ?_); refine with_tabW weirkeeperlaw09_NoteLast.tab3 weirkeeperlaw09_NoteLast.bits3 (fun HT_ HW_ => ?_)
                    generalize wc.drew = w59 at BK403 HB hHeld ⊢
                    refine pure_ (i := 0) (N := some 65) (v := ?_) (a' := ?_) #[true, false, false, false, false, false, false, false, false, false, false, false, false, false, false, false] rfl rfl (any_of HT_.out (by kernel_rfl)) (fun _ _ _ h => h) (Or.inl ⟨by rfl, ?_⟩) ?_ ?_
                    rotate_left
                    · intro w'
                      go_simp
                      with_reducible rfl
                    rotate_left
                    · simp only [Act.put, List.setIfInBounds_toArray, List.set_cons_zero, List.set_cons_succ, i64_w, i32_w]
                      rfl
                    refine pure_ (i := 1) (N := some 66) (v := ?_) (a' := ?_) #[true, true, false, false, false, false, false, false, false, false, false, false, false, false, false, false] rfl rfl (any_of HT_.out (by kernel_rfl)) (fun _ _ _ h => h) (Or.inl ⟨by rfl, ?_⟩) ?_ ?_
                    rotate_left
                    · intro w'
                      go_simp
                      with_reducible rfl
                    rotate_left
                    · simp only [Act.put, List.setIfInBounds_toArray, List.set_cons_zero, List.set_cons_succ, i64_w, i32_w]
                      rfl
                    refine pure_ (i := 3) (N := some 68) (v := ?_) (a' := ?_) #[true, true, false, true, false, false, false, false, false, false, false, false, false, false, false, false] rfl rfl (any_of HT_.out (by kernel_rfl)) (fun _ _ _ h => h) (Or.inl ⟨by rfl, ?_⟩) ?_ ?_
                    rotate_left
                    · intro w'
                      go_simp
                      with_reducible rfl
                    rotate_left
                    · simp only [Act.put, List.setIfInBounds_toArray, List.set_cons_zero, List.set_cons_succ, i64_w, i32_w]
                      rfl
                    refine pure_ (i := 8) (N := some 73) (v := ?_) (a' := ?_) #[true, true, false, true, false, false, false, false, true, false, false, false, false, false, false, false] rfl rfl (any_of HT_.out (by kernel_rfl)) (fun _ _ _ h => h) (Or.inl ⟨by rfl, ?_⟩) ?_ ?_
                    rotate_left
                    · intro w'
                      go_simp
                      with_reducible rfl
                    rotate_left
                    · simp only [Act.put, List.setIfInBounds_toArray, List.set_cons_zero, List.set_cons_succ, i64_w, i32_w]
                      rfl
                    refine take_ (i := 5) (N := some 70) (v := ?_) (a' := ?_) #[true, true, false, true, false, true, false, false, true, false, false, false, false, false, false, false] rfl rfl (take_ofW HT_.out HW_.out (by kernel_rfl)) (fun _ _ _ h => h) (Or.inl ⟨by rfl, ?_⟩) hHeld ?_ ?_
                    rotate_left
                    · rintro w' ⟨s0, s1, s2, s3⟩
                      go_simp
                      with_reducible rfl
                    rotate_left
                    · simp only [Act.put, List.setIfInBounds_toArray, List.set_cons_zero, List.set_cons_succ, i64_w, i32_w]
                      rfl
                    refine join_ (σ := Value × Value × Value) 8 #[true, true, true, true, true, true, true, false, true, false, false, false, false, false, false, false] (fun s_ => [(67, s_.1), (69, s_.2.1), (71, s_.2.2)]) (fun s_ w' => (w'.cell? ⟨gb403, 0, none⟩ = some (.int .i64 a6_0) ∧ w'.cell? ⟨gb403, 1, none⟩ = some (.string a6_1) ∧ w'.cell? ⟨gb403, 2, none⟩ = some (.string a6_2) ∧ w'.cell? ⟨gb403, 3, none⟩ = some (.int .u64 a6_3)) ∧ (Kd.R k55 55 w' w.heap.size (fun k_ => some k_ ≠ (s_.2.2 : Value).ownBlock ∧ k_ ≠ gb403) s_.2.1 y414) ∧ (Kd.R k55 55 w' w.heap.size (fun k_ => some k_ ≠ (s_.2.1 : Value).ownBlock ∧ k_ ≠ gb403) s_.2.2 y417) ∧ (w'.heap[gb403]? = some (.cells #[.int .i64 a6_0, .string a6_1, .string a6_2, .int .u64 a6_3] 55 (0, 0))) ∧ (Below w.heap.size w w')) ?_ ?_
                    rotate_left
                    · intro hCont
                      refine two_ (i := 2) (j := 6) (Ni := some 67) (Nj := some 71) #[true, true, true, true, false, true, false, false, true, false, false, false, false, false, false, false] #[true, true, false, true, false, true, true, false, true, false, false, false, false, false, false, false] rfl rfl rfl rfl (two_of HT_.out (by kernel_rfl)) (by decide) (by decide) (fun K hK => ?_) (fun K hK => ?_)
                      · skip
                        refine Kd.R_lit_step k55 _ 55 ?hg (N := 67) ?hd (xs := ([] : List (S55))) (inner := []) (ok := fun _ => True) (okp := fun _ => True) ?hr ?hp (fun _ hk => hk) trivial (Below.refl _ _) (Nat.le_refl _) (by simp) ?_; (case hd => rfl); (case hg => rfl); (case hr => first | (go_simp; done) | (go_simp; rfl)); (case hp => exact (Reps.none _ _))
                        intro v412 w60 ho61 hb hg_ hnew_
                        clear hg_ hnew_
                        (first | rw [← Ny411.out] at ho61 | (simp only [Int.reduceToNat] at ho61; rw [← Ny411.out] at ho61))
                        have n0_ := Aside0.mk (Kd.R_lower (Kd.R_newB ho61 (g := gb403) (o := .cells #[.int .i64 a6_0, .string a6_1, .string a6_2, .int .u64 a6_3] 55 (0, 0)) (by (with_reducible repeat (first | refine blk_drewN ?_ _ | refine blk_drew ?_ | refine blk_alloc ?_ _)); exact BK403.out)) (below_size (by repeat (first | (with_reducible first | exact HB.out | apply below_alloc | apply pw_below_drewN | apply below_drew1 | refine below_set ?_ GE403.out) | exact HB.out))))
                        have n1_ := Aside0.mk (blk_below (g := gb403) (o := .cells #[.int .i64 a6_0, .string a6_1, .string a6_2, .int .u64 a6_3] 55 (0, 0)) (by (with_reducible repeat (first | refine blk_drewN ?_ _ | refine blk_drew ?_ | refine blk_alloc ?_ _)); exact BK403.out) hb)
                        have n2_ := Aside0.mk (below_step (by repeat (first | (with_reducible first | exact HB.out | apply below_alloc | apply pw_below_drewN | apply below_drew1 | refine below_set ?_ GE403.out) | exact HB.out)) hb)
                        clear BK403
                        clear HB
                        have HO413 := n0_
                        have BK403 := n1_
                        have HB := n2_
                        clear n0_ n1_ n2_
                        clear hb ho61
                        refine hK.out _ _ ⟨(blk_cell BK403.out 0).trans rfl, (blk_cell BK403.out 1).trans rfl, (blk_cell BK403.out 2).trans rfl, (blk_cell BK403.out 3).trans rfl⟩ (fun hHeld => ?_)
                        clear hK K
                        refine norm_ (a' := ?_) ?_ ?_
                        rotate_left
                        · show Act.put _ (some 67) _ = _
                          simp only [Act.put, List.setIfInBounds_toArray, List.set_cons_zero, List.set_cons_succ, i64_w, i32_w]
                          rfl
                        refine two_ (i := 4) (j := 6) (Ni := some 69) (Nj := some 71) #[true, true, true, true, true, true, false, false, true, false, false, false, false, false, false, false] #[true, true, true, true, false, true, true, false, true, false, false, false, false, false, false, false] rfl rfl rfl rfl (two_of HT_.out (by kernel_rfl)) (by decide) (by decide) (fun K hK => ?_) (fun K hK => ?_)
                        · skip
                          refine Kd.R_append_rows_step k55 (w0 := w) w.heap.size (by rfl) (.tmp 67) (.tmp 68) 63 55 (.agg #[(.int .i64 0), (.string ⟨#[]⟩), (.string ⟨#[]⟩), (.int .u64 0)]) 48 rfl Try.underlying63 info55 rfl (by decide) (by omega) v412 y411 l4 _ _ _ (fun k_ => k_ ≠ gb403) (fun _ => False) rfl rfl ?aO ?aR (fun _ _ h => h) (fun _ h => h.elim) ?aF ?aB ?aS ?aL ?_
                          (case aR => repeat (first | exact (Kd.C_below HR4.out HB.out) | (with_reducible refine Kd.C_alloc ?_ _) | (with_reducible refine Kd.C_drewN ?_ _) | (with_reducible refine Kd.C_drew ?_)))
                          (case aB => exact (by repeat (first | (with_reducible first | exact HB.out | apply below_alloc | apply pw_below_drewN | apply below_drew1 | refine below_set ?_ GE403.out) | exact HB.out)))
                          (case aF => exact (fun k_ hk => Kd.freshB (g := gb403) (o := .cells #[.int .i64 a6_0, .string a6_1, .string a6_2, .int .u64 a6_3] 55 (0, 0)) (by (with_reducible repeat (first | refine blk_drewN ?_ _ | refine blk_drew ?_ | refine blk_alloc ?_ _)); exact BK403.out) k_ hk))
                          (case aO => exact (by (with_reducible repeat (first | apply Kd.R_alloc | apply Kd.R_drewN | apply Kd.R_drew)); exact Kd.R_mono HO413.out (fun _ hk => hk.2)))
                          (case aS => exact (below_size (by repeat (first | (with_reducible first | exact HB.out | apply below_alloc | apply pw_below_drewN | apply below_drew1 | refine below_set ?_ GE403.out) | exact HB.out))))
                          (case aL => have := LMc50.out; omega)
                          intro v415 w62 ho hb hg hat
                          rw [← Ny414.out] at ho
                          have n0_ := Aside0.mk (blk_grown (g := gb403) (o := .cells #[.int .i64 a6_0, .string a6_1, .string a6_2, .int .u64 a6_3] 55 (0, 0)) (by (with_reducible repeat (first | refine blk_drewN ?_ _ | refine blk_drew ?_ | refine blk_alloc ?_ _)); exact BK403.out) hg (Kd.R_away HO413.out (fun _ hk => hk.2)))
                          have n1_ := Aside0.mk (hb)
                          have n2_ := Aside0.mk (ho)
                          clear BK403
                          clear HB
                          clear HO413
                          have BK403 := n0_
                          have HB := n1_
                          have HO416 := n2_
                          clear n0_ n1_ n2_
                          clear ho hb hg hat
                          refine hK.out _ _ ⟨(blk_cell BK403.out 0).trans rfl, (blk_cell BK403.out 1).trans rfl, (blk_cell BK403.out 2).trans rfl, (blk_cell BK403.out 3).trans rfl⟩ (fun hHeld => ?_)
                          clear hK K
                          refine norm_ (a' := ?_) ?_ ?_
                          rotate_left
                          · show Act.put _ (some 69) _ = _
                            simp only [Act.put, List.setIfInBounds_toArray, List.set_cons_zero, List.set_cons_succ, i64_w, i32_w]
                            rfl
                          refine one_ (i := 6) (N := some 71) #[true, true, true, true, true, true, true, false, true, false, false, false, false, false, false, false] rfl rfl (one_of HT_.out (by kernel_rfl)) (by decide) (fun K hK => ?_)
                          refine Kd.R_lit_step k55 _ 55 ?hg (N := 71) ?hd (xs := ([(⟨a6_0, a6_1, a6_2, a6_3⟩ : S55)] : List (S55))) (inner := [.int .i64 a6_0, .string a6_1, .string a6_2, .int .u64 a6_3]) (ok := fun _ => True) (okp := fun _ => True) ?hr ?hp (fun _ hk => hk) trivial (Below.refl _ _) (Nat.le_refl _) (by simp) ?_; (case hd => rfl); (case hg => rfl); (case hr => first | (go_simp; done) | (go_simp; rfl)); (case hp => exact (Reps.c4 (show Kd.M k55 _ _ _ (⟨a6_0, a6_1, a6_2, a6_3⟩ : S55) [.int .i64 a6_0, .string a6_1, .string a6_2, .int .u64 a6_3] from (k55_mkM _ _ _ (⟨a6_0, a6_1, a6_2, a6_3⟩ : S55) )) (Reps.none _ _)))
                          intro v418 w63 ho64 hb hg_ hnew_
                          clear hg_ hnew_
                          (first | rw [← Ny417.out] at ho64 | (simp only [Int.reduceToNat] at ho64; rw [← Ny417.out] at ho64))
                          have n0_ := Aside0.mk (Kd.R_elder' (by (with_reducible repeat (first | apply Kd.R_alloc | apply Kd.R_drewN | apply Kd.R_drew)); exact HO416.out) (Kd.R_base ho64) hb)
                          have n1_ := Aside0.mk (Kd.R_lower (Kd.R_newB (Kd.R_new' ho64 (Kd.R_lt (by (with_reducible repeat (first | apply Kd.R_alloc | apply Kd.R_drewN | apply Kd.R_drew)); exact HO416.out))) (g := gb403) (o := .cells #[.int .i64 a6_0, .string a6_1, .string a6_2, .int .u64 a6_3] 55 (0, 0)) (by (with_reducible repeat (first | refine blk_drewN ?_ _ | refine blk_drew ?_ | refine blk_alloc ?_ _)); exact BK403.out)) (below_size (by repeat (first | (with_reducible first | exact HB.out | apply below_alloc | apply pw_below_drewN | apply below_drew1 | refine below_set ?_ GE403.out) | exact HB.out))))
                          have n2_ := Aside0.mk (blk_below (g := gb403) (o := .cells #[.int .i64 a6_0, .string a6_1, .string a6_2, .int .u64 a6_3] 55 (0, 0)) (by (with_reducible repeat (first | refine blk_drewN ?_ _ | refine blk_drew ?_ | refine blk_alloc ?_ _)); exact BK403.out) hb)
                          have n3_ := Aside0.mk (below_step (by repeat (first | (with_reducible first | exact HB.out | apply below_alloc | apply pw_below_drewN | apply below_drew1 | refine below_set ?_ GE403.out) | exact HB.out)) hb)
                          clear HO416
                          clear BK403
                          clear HB
                          have HO416 := n0_
                          have HO419 := n1_
                          have BK403 := n2_
                          have HB := n3_
                          clear n0_ n1_ n2_ n3_
                          clear hb ho64
                          refine hK.out _ _ ⟨(blk_cell BK403.out 0).trans rfl, (blk_cell BK403.out 1).trans rfl, (blk_cell BK403.out 2).trans rfl, (blk_cell BK403.out 3).trans rfl⟩ (fun hHeld => ?_)
                          clear hK K
                          refine norm_ (a' := ?_) ?_ ?_
                          rotate_left
                          · show Act.put _ (some 71) _ = _
                            simp only [Act.put, List.setIfInBounds_toArray, List.set_cons_zero, List.set_cons_succ, i64_w, i32_w]
                            rfl
                          exact norm_ (by simp only [putAll, Act.put, List.setIfInBounds_toArray, List.set_cons_zero, List.set_cons_succ]) (hCont (v412, v415, v418) _ ⟨hHeld, (by (with_reducible repeat (first | apply Kd.R_alloc | apply Kd.R_drewN | apply Kd.R_drew)); exact Kd.R_mono HO416.out (fun _ hk => ⟨hk.2, hk.1⟩)), (by (with_reducible repeat (first | apply Kd.R_alloc | apply Kd.R_drewN | apply Kd.R_drew)); exact Kd.R_mono HO419.out (fun _ hk => ⟨hk.1.2, hk.2⟩)), (by (with_reducible repeat (first | refine blk_drewN ?_ _ | refine blk_drew ?_ | refine blk_alloc ?_ _)); exact BK403.out), (by repeat (first | (with_reducible first | exact HB.out | apply below_alloc | apply pw_below_drewN | apply below_drew1 | refine below_set ?_ GE403.out) | exact HB.out))⟩)
                        · skip
                          refine Kd.R_lit_step k55 _ 55 ?hg (N := 71) ?hd (xs := ([(⟨a6_0, a6_1, a6_2, a6_3⟩ : S55)] : List (S55))) (inner := [.int .i64 a6_0, .string a6_1, .string a6_2, .int .u64 a6_3]) (ok := fun _ => True) (okp := fun _ => True) ?hr ?hp (fun _ hk => hk) trivial (Below.refl _ _) (Nat.le_refl _) (by simp) ?_; (case hd => rfl); (case hg => rfl); (case hr => first | (go_simp; done) | (go_simp; rfl)); (case hp => exact (Reps.c4 (show Kd.M k55 _ _ _ (⟨a6_0, a6_1, a6_2, a6_3⟩ : S55) [.int .i64 a6_0, .string a6_1, .string a6_2, .int .u64 a6_3] from (k55_mkM _ _ _ (⟨a6_0, a6_1, a6_2, a6_3⟩ : S55) )) (Reps.none _ _)))
                          intro v418 w62 ho63 hb hg_ hnew_
                          clear hg_ hnew_
                          (first | rw [← Ny417.out] at ho63 | (simp only [Int.reduceToNat] at ho63; rw [← Ny417.out] at ho63))
                          have n0_ := Aside0.mk (Kd.R_elder' (by (with_reducible repeat (first | apply Kd.R_alloc | apply Kd.R_drewN | apply Kd.R_drew)); exact HO413.out) (Kd.R_base ho63) hb)
                          have n1_ := Aside0.mk (Kd.R_lower (Kd.R_newB (Kd.R_new' ho63 (Kd.R_lt (by (with_reducible repeat (first | apply Kd.R_alloc | apply Kd.R_drewN | apply Kd.R_drew)); exact HO413.out))) (g := gb403) (o := .cells #[.int .i64 a6_0, .string a6_1, .string a6_2, .int .u64 a6_3] 55 (0, 0)) (by (with_reducible repeat (first | refine blk_drewN ?_ _ | refine blk_drew ?_ | refine blk_alloc ?_ _)); exact BK403.out)) (below_size (by repeat (first | (with_reducible first | exact HB.out | apply below_alloc | apply pw_below_drewN | apply below_drew1 | refine below_set ?_ GE403.out) | exact HB.out))))
                          have n2_ := Aside0.mk (blk_below (g := gb403) (o := .cells #[.int .i64 a6_0, .string a6_1, .string a6_2, .int .u64 a6_3] 55 (0, 0)) (by (with_reducible repeat (first | refine blk_drewN ?_ _ | refine blk_drew ?_ | refine blk_alloc ?_ _)); exact BK403.out) hb)
                          have n3_ := Aside0.mk (below_step (by repeat (first | (with_reducible first | exact HB.out | apply below_alloc | apply pw_below_drewN | apply below_drew1 | refine below_set ?_ GE403.out) | exact HB.out)) hb)
                          clear HO413
                          clear BK403
                          clear HB
                          have HO413 := n0_
                          have HO419 := n1_
                          have BK403 := n2_
                          have HB := n3_
                          clear n0_ n1_ n2_ n3_
                          clear hb ho63
                          refine hK.out _ _ ⟨(blk_cell BK403.out 0).trans rfl, (blk_cell BK403.out 1).trans rfl, (blk_cell BK403.out 2).trans rfl, (blk_cell BK403.out 3).trans rfl⟩ (fun hHeld => ?_)
                          clear hK K
                          refine norm_ (a' := ?_) ?_ ?_
                          rotate_left
                          · show Act.put _ (some 71) _ = _
                            simp only [Act.put, List.setIfInBounds_toArray, List.set_cons_zero, List.set_cons_succ, i64_w, i32_w]
                            rfl
                          refine one_ (i := 4) (N := some 69) #[true, true, true, true, true, true, true, false, true, false, false, false, false, false, false, false] rfl rfl (one_of HT_.out (by kernel_rfl)) (by decide) (fun K hK => ?_)
                          refine Kd.R_append_rows_step k55 (w0 := w) w.heap.size (by rfl) (.tmp 67) (.tmp 68) 63 55 (.agg #[(.int .i64 0), (.string ⟨#[]⟩), (.string ⟨#[]⟩), (.int .u64 0)]) 48 rfl Try.underlying63 info55 rfl (by decide) (by omega) v412 y411 l4 _ _ _ (fun k_ => some k_ ≠ (v418 : Value).ownBlock ∧ k_ ≠ gb403) (fun _ => False) rfl rfl ?aO ?aR (fun _ _ h => h) (fun _ h => h.elim) ?aF ?aB ?aS ?aL ?_
                          (case aR => repeat (first | exact (Kd.C_below HR4.out HB.out) | (with_reducible refine Kd.C_alloc ?_ _) | (with_reducible refine Kd.C_drewN ?_ _) | (with_reducible refine Kd.C_drew ?_)))
                          (case aB => exact (by repeat (first | (with_reducible first | exact HB.out | apply below_alloc | apply pw_below_drewN | apply below_drew1 | refine below_set ?_ GE403.out) | exact HB.out)))
                          (case aF => exact (fun k_ hk => ⟨Kd.fresh' (Kd.R_lt (by (with_reducible repeat (first | apply Kd.R_alloc | apply Kd.R_drewN | apply Kd.R_drew)); exact HO419.out)) k_ hk, Kd.freshB (g := gb403) (o := .cells #[.int .i64 a6_0, .string a6_1, .string a6_2, .int .u64 a6_3] 55 (0, 0)) (by (with_reducible repeat (first | refine blk_drewN ?_ _ | refine blk_drew ?_ | refine blk_alloc ?_ _)); exact BK403.out) k_ hk⟩))
                          (case aO => exact (by (with_reducible repeat (first | apply Kd.R_alloc | apply Kd.R_drewN | apply Kd.R_drew)); exact Kd.R_mono HO413.out (fun _ hk => ⟨hk.2, hk.1.2⟩)))
                          (case aS => exact (below_size (by repeat (first | (with_reducible first | exact HB.out | apply below_alloc | apply pw_below_drewN | apply below_drew1 | refine below_set ?_ GE403.out) | exact HB.out))))
                          (case aL => have := LMc50.out; omega)
                          intro v415 w64 ho hb hg hat
                          rw [← Ny414.out] at ho
                          have n0_ := Aside0.mk (blk_grown (g := gb403) (o := .cells #[.int .i64 a6_0, .string a6_1, .string a6_2, .int .u64 a6_3] 55 (0, 0)) (by (with_reducible repeat (first | refine blk_drewN ?_ _ | refine blk_drew ?_ | refine blk_alloc ?_ _)); exact BK403.out) hg (Kd.R_away HO413.out (fun _ hk => hk.1.2)))
                          have n1_ := Aside0.mk (Kd.R_after (ok := (fun k_ => k_ ≠ gb403)) (by (with_reducible repeat (first | apply Kd.R_alloc | apply Kd.R_drewN | apply Kd.R_drew)); exact Kd.R_mono HO419.out (fun _ hk => ⟨hk.2, hk.1.2⟩)) hg hat)
                          have n2_ := Aside0.mk (hb)
                          have n3_ := Aside0.mk (ho)
                          clear BK403
                          clear HO419
                          clear HB
                          clear HO413
                          have BK403 := n0_
                          have HO419 := n1_
                          have HB := n2_
                          have HO416 := n3_
                          clear n0_ n1_ n2_ n3_
                          clear ho hb hg hat
                          refine hK.out _ _ ⟨(blk_cell BK403.out 0).trans rfl, (blk_cell BK403.out 1).trans rfl, (blk_cell BK403.out 2).trans rfl, (blk_cell BK403.out 3).trans rfl⟩ (fun hHeld => ?_)
                          clear hK K
                          refine norm_ (a' := ?_) ?_ ?_
                          rotate_left
                          · show Act.put _ (some 69) _ = _
                            simp only [Act.put, List.setIfInBounds_toArray, List.set_cons_zero, List.set_cons_succ, i64_w, i32_w]
                            rfl
                          exact norm_ (by simp only [putAll, Act.put, List.setIfInBounds_toArray, List.set_cons_zero, List.set_cons_succ]) (hCont (v412, v415, v418) _ ⟨hHeld, (by (with_reducible repeat (first | apply Kd.R_alloc | apply Kd.R_drewN | apply Kd.R_drew)); exact HO416.out), (by (with_reducible repeat (first | apply Kd.R_alloc | apply Kd.R_drewN | apply Kd.R_drew)); exact Kd.R_mono HO419.out (fun _ hk => ⟨hk.2, hk.1⟩)), (by (with_reducible repeat (first | refine blk_drewN ?_ _ | refine blk_drew ?_ | refine blk_alloc ?_ _)); exact BK403.out), (by repeat (first | (with_reducible first | exact HB.out | apply below_alloc | apply pw_below_drewN | apply below_drew1 | refine below_set ?_ GE403.out) | exact HB.out))⟩)
                      · skip
                        refine Kd.R_lit_step k55 _ 55 ?hg (N := 71) ?hd (xs := ([(⟨a6_0, a6_1, a6_2, a6_3⟩ : S55)] : List (S55))) (inner := [.int .i64 a6_0, .string a6_1, .string a6_2, .int .u64 a6_3]) (ok := fun _ => True) (okp := fun _ => True) ?hr ?hp (fun _ hk => hk) trivial (Below.refl _ _) (Nat.le_refl _) (by simp) ?_; (case hd => rfl); (case hg => rfl); (case hr => first | (go_simp; done) | (go_simp; rfl)); (case hp => exact (Reps.c4 (show Kd.M k55 _ _ _ (⟨a6_0, a6_1, a6_2, a6_3⟩ : S55) [.int .i64 a6_0, .string a6_1, .string a6_2, .int .u64 a6_3] from (k55_mkM _ _ _ (⟨a6_0, a6_1, a6_2, a6_3⟩ : S55) )) (Reps.none _ _)))
                        intro v418 w60 ho61 hb hg_ hnew_
                        clear hg_ hnew_
                        (first | rw [← Ny417.out] at ho61 | (simp only [Int.reduceToNat] at ho61; rw [← Ny417.out] at ho61))
                        have n0_ := Aside0.mk (Kd.R_lower (Kd.R_newB ho61 (g := gb403) (o := .cells #[.int .i64 a6_0, .string a6_1, .string a6_2, .int .u64 a6_3] 55 (0, 0)) (by (with_reducible repeat (first | refine blk_drewN ?_ _ | refine blk_drew ?_ | refine blk_alloc ?_ _)); exact BK403.out)) (below_size (by repeat (first | (with_reducible first | exact HB.out | apply below_alloc | apply pw_below_drewN | apply below_drew1 | refine below_set ?_ GE403.out) | exact HB.out))))
                        have n1_ := Aside0.mk (blk_below (g := gb403) (o := .cells #[.int .i64 a6_0, .string a6_1, .string a6_2, .int .u64 a6_3] 55 (0, 0)) (by (with_reducible repeat (first | refine blk_drewN ?_ _ | refine blk_drew ?_ | refine blk_alloc ?_ _)); exact BK403.out) hb)
                        have n2_ := Aside0.mk (below_step (by repeat (first | (with_reducible first | exact HB.out | apply below_alloc | apply pw_below_drewN | apply below_drew1 | refine below_set ?_ GE403.out) | exact HB.out)) hb)
                        clear BK403
                        clear HB
                        have HO419 := n0_
                        have BK403 := n1_
                        have HB := n2_
                        clear n0_ n1_ n2_
                        clear hb ho61
                        refine hK.out _ _ ⟨(blk_cell BK403.out 0).trans rfl, (blk_cell BK403.out 1).trans rfl, (blk_cell BK403.out 2).trans rfl, (blk_cell BK403.out 3).trans rfl⟩ (fun hHeld => ?_)
                        clear hK K
                        refine norm_ (a' := ?_) ?_ ?_
                        rotate_left
                        · show Act.put _ (some 71) _ = _
                          simp only [Act.put, List.setIfInBounds_toArray, List.set_cons_zero, List.set_cons_succ, i64_w, i32_w]
                          rfl
                        refine one_ (i := 2) (N := some 67) #[true, true, true, true, false, true, true, false, true, false, false, false, false, false, false, false] rfl rfl (one_of HT_.out (by kernel_rfl)) (by decide) (fun K hK => ?_)
                        refine Kd.R_lit_step k55 _ 55 ?hg (N := 67) ?hd (xs := ([] : List (S55))) (inner := []) (ok := fun _ => True) (okp := fun _ => True) ?hr ?hp (fun _ hk => hk) trivial (Below.refl _ _) (Nat.le_refl _) (by simp) ?_; (case hd => rfl); (case hg => rfl); (case hr => first | (go_simp; done) | (go_simp; rfl)); (case hp => exact (Reps.none _ _))
                        intro v412 w62 ho63 hb hg_ hnew_
                        clear hg_ hnew_
                        (first | rw [← Ny411.out] at ho63 | (simp only [Int.reduceToNat] at ho63; rw [← Ny411.out] at ho63))
                        have n0_ := Aside0.mk (Kd.R_elder' (by (with_reducible repeat (first | apply Kd.R_alloc | apply Kd.R_drewN | apply Kd.R_drew)); exact HO419.out) (Kd.R_base ho63) hb)
                        have n1_ := Aside0.mk (Kd.R_lower (Kd.R_newB (Kd.R_new' ho63 (Kd.R_lt (by (with_reducible repeat (first | apply Kd.R_alloc | apply Kd.R_drewN | apply Kd.R_drew)); exact HO419.out))) (g := gb403) (o := .cells #[.int .i64 a6_0, .string a6_1, .string a6_2, .int .u64 a6_3] 55 (0, 0)) (by (with_reducible repeat (first | refine blk_drewN ?_ _ | refine blk_drew ?_ | refine blk_alloc ?_ _)); exact BK403.out)) (below_size (by repeat (first | (with_reducible first | exact HB.out | apply below_alloc | apply pw_below_drewN | apply below_drew1 | refine below_set ?_ GE403.out) | exact HB.out))))
                        have n2_ := Aside0.mk (blk_below (g := gb403) (o := .cells #[.int .i64 a6_0, .string a6_1, .string a6_2, .int .u64 a6_3] 55 (0, 0)) (by (with_reducible repeat (first | refine blk_drewN ?_ _ | refine blk_drew ?_ | refine blk_alloc ?_ _)); exact BK403.out) hb)
                        have n3_ := Aside0.mk (below_step (by repeat (first | (with_reducible first | exact HB.out | apply below_alloc | apply pw_below_drewN | apply below_drew1 | refine below_set ?_ GE403.out) | exact HB.out)) hb)
                        clear HO419
                        clear BK403
                        clear HB
                        have HO419 := n0_
                        have HO413 := n1_
                        have BK403 := n2_
                        have HB := n3_
                        clear n0_ n1_ n2_ n3_
                        clear hb ho63
                        refine hK.out _ _ ⟨(blk_cell BK403.out 0).trans rfl, (blk_cell BK403.out 1).trans rfl, (blk_cell BK403.out 2).trans rfl, (blk_cell BK403.out 3).trans rfl⟩ (fun hHeld => ?_)
                        clear hK K
                        refine norm_ (a' := ?_) ?_ ?_
                        rotate_left
                        · show Act.put _ (some 67) _ = _
                          simp only [Act.put, List.setIfInBounds_toArray, List.set_cons_zero, List.set_cons_succ, i64_w, i32_w]
                          rfl
                        refine one_ (i := 4) (N := some 69) #[true, true, true, true, true, true, true, false, true, false, false, false, false, false, false, false] rfl rfl (one_of HT_.out (by kernel_rfl)) (by decide) (fun K hK => ?_)
                        refine Kd.R_append_rows_step k55 (w0 := w) w.heap.size (by rfl) (.tmp 67) (.tmp 68) 63 55 (.agg #[(.int .i64 0), (.string ⟨#[]⟩), (.string ⟨#[]⟩), (.int .u64 0)]) 48 rfl Try.underlying63 info55 rfl (by decide) (by omega) v412 y411 l4 _ _ _ (fun k_ => some k_ ≠ (v418 : Value).ownBlock ∧ k_ ≠ gb403) (fun _ => False) rfl rfl ?aO ?aR (fun _ _ h => h) (fun _ h => h.elim) ?aF ?aB ?aS ?aL ?_
                        (case aR => repeat (first | exact (Kd.C_below HR4.out HB.out) | (with_reducible refine Kd.C_alloc ?_ _) | (with_reducible refine Kd.C_drewN ?_ _) | (with_reducible refine Kd.C_drew ?_)))
                        (case aB => exact (by repeat (first | (with_reducible first | exact HB.out | apply below_alloc | apply pw_below_drewN | apply below_drew1 | refine below_set ?_ GE403.out) | exact HB.out)))
                        (case aF => exact (fun k_ hk => ⟨Kd.fresh' (Kd.R_lt (by (with_reducible repeat (first | apply Kd.R_alloc | apply Kd.R_drewN | apply Kd.R_drew)); exact HO419.out)) k_ hk, Kd.freshB (g := gb403) (o := .cells #[.int .i64 a6_0, .string a6_1, .string a6_2, .int .u64 a6_3] 55 (0, 0)) (by (with_reducible repeat (first | refine blk_drewN ?_ _ | refine blk_drew ?_ | refine blk_alloc ?_ _)); exact BK403.out) k_ hk⟩))
                        (case aO => exact (by (with_reducible repeat (first | apply Kd.R_alloc | apply Kd.R_drewN | apply Kd.R_drew)); exact Kd.R_mono HO413.out (fun _ hk => ⟨hk.1.2, hk.2⟩)))
                        (case aS => exact (below_size (by repeat (first | (with_reducible first | exact HB.out | apply below_alloc | apply pw_below_drewN | apply below_drew1 | refine below_set ?_ GE403.out) | exact HB.out))))
                        (case aL => have := LMc50.out; omega)
                        intro v415 w64 ho hb hg hat
                        rw [← Ny414.out] at ho
                        have n0_ := Aside0.mk (blk_grown (g := gb403) (o := .cells #[.int .i64 a6_0, .string a6_1, .string a6_2, .int .u64 a6_3] 55 (0, 0)) (by (with_reducible repeat (first | refine blk_drewN ?_ _ | refine blk_drew ?_ | refine blk_alloc ?_ _)); exact BK403.out) hg (Kd.R_away HO413.out (fun _ hk => hk.2)))
                        have n1_ := Aside0.mk (Kd.R_after (ok := (fun k_ => k_ ≠ gb403)) (by (with_reducible repeat (first | apply Kd.R_alloc | apply Kd.R_drewN | apply Kd.R_drew)); exact Kd.R_mono HO419.out (fun _ hk => ⟨hk.1.2, hk.2⟩)) hg hat)
                        have n2_ := Aside0.mk (hb)
                        have n3_ := Aside0.mk (ho)
                        clear BK403
                        clear HO419
                        clear HB
                        clear HO413
                        have BK403 := n0_
                        have HO419 := n1_
                        have HB := n2_
                        have HO416 := n3_
                        clear n0_ n1_ n2_ n3_
                        clear ho hb hg hat
                        refine hK.out _ _ ⟨(blk_cell BK403.out 0).trans rfl, (blk_cell BK403.out 1).trans rfl, (blk_cell BK403.out 2).trans rfl, (blk_cell BK403.out 3).trans rfl⟩ (fun hHeld => ?_)
                        clear hK K
                        refine norm_ (a' := ?_) ?_ ?_
                        rotate_left
                        · show Act.put _ (some 69) _ = _
                          simp only [Act.put, List.setIfInBounds_toArray, List.set_cons_zero, List.set_cons_succ, i64_w, i32_w]
                          rfl
                        exact norm_ (by simp only [putAll, Act.put, List.setIfInBounds_toArray, List.set_cons_zero, List.set_cons_succ]) (hCont (v412, v415, v418) _ ⟨hHeld, (by (with_reducible repeat (first | apply Kd.R_alloc | apply Kd.R_drewN | apply Kd.R_drew)); exact HO416.out), (by (with_reducible repeat (first | apply Kd.R_alloc | apply Kd.R_drewN | apply Kd.R_drew)); exact Kd.R_mono HO419.out (fun _ hk => ⟨hk.2, hk.1⟩)), (by (with_reducible repeat (first | refine blk_drewN ?_ _ | refine blk_drew ?_ | refine blk_alloc ?_ _)); exact BK403.out), (by repeat (first | (with_reducible first | exact HB.out | apply below_alloc | apply pw_below_drewN | apply below_drew1 | refine below_set ?_ GE403.out) | exact HB.out))⟩)
                    rintro ⟨v412, v415, v418⟩ w65 ⟨hS_, h0_, h1_, h2_, h3_⟩
                    have n0_ : Aside0 (Kd.R k55 55 w65 w.heap.size (fun k_ => some k_ ≠ (v418 : Value).ownBlock ∧ k_ ≠ gb403) v415 y414) := ⟨h0_⟩
                    have n1_ : Aside0 (Kd.R k55 55 w65 w.heap.size (fun k_ => some k_ ≠ (v415 : Value).ownBlock ∧ k_ ≠ gb403) v418 y417) := ⟨h1_⟩
                    have n2_ : Aside0 (w65.heap[gb403]? = some (.cells #[.int .i64 a6_0, .string a6_1, .string a6_2, .int .u64 a6_3] 55 (0, 0))) := ⟨h2_⟩
                    have n3_ : Aside0 (Below w.heap.size w w65) := ⟨h3_⟩
                    clear BK403
                    clear HB
                    clear h0_ h1_ h2_ h3_
                    have HO416 := n0_
                    have HO419 := n1_
                    have BK403 := n2_
                    have HB := n3_
                    clear n0_ n1_ n2_ n3_
                    have hHeld : w65.cell? ⟨gb403, 0, none⟩ = some (.int .i64 a6_0) ∧ w65.cell? ⟨gb403, 1, none⟩ = some (.string a6_1) ∧ w65.cell? ⟨gb403, 2, none⟩ = some (.string a6_2) ∧ w65.cell? ⟨gb403, 3, none⟩ = some (.int .u64 a6_3) := hS_
                    obtain ⟨Ao67, co67, eo67⟩ := Kd.R_slice HO419.out
                    (first | subst eo67 | (injection eo67 with f1_ f2_ f3_; have f4_ := f1_.symm; have f5_ := f3_.symm; clear f1_ f2_ f3_; subst f4_; subst f5_))
                    refine norm_ (a' := ?_) ?_ ?_
                    rotate_left
                    · simp only [putAll, Act.put, List.setIfInBounds_toArray, List.set_cons_zero, List.set_cons_succ]
                      rfl
                    refine one_ (i := 7) (N := some 72) #[true, true, true, true, true, true, true, true, true, false, false, false, false, false, false, false] rfl rfl (one_of HT_.out (by kernel_rfl)) (by decide) (fun K hK => ?_)
                    refine Kd.R_append_rows_step k55 (w0 := w) w.heap.size (by rfl) (.tmp 69) (.tmp 71) 63 55 (.agg #[(.int .i64 0), (.string ⟨#[]⟩), (.string ⟨#[]⟩), (.int .u64 0)]) 48 rfl Try.underlying63 info55 rfl (by decide) (by omega) v415 y414 y417 _ _ _ (fun k_ => some k_ ≠ (.slice Ao67 y417.length co67 : Value).ownBlock ∧ k_ ≠ gb403) (fun _ => False) rfl rfl ?aO ?aR (fun _ _ h => h) (fun _ h => h.elim) ?aF ?aB ?aS ?aL ?_
                    (case aR => repeat (first | exact (Kd.R_reads' HO419.out).2.2 | (with_reducible refine Kd.C_alloc ?_ _) | (with_reducible refine Kd.C_drewN ?_ _) | (with_reducible refine Kd.C_drew ?_)))
                    (case aB => exact (by repeat (first | (with_reducible first | exact HB.out | apply below_alloc | apply pw_below_drewN | apply below_drew1 | refine below_set ?_ GE403.out) | exact HB.out)))
                    (case aF => exact (fun k_ hk => ⟨Kd.fresh' (Kd.R_lt (by (with_reducible repeat (first | apply Kd.R_alloc | apply Kd.R_drewN | apply Kd.R_drew)); exact HO419.out)) k_ hk, Kd.freshB (g := gb403) (o := .cells #[.int .i64 a6_0, .string a6_1, .string a6_2, .int .u64 a6_3] 55 (0, 0)) (by (with_reducible repeat (first | refine blk_drewN ?_ _ | refine blk_drew ?_ | refine blk_alloc ?_ _)); exact BK403.out) k_ hk⟩))
                    (case aO => exact (by (with_reducible repeat (first | apply Kd.R_alloc | apply Kd.R_drewN | apply Kd.R_drew)); exact HO416.out))
                    (case aS => exact (below_size (by repeat (first | (with_reducible first | exact HB.out | apply below_alloc | apply pw_below_drewN | apply below_drew1 | refine below_set ?_ GE403.out) | exact HB.out))))
                    (case aL => have := LMc51.out; omega)
                    intro v421 w66 ho hb hg hat
                    rw [← Ny420.out] at ho
                    have n0_ := Aside0.mk (blk_grown (g := gb403) (o := .cells #[.int .i64 a6_0, .string a6_1, .string a6_2, .int .u64 a6_3] 55 (0, 0)) (by (with_reducible repeat (first | refine blk_drewN ?_ _ | refine blk_drew ?_ | refine blk_alloc ?_ _)); exact BK403.out) hg (Kd.R_away HO416.out (fun _ hk => hk.2)))
                    have n1_ := Aside0.mk (Kd.R_after (ok := (fun k_ => k_ ≠ gb403)) (by (with_reducible repeat (first | apply Kd.R_alloc | apply Kd.R_drewN | apply Kd.R_drew)); exact Kd.R_mono HO419.out (fun _ hk => ⟨hk.2, hk.1⟩)) hg hat)
                    have n2_ := Aside0.mk (hb)
                    have n3_ := Aside0.mk (ho)
                    clear BK403
                    clear HO419
                    clear HB
                    clear HO416
                    have BK403 := n0_
                    have HO419 := n1_
                    have HB := n2_
                    have HO422 := n3_
                    clear n0_ n1_ n2_ n3_
                    clear ho hb hg hat
                    refine hK.out _ _ ⟨(blk_cell BK403.out 0).trans rfl, (blk_cell BK403.out 1).trans rfl, (blk_cell BK403.out 2).trans rfl, (blk_cell BK403.out 3).trans rfl⟩ (fun hHeld => ?_)
                    clear hK K
                    refine norm_ (a' := ?_) ?_ ?_
                    rotate_left
                    · show Act.put _ (some 72) _ = _
                      simp only [Act.put, List.setIfInBounds_toArray, List.set_cons_zero, List.set_cons_succ, i64_w, i32_w]
                      rfl
                    refine one_ (i := 9) (N := some 74) #[true, true, true, true, true, true, true, true, true, true, false, false, false, false, false, false] rfl rfl (one_of HT_.out (by kernel_rfl)) (by decide) (fun K hK => ?_)
                    refine Kd.R_append_rows_step k55 (w0 := w) w.heap.size (by rfl) (.tmp 72) (.tmp 73) 63 55 (.agg #[(.int .i64 0), (.string ⟨#[]⟩), (.string ⟨#[]⟩), (.int .u64 0)]) 48 rfl Try.underlying63 info55 rfl (by decide) (by omega) v421 y420 l5 _ _ _ (fun k_ => some k_ ≠ (.slice Ao67 y417.length co67 : Value).ownBlock ∧ k_ ≠ gb403) (fun _ => False) rfl rfl ?aO ?aR (fun _ _ h => h) (fun _ h => h.elim) ?aF ?aB ?aS ?aL ?_
                    (case aR => repeat (first | exact (Kd.C_below HR5.out HB.out) | (with_reducible refine Kd.C_alloc ?_ _) | (with_reducible refine Kd.C_drewN ?_ _) | (with_reducible refine Kd.C_drew ?_)))
                    (case aB => exact (by repeat (first | (with_reducible first | exact HB.out | apply below_alloc | apply pw_below_drewN | apply below_drew1 | refine below_set ?_ GE403.out) | exact HB.out)))
                    (case aF => exact (fun k_ hk => ⟨Kd.fresh' (Kd.R_lt (by (with_reducible repeat (first | apply Kd.R_alloc | apply Kd.R_drewN | apply Kd.R_drew)); exact HO419.out)) k_ hk, Kd.freshB (g := gb403) (o := .cells #[.int .i64 a6_0, .string a6_1, .string a6_2, .int .u64 a6_3] 55 (0, 0)) (by (with_reducible repeat (first | refine blk_drewN ?_ _ | refine blk_drew ?_ | refine blk_alloc ?_ _)); exact BK403.out) k_ hk⟩))
                    (case aO => exact (by (with_reducible repeat (first | apply Kd.R_alloc | apply Kd.R_drewN | apply Kd.R_drew)); exact HO422.out))
                    (case aS => exact (below_size (by repeat (first | (with_reducible first | exact HB.out | apply below_alloc | apply pw_below_drewN | apply below_drew1 | refine below_set ?_ GE403.out) | exact HB.out))))
                    (case aL => have := LMc52.out; omega)
                    intro v424 w68 ho hb hg hat
                    rw [← Ny423.out] at ho
                    have n0_ := Aside0.mk (blk_grown (g := gb403) (o := .cells #[.int .i64 a6_0, .string a6_1, .string a6_2, .int .u64 a6_3] 55 (0, 0)) (by (with_reducible repeat (first | refine blk_drewN ?_ _ | refine blk_drew ?_ | refine blk_alloc ?_ _)); exact BK403.out) hg (Kd.R_away HO422.out (fun _ hk => hk.2)))
                    have n1_ := Aside0.mk (Kd.R_after (ok := (fun k_ => k_ ≠ gb403)) (by (with_reducible repeat (first | apply Kd.R_alloc | apply Kd.R_drewN | apply Kd.R_drew)); exact HO419.out) hg hat)
                    have n2_ := Aside0.mk (hb)
                    have n3_ := Aside0.mk (ho)
                    clear BK403
                    clear HO419
                    clear HB
                    clear HO422
                    have BK403 := n0_
                    have HO419 := n1_
                    have HB := n2_
                    have HO425 := n3_
                    clear n0_ n1_ n2_ n3_
                    clear ho hb hg hat
                    obtain ⟨Ao69, co69, eo69⟩ := Kd.R_slice HO425.out
                    (first | subst eo69 | (injection eo69 with f1_ f2_ f3_; have f4_ := f1_.symm; have f5_ := f3_.symm; clear f1_ f2_ f3_; subst f4_; subst f5_))
                    refine hK.out _ _ ⟨(blk_cell BK403.out 0).trans rfl, (blk_cell BK403.out 1).trans rfl, (blk_cell BK403.out 2).trans rfl, (blk_cell BK403.out 3).trans rfl⟩ (fun hHeld => ?_)
                    clear hK K
                    refine norm_ (a' := ?_) ?_ ?_
                    rotate_left
                    · show Act.put _ (some 74) _ = _
                      simp only [Act.put, List.setIfInBounds_toArray, List.set_cons_zero, List.set_cons_succ, i64_w, i32_w]
                      rfl
                    refine one_ (i := 10) (N := some 75) #[true, true, true, true, true, true, true, true, true, true, true, false, false, false, false, false] rfl rfl (one_of HT_.out (by kernel_rfl)) (by decide) (fun K hK => ?_)
                    refine goes_ Try.func30 (by kernel_rfl) rfl #[.string a0, .bool a2, .slice Ao69 y423.length co69] (by rfl) rfl rfl (by (try simp only [List.map_toArray, List.map_cons, List.map_nil]); first | done | rfl | (simp only [List.length_drop, List.length_take]; rfl)) ?_
                    with_reducible refine (note_Done.calls kj7 a0 a2 _ _ y423 t426 t427 _ ?side1 ?side2 A53.out).mono ?_
                    (case side1 => repeat (first | exact (Kd.R_reads' HO425.out).2.2 | (with_reducible refine Kd.C_alloc ?_ _) | (with_reducible refine Kd.C_drewN ?_ _) | (with_reducible refine Kd.C_drew ?_)))
                    (case side2 => exact (Kd.R_reads' HO425.out).2.1)
                    rintro e w70 ⟨rfl, hb⟩
                    refine ⟨_, rfl, ?_⟩
                    have n0_ := Aside0.mk (Kd.R_below (by (with_reducible repeat (first | apply Kd.R_alloc | apply Kd.R_drewN | apply Kd.R_drew)); exact HO419.out) hb)
                    have n1_ := Aside0.mk (Kd.R_below (by (with_reducible repeat (first | apply Kd.R_alloc | apply Kd.R_drewN | apply Kd.R_drew)); exact HO425.out) hb)
                    have n2_ := Aside0.mk (blk_below (g := gb403) (o := .cells #[.int .i64 a6_0, .string a6_1, .string a6_2, .int .u64 a6_3] 55 (0, 0)) (by (with_reducible repeat (first | refine blk_drewN ?_ _ | refine blk_drew ?_ | refine blk_alloc ?_ _)); exact BK403.out) hb)
                    have n3_ := Aside0.mk (below_step (by repeat (first | (with_reducible first | exact HB.out | apply below_alloc | apply pw_below_drewN | apply below_drew1 | refine below_set ?_ GE403.out) | exact HB.out)) hb)
                    clear HO419
                    clear HO425
                    clear BK403
                    clear HB
                    have HO419 := n0_
                    have HO425 := n1_
                    have BK403 := n2_
                    have HB := n3_
                    clear n0_ n1_ n2_ n3_
                    (try clear hb)
                    (try clear hb2)
                    (try clear hk)
                    (try clear hi)
                    refine hK.out _ _ ⟨(blk_cell BK403.out 0).trans rfl, (blk_cell BK403.out 1).trans rfl, (blk_cell BK403.out 2).trans rfl, (blk_cell BK403.out 3).trans rfl⟩ (fun hHeld => ?_)
                    clear hK K
                    refine norm_ (a' := ?_) ?_ ?_
                    rotate_left
                    · show Act.put _ (some 75) _ = _
                      simp only [Act.put, List.setIfInBounds_toArray, List.set_cons_zero, List.set_cons_succ, i64_w, i32_w]
                      rfl
                    refine pure_ (i := 11) (N := some 64) (v := ?_) (a' := ?_) #[true, true, true, true, true, true, true, true, true, true, true, true, false, false, false, false] rfl rfl (any_of HT_.out (by kernel_rfl)) (fun _ _ _ h => h) (Or.inl ⟨by rfl, ?_⟩) ?_ ?_
                    rotate_left
                    · intro w'
                      go_simp
                      with_reducible rfl
                    rotate_left
                    · simp only [Act.put, List.setIfInBounds_toArray, List.set_cons_zero, List.set_cons_succ, i64_w, i32_w]
                      rfl
                    refine pure_ (i := 12) (N := some 76) (v := ?_) (a' := ?_) #[true, true, true, true, true, true, true, true, true, true, true, true, true, false, false, false] rfl rfl (any_of HT_.out (by kernel_rfl)) (fun _ _ _ h => h) (Or.inl ⟨by rfl, ?_⟩) ?_ ?_
                    rotate_left
                    · intro w'
                      go_simp
                      with_reducible rfl
                    rotate_left
                    · simp only [Act.put, List.setIfInBounds_toArray, List.set_cons_zero, List.set_cons_succ, i64_w, i32_w]
                      rfl
                    refine pure_ (i := 13) (N := some 77) (v := ?_) (a' := ?_) #[true, true, true, true, true, true, true, true, true, true, true, true, true, true, false, false] rfl rfl (any_of HT_.out (by kernel_rfl)) (fun _ _ _ h => h) (Or.inl ⟨by rfl, ?_⟩) ?_ ?_
                    rotate_left
                    · intro w'
                      go_simp
                      with_reducible rfl
                    rotate_left
                    · simp only [Act.put, List.setIfInBounds_toArray, List.set_cons_zero, List.set_cons_succ, i64_w, i32_w]
                      rfl
                    refine pure_ (i := 14) (N := some 15) (v := ?_) (a' := ?_) #[true, true, true, true, true, true, true, true, true, true, true, true, true, true, true, false] rfl rfl (any_of HT_.out (by kernel_rfl)) (fun _ _ _ h => h) (Or.inl ⟨by rfl, ?_⟩) ?_ ?_
                    rotate_left
                    · intro w'
                      go_simp
                      with_reducible rfl
                    rotate_left
                    · simp only [Act.put, List.setIfInBounds_toArray, List.set_cons_zero, List.set_cons_succ, i64_w, i32_w]
                      rfl
                    refine pure_ (i := 15) (N := some 16) (v := ?_) (a' := ?_) #[true, true, true, true, true, true, true, true, true, true, true, true, true, true, true, true] rfl rfl (any_of HT_.out (by kernel_rfl)) (fun _ _ _ h => h) (Or.inl ⟨by rfl, ?_⟩) ?_ ?_
                    rotate_left
                    · intro w'
                      go_simp
                      with_reducible rfl
                    rotate_left
                    · simp only [Act.put, List.setIfInBounds_toArray, List.set_cons_zero, List.set_cons_succ, i64_w, i32_w]
                      rfl
                    refine done_ (done_of HT_.out (by kernel_rfl)) ?_
                    have hcz71_0 : w70.cell? ⟨gb403, 0, none⟩ = some (.int .i64 a6_0) := (blk_cell BK403.out 0).trans rfl
                    have hcz71_1 : w70.cell? ⟨gb403, 1, none⟩ = some (.string a6_1) := (blk_cell BK403.out 1).trans rfl
                    have hcz71_2 : w70.cell? ⟨gb403, 2, none⟩ = some (.string a6_2) := (blk_cell BK403.out 2).trans rfl
                    have hcz71_3 : w70.cell? ⟨gb403, 3, none⟩ = some (.int .u64 a6_3) := (blk_cell BK403.out 3).trans rfl
                    have hfz71_0 := blk_frozen BK403.out 0
                    have hfz71_1 := blk_frozen BK403.out 1
                    have hfz71_2 := blk_frozen BK403.out 2
                    have hfz71_3 := blk_frozen BK403.out 3
                    try go_wp2_with (first | ((with_reducible refine gate_dst (N := 82) rfl ?_); (try (refine gate_guard (by rfl) ?_; dsimp only)); refine Kd.R_lit k55 _ 55 ?hg (N := 82) ?hd (xs := ([(⟨a6_0, a6_1, a6_2, a6_3⟩ : S55)] : List (S55))) (inner := [.int .i64 a6_0, .string a6_1, .string a6_2, .int .u64 a6_3]) (ok := fun _ => True) (okp := fun _ => True) ?hr ?hp (fun _ hk => hk) trivial (Below.refl _ _) (Nat.le_refl _) (by simp) ?_; (case hd => rfl); (case hg => rfl); (case hr => first | (go_simp; done) | (go_simp; rfl)); (case hp => exact (Reps.c4 (show Kd.M k55 _ _ _ (⟨a6_0, a6_1, a6_2, a6_3⟩ : S55) [.int .i64 a6_0, .string a6_1, .string a6_2, .int .u64 a6_3] from (k55_mkM _ _ _ (⟨a6_0, a6_1, a6_2, a6_3⟩ : S55) )) (Reps.none _ _))); intro v429 w72 ho73 hb hg_ hnew_; clear hg_ hnew_; (first | rw [← Ny428.out] at ho73 | (simp only [Int.reduceToNat] at ho73; rw [← Ny428.out] at ho73)); have n0_ := Aside0.mk (Kd.R_elder' (by (with_reducible repeat (first | apply Kd.R_alloc | apply Kd.R_drewN | apply Kd.R_drew)); exact HO419.out) (Kd.R_base ho73) hb); have n1_ := Aside0.mk (Kd.R_elder' (by (with_reducible repeat (first | apply Kd.R_alloc | apply Kd.R_drewN | apply Kd.R_drew)); exact HO425.out) (Kd.R_base ho73) hb); have n2_ := Aside0.mk (Kd.R_lower (Kd.R_newB (Kd.R_new' (Kd.R_new' ho73 (Kd.R_lt (by (with_reducible repeat (first | apply Kd.R_alloc | apply Kd.R_drewN | apply Kd.R_drew)); exact HO419.out))) (Kd.R_lt (by (with_reducible repeat (first | apply Kd.R_alloc | apply Kd.R_drewN | apply Kd.R_drew)); exact HO425.out))) (g := gb403) (o := .cells #[.int .i64 a6_0, .string a6_1, .string a6_2, .int .u64 a6_3] 55 (0, 0)) (by (with_reducible repeat (first | refine blk_drewN ?_ _ | refine blk_drew ?_ | refine blk_alloc ?_ _)); exact BK403.out)) (below_size (by repeat (first | (with_reducible first | exact HB.out | apply below_alloc | apply pw_below_drewN | apply below_drew1 | refine below_set ?_ GE403.out) | exact HB.out)))); have n3_ := Aside0.mk (blk_below (g := gb403) (o := .cells #[.int .i64 a6_0, .string a6_1, .string a6_2, .int .u64 a6_3] 55 (0, 0)) (by (with_reducible repeat (first | refine blk_drewN ?_ _ | refine blk_drew ?_ | refine blk_alloc ?_ _)); exact BK403.out) hb); have n4_ := Aside0.mk (below_step (by repeat (first | (with_reducible first | exact HB.out | apply below_alloc | apply pw_below_drewN | apply below_drew1 | refine below_set ?_ GE403.out) | exact HB.out)) hb); clear HO419; clear HO425; clear BK403; clear HB; have HO419 := n0_; have HO425 := n1_; have HO430 := n2_; have BK403 := n3_; have HB := n4_; clear n0_ n1_ n2_ n3_ n4_; clear hb ho73) | ((with_reducible refine gate_builtin (b := .append) (xs := #[.tmp 82, .tmp 83]) rfl ?_); (try (refine gate_guard (by rfl) ?_; dsimp only)); at_builtin; refine Kd.R_append_rows k55 (w0 := w) w.heap.size rfl (.tmp 82) (.tmp 83) 63 55 (.agg #[(.int .i64 0), (.string ⟨#[]⟩), (.string ⟨#[]⟩), (.int .u64 0)]) 48 rfl Try.underlying63 info55 rfl (by decide) (by omega) v429 y428 l5 _ _ _ (fun k_ => some k_ ≠ (.slice Ao67 y417.length co67 : Value).ownBlock ∧ some k_ ≠ (.slice Ao69 y423.length co69 : Value).ownBlock ∧ k_ ≠ gb403) (fun _ => False) rfl rfl ?aO ?aR (fun _ _ h => h) (fun _ h => h.elim) ?aF ?aB ?aS ?aL ?_; (case aR => repeat (first | exact (Kd.C_below HR5.out HB.out) | (with_reducible refine Kd.C_alloc ?_ _) | (with_reducible refine Kd.C_drewN ?_ _) | (with_reducible refine Kd.C_drew ?_))); (case aB => exact (by repeat (first | (with_reducible first | exact HB.out | apply below_alloc | apply pw_below_drewN | apply below_drew1 | refine below_set ?_ GE403.out) | exact HB.out))); (case aF => exact (fun k_ hk => ⟨Kd.fresh' (Kd.R_lt (by (with_reducible repeat (first | apply Kd.R_alloc | apply Kd.R_drewN | apply Kd.R_drew)); exact HO419.out)) k_ hk, Kd.fresh' (Kd.R_lt (by (with_reducible repeat (first | apply Kd.R_alloc | apply Kd.R_drewN | apply Kd.R_drew)); exact HO425.out)) k_ hk, Kd.freshB (g := gb403) (o := .cells #[.int .i64 a6_0, .string a6_1, .string a6_2, .int .u64 a6_3] 55 (0, 0)) (by (with_reducible repeat (first | refine blk_drewN ?_ _ | refine blk_drew ?_ | refine blk_alloc ?_ _)); exact BK403.out) k_ hk⟩)); (case aO => exact (by (with_reducible repeat (first | apply Kd.R_alloc | apply Kd.R_drewN | apply Kd.R_drew)); exact Kd.R_mono HO430.out (fun _ hk => ⟨hk.1.1.2, ⟨hk.1.2, hk.2⟩⟩))); (case aS => exact (below_size (by repeat (first | (with_reducible first | exact HB.out | apply below_alloc | apply pw_below_drewN | apply below_drew1 | refine below_set ?_ GE403.out) | exact HB.out)))); (case aL => have := LMc54.out; omega); intro v432 w74 ho hb hg hat; rw [← Ny431.out] at ho; have n0_ := Aside0.mk (blk_grown (g := gb403) (o := .cells #[.int .i64 a6_0, .string a6_1, .string a6_2, .int .u64 a6_3] 55 (0, 0)) (by (with_reducible repeat (first | refine blk_drewN ?_ _ | refine blk_drew ?_ | refine blk_alloc ?_ _)); exact BK403.out) hg (Kd.R_away HO430.out (fun _ hk => hk.2))); have n1_ := Aside0.mk (Kd.R_after (ok := (fun k_ => some k_ ≠ (.slice Ao69 y423.length co69 : Value).ownBlock ∧ k_ ≠ gb403)) (by (with_reducible repeat (first | apply Kd.R_alloc | apply Kd.R_drewN | apply Kd.R_drew)); exact Kd.R_mono HO419.out (fun _ hk => ⟨⟨hk.1.2, hk.1.1⟩, hk.2⟩)) hg hat); have n2_ := Aside0.mk (Kd.R_after (ok := (fun k_ => some k_ ≠ (.slice Ao67 y417.length co67 : Value).ownBlock ∧ k_ ≠ gb403)) (by (with_reducible repeat (first | apply Kd.R_alloc | apply Kd.R_drewN | apply Kd.R_drew)); exact HO425.out) hg hat); have n3_ := Aside0.mk (hb); have n4_ := Aside0.mk (ho); clear BK403; clear HO419; clear HO425; clear HB; clear HO430; have BK403 := n0_; have HO419 := n1_; have HO425 := n2_; have HB := n3_; have HO433 := n4_; clear n0_ n1_ n2_ n3_ n4_; clear ho hb hg hat; obtain ⟨Ao75, co75, eo75⟩ := Kd.R_slice HO433.out; subst eo75) | ((with_reducible refine gate_callee (f := 30) rfl ?_); refine goesL_ (some 85) rfl rfl Try.func30 (by kernel_rfl) rfl #[.string a1, .bool a3, .slice Ao75 y431.length co75] rfl (by (try simp only [List.map_toArray, List.map_cons, List.map_nil]); first | done | rfl | (simp only [List.length_drop, List.length_take]; rfl)) ?_; (with_reducible refine (note_Done.calls kj7 a1 a3 _ _ y431 t434 t435 _ ?side1 ?side2 A55.out).mono ?_); (case side1 => repeat (first | exact (Kd.R_reads' HO433.out).2.2 | (with_reducible refine Kd.C_alloc ?_ _) | (with_reducible refine Kd.C_drewN ?_ _) | (with_reducible refine Kd.C_drew ?_))); (case side2 => exact (Kd.R_reads' HO433.out).2.1); rintro e w76 ⟨rfl, hb⟩; refine ⟨_, rfl, ?_⟩; have n0_ := Aside0.mk (Kd.R_below (by (with_reducible repeat (first | apply Kd.R_alloc | apply Kd.R_drewN | apply Kd.R_drew)); exact HO419.out) hb); have n1_ := Aside0.mk (Kd.R_below (by (with_reducible repeat (first | apply Kd.R_alloc | apply Kd.R_drewN | apply Kd.R_drew)); exact HO425.out) hb); have n2_ := Aside0.mk (Kd.R_below (by (with_reducible repeat (first | apply Kd.R_alloc | apply Kd.R_drewN | apply Kd.R_drew)); exact HO433.out) hb); have n3_ := Aside0.mk (blk_below (g := gb403) (o := .cells #[.int .i64 a6_0, .string a6_1, .string a6_2, .int .u64 a6_3] 55 (0, 0)) (by (with_reducible repeat (first | refine blk_drewN ?_ _ | refine blk_drew ?_ | refine blk_alloc ?_ _)); exact BK403.out) hb); have n4_ := Aside0.mk (below_step (by repeat (first | (with_reducible first | exact HB.out | apply below_alloc | apply pw_below_drewN | apply below_drew1 | refine below_set ?_ GE403.out) | exact HB.out)) hb); clear HO419; clear HO425; clear HO433; clear BK403; clear HB; have HO419 := n0_; have HO425 := n1_; have HO433 := n2_; have BK403 := n3_; have HB := n4_; clear n0_ n1_ n2_ n3_ n4_; (try clear hb); (try clear hb2); (try clear hk); (try clear hi)) | (go_at_call 29; (with_reducible refine (weirkeeperlaw09_awake.calls kj7 _ A58.out).mono ?_); rintro e w77 ⟨rfl, hb⟩; have n0_ := Aside0.mk (Kd.R_below (by (with_reducible repeat (first | apply Kd.R_alloc | apply Kd.R_drewN | apply Kd.R_drew)); exact HO419.out) hb); have n1_ := Aside0.mk (Kd.R_below (by (with_reducible repeat (first | apply Kd.R_alloc | apply Kd.R_drewN | apply Kd.R_drew)); exact HO425.out) hb); have n2_ := Aside0.mk (Kd.R_below (by (with_reducible repeat (first | apply Kd.R_alloc | apply Kd.R_drewN | apply Kd.R_drew)); exact HO433.out) hb); have n3_ := Aside0.mk (blk_below (g := gb403) (o := .cells #[.int .i64 a6_0, .string a6_1, .string a6_2, .int .u64 a6_3] 55 (0, 0)) (by (with_reducible repeat (first | refine blk_drewN ?_ _ | refine blk_drew ?_ | refine blk_alloc ?_ _)); exact BK403.out) hb); have n4_ := Aside0.mk (below_step (by repeat (first | (with_reducible first | exact HB.out | apply below_alloc | apply pw_below_drewN | apply below_drew1 | refine below_set ?_ GE403.out) | exact HB.out)) hb); clear HO419; clear HO425; clear HO433; clear BK403; clear HB; have HO419 := n0_; have HO425 := n1_; have HO433 := n2_; have BK403 := n3_; have HB := n4_; clear n0_ n1_ n2_ n3_ n4_; (try clear hb); (try clear hb2); (try clear hk); (try clear hi)))
                    go_ret
                    exact ⟨by first | rfl | (simp [errW_none, errW_some] <;> rfl) | (simp [*, errW_none, errW_some] <;> rfl), by repeat (first | (with_reducible first | exact HB.out | apply below_alloc | apply pw_below_drewN | apply below_drew1 | refine below_set ?_ GE403.out) | exact HB.out)⟩
                  · rw [if_neg c57] at H
                    have c57b0 : (t427 == t435) = false := by simpa using c57
                    (try (have c57b1 : decide (t427 = t435) = false := by simpa using c57))
                    (try (have c57b2 : (t427 == t435) = false := by simpa using c57))
                    (try (have c57b3 : ¬ (t427 = t435) := by simpa using c57))
                    clear c57
                    exact absurd H (by simp)
                · rw [if_neg c56] at H
                  have c56b0 : (t426.toList == t434.toList) = false := beq_eq_false_iff_ne.mpr c56
                  have c56b1 : (t426.toList != t434.toList) = true := bne_iff_ne.mpr c56
                  exact absurd H (by simp)
              · rw [if_neg c54] at H
                exact absurd H (by simp)
            · rw [if_neg c52] at H
              exact absurd H (by simp)
          · rw [if_neg c51] at H
            exact absurd H (by simp)
        · rw [if_neg c50] at H
          exact absurd H (by simp)

end Go.Proofs.Ytgccimhdbphenaa.F
