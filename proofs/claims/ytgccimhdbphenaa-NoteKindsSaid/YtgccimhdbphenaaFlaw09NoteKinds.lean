/- Contracts of Go functions of the seat Ytgccimhdbphenaa: what a call comes to; no condition but those that each theorem names. -/
import Derived.Test.YtgccimhdbphenaaFPre
import Derived.Test.YtgccimhdbphenaaFnote
import Derived.Test.YtgccimhdbphenaaFlaw09awake
import Derived.Test.YtgccimhdbphenaaFlaw09short
namespace Go.Proofs.Ytgccimhdbphenaa.F
open Go.RowKit Go.Proofs.YtgccimhdbphenaaW.PrintWords Go.Proofs.YtgccimhdbphenaaW.PrintLast Go.Proofs.YtgccimhdbphenaaW.PrintMore
attribute [local go_sem] max2_int min2_int max_two min_two max_three min_three max_four min_four   -- for this text's walks alone
set_option linter.unusedVariables false
set_option linter.unusedSimpArgs false

/-! ### weirkeeperlaw09_NoteKinds: function 14 -/
def weirkeeperlaw09_NoteKinds.j0 : Nat → ByteArray → Bool → Bool → Int → ByteArray → ByteArray → Int → Option (Bool)
  | 0, _, _, _, _, _, _, _ => none
  | k + 1, x0, x1, x17, x461000, x461001, x461002, x461003 => if x17 = true then ((weirkeeperlaw09_awake.f k).bind fun t465 => (some t465)) else ((note_Done.f k x0 x1 (([(⟨x461000, x461001, x461002, x461003⟩ : S55)] : List (S55)))).bind fun bt469 => (if x461000 = 1 then (if bt469.2 = true then (if bt469.1.toList = x461002.toList then ((weirkeeperlaw09_awake.f k).bind fun t471 => (some t471)) else (some false)) else (some false)) else (if x461000 = 2 then (if bt469.2 = true then (some false) else (if bt469.1.toList = ([] : List UInt8) then ((weirkeeperlaw09_awake.f k).bind fun t472 => (some t472)) else (some false))) else (if x461000 = 3 then (if bt469.2 = true then (if (bt469.1.size : Int) = 8 then ((weirkeeperlaw09_awake.f k).bind fun t473 => (some t473)) else (some false)) else (some false)) else (if (bt469.2 == x1) = true then (if bt469.1.toList = x0.toList then ((weirkeeperlaw09_awake.f k).bind fun t474 => (some t474)) else (if x1 = true then (some false) else (if bt469.1.toList = ([] : List UInt8) then ((weirkeeperlaw09_awake.f k).bind fun t475 => (some t475)) else (some false)))) else (some false))))))
def weirkeeperlaw09_NoteKinds.f (k : Nat) (a0 : ByteArray) (a1 : Bool) (a2_0 : Int) (a2_1 : ByteArray) (a2_2 : ByteArray) (a2_3 : Int) : Option (Bool) := if (a0.size : Int) > 300 then (weirkeeperlaw09_NoteKinds.j0 k a0 a1 true a2_0 a2_1 a2_2 a2_3) else ((weirkeeperlaw09_short.f k (([(⟨a2_0, a2_1, a2_2, a2_3⟩ : S55)] : List (S55)))).bind fun t464 => (weirkeeperlaw09_NoteKinds.j0 k a0 a1 (!t464) a2_0 a2_1 a2_2 a2_3))
theorem weirkeeperlaw09_NoteKinds.mono_l : ∀ k, (∀ y0 y1 y2 y3 y4 y5 y6, LeO (weirkeeperlaw09_NoteKinds.j0 k y0 y1 y2 y3 y4 y5 y6) (weirkeeperlaw09_NoteKinds.j0 (k + 1) y0 y1 y2 y3 y4 y5 y6))
  | 0 => fun _ _ _ _ _ _ _ r h => by simp [weirkeeperlaw09_NoteKinds.j0] at h
  | k + 1 => by
    have ih0 := weirkeeperlaw09_NoteKinds.mono_l k
    · intro y0 y1 y2 y3 y4 y5 y6
      unfold weirkeeperlaw09_NoteKinds.j0
      repeat' first
      | (with_reducible exact ih0 _ _ _ _ _ _ _)
      | (with_reducible exact note_Done.mono _ _ _ _)
      | (with_reducible exact weirkeeperlaw09_awake.mono _)
      | (with_reducible exact weirkeeperlaw09_short.mono _ _)
      | (with_reducible exact LeO.refl _)
      | (with_reducible exact LeO.none _)
      | (with_reducible refine LeO.ite ?_ ?_)
      | (with_reducible refine LeO.bind ?_ (fun _ => ?_))
      | exact ih0 _ _ _ _ _ _ _
      | exact note_Done.mono _ _ _ _
      | exact weirkeeperlaw09_awake.mono _
      | exact weirkeeperlaw09_short.mono _ _
      | exact LeO.none _
      | refine LeO.ite ?_ ?_
      | refine LeO.bind ?_ (fun _ => ?_)
theorem weirkeeperlaw09_NoteKinds.mono : ∀ a0 a1 a2 a3 a4 a5 k, LeO (weirkeeperlaw09_NoteKinds.f k a0 a1 a2 a3 a4 a5) (weirkeeperlaw09_NoteKinds.f (k + 1) a0 a1 a2 a3 a4 a5) := by
  intro a0 a1 a2 a3 a4 a5 k
  have ih0 := weirkeeperlaw09_NoteKinds.mono_l k
  unfold weirkeeperlaw09_NoteKinds.f
  repeat' first
      | (with_reducible exact ih0 _ _ _ _ _ _ _)
      | (with_reducible exact note_Done.mono _ _ _ _)
      | (with_reducible exact weirkeeperlaw09_awake.mono _)
      | (with_reducible exact weirkeeperlaw09_short.mono _ _)
      | (with_reducible exact LeO.refl _)
      | (with_reducible exact LeO.none _)
      | (with_reducible refine LeO.ite ?_ ?_)
      | (with_reducible refine LeO.bind ?_ (fun _ => ?_))
      | exact ih0 _ _ _ _ _ _ _
      | exact note_Done.mono _ _ _ _
      | exact weirkeeperlaw09_awake.mono _
      | exact weirkeeperlaw09_short.mono _ _
      | exact LeO.none _
      | refine LeO.ite ?_ ?_
      | refine LeO.bind ?_ (fun _ => ?_)
set_option maxHeartbeats 8000000 in
set_option maxRecDepth 100000 in
theorem weirkeeperlaw09_NoteKinds.calls (k : Nat) (a0 : ByteArray) (a1 : Bool) (a2_0 : Int) (a2_1 : ByteArray) (a2_2 : ByteArray) (a2_3 : Int) (w : World) (h : weirkeeperlaw09_NoteKinds.f k a0 a1 a2_0 a2_1 a2_2 a2_3 = some true) :
    Calls Try.prog 14 #[.string a0, .bool a1, .agg #[.int .i64 a2_0, .string a2_1, .string a2_2, .int .u64 a2_3]] w fun e w' => e = .returned (.bool true) ∧ Below w.heap.size w w' := by
  have hu55 := Try.underlying55
  have HB := Aside0.mk (Below.refl w.heap.size w)
  have H : (if (a0.size : Int) > 300 then (weirkeeperlaw09_NoteKinds.j0 k a0 a1 true a2_0 a2_1 a2_2 a2_3) else ((weirkeeperlaw09_short.f k (([(⟨a2_0, a2_1, a2_2, a2_3⟩ : S55)] : List (S55)))).bind fun t464 => (weirkeeperlaw09_NoteKinds.j0 k a0 a1 (!t464) a2_0 a2_1 a2_2 a2_3))) = some true := h
  clear h
  have HC4 := Aside0.mk H
  clear H
  go_enter Try.func14, Try.ntmps14
  go_upto_region 1 with (first | ((with_reducible refine gate_dst (N := 5) rfl ?_); (try (refine gate_guard (by rfl) ?_; dsimp only)); refine box_event ?hg (N := 5) ?hd (cs := #[.int .i64 a2_0, .string a2_1, .string a2_2, .int .u64 a2_3]) (t := 55) ?hr ?_; (case hd => rfl); (case hg => rfl); (case hr => first | (go_simp; done) | (go_simp; rfl)); intro gb460 hg w5 hbox hb; have n0_ := Aside0.mk (below_step (by repeat (first | (with_reducible first | exact HB.out | apply below_alloc | apply pw_below_drewN | apply below_drew1) | exact HB.out)) hb); have n1_ := Aside0.mk (hbox); have n2_ := Aside0.mk ((by rw [hg]; exact (below_size (by repeat (first | (with_reducible first | exact HB.out | apply below_alloc | apply pw_below_drewN | apply below_drew1) | exact HB.out))) : w.heap.size ≤ gb460)); have n3_ := Aside0.mk ((by rw [hg]; exact (below_size (by repeat (first | (with_reducible first | exact HB.out | apply below_alloc | apply pw_below_drewN | apply below_drew1) | exact HB.out))) : w.heap.size ≤ gb460)); clear HB; have HB := n0_; have BK460 := n1_; have GW460 := n2_; have GE460 := n3_; clear n0_ n1_ n2_ n3_; clear hb hbox hg))
  (try simp only [Act.put, List.setIfInBounds_toArray, List.set_cons_zero, List.set_cons_succ])
  go_cut [17] (fun v17 wc => ∃ (kq : Nat) (x17_3 : Bool), v17 = .bool x17_3 ∧ Aside0 (weirkeeperlaw09_NoteKinds.j0 kq a0 a1 x17_3 a2_0 a2_1 a2_2 a2_3 = some true) ∧ Aside0 (kq ≤ k) ∧ Aside0 (wc.heap[gb460]? = some (.cells #[.int .i64 a2_0, .string a2_1, .string a2_2, .int .u64 a2_3] 55 (0, 0))) ∧ Aside0 (Below w.heap.size w wc))
  case first =>
    have H := HC4.out
    clear HC4
    by_cases c6 : (a0.size : Int) > 300
    · rw [if_pos c6] at H
      have c6b0 : decide (300 < (a0.size : Int)) = true := decide_eq_true c6
      have c6b1 : decide (300 < a0.size) = true := decide_eq_true (by omega)
      clear c6
      (first | rw [c6b0] | (simp only [i64_w, i32_w]; rw [c6b0]) | skip)
      have H' := Aside0.mk H
      clear H
      go_wp2
      go_meet
      case rel => exact ⟨_, (true), (by first | rfl | (simp; done) | (simp [*]; done)), H', ⟨by first | omega | exact Nat.le_refl _⟩, ⟨by (with_reducible repeat (first | refine blk_drewN ?_ _ | refine blk_drew ?_ | refine blk_alloc ?_ _)); exact BK460.out⟩, ⟨by repeat (first | (with_reducible first | exact HB.out | apply below_alloc | apply pw_below_drewN | apply below_drew1 | refine below_set ?_ GE460.out) | exact HB.out)⟩⟩
    · rw [if_neg c6] at H
      have c6b0 : decide (300 < (a0.size : Int)) = false := decide_eq_false c6
      have c6b1 : decide (300 < a0.size) = false := decide_eq_false (by omega)
      clear c6
      (first | rw [c6b0] | (simp only [i64_w, i32_w]; rw [c6b0]) | skip)
      obtain ⟨y461, hy461⟩ : ∃ y_ : List (S55), y_ = (([(⟨a2_0, a2_1, a2_2, a2_3⟩ : S55)] : List (S55))) := ⟨_, rfl⟩
      replace H : ((weirkeeperlaw09_short.f k y461).bind fun t464 => (weirkeeperlaw09_NoteKinds.j0 k a0 a1 (!t464) a2_0 a2_1 a2_2 a2_3)) = some true := by first | (rw [hy461]; with_reducible exact H) | (have H2_ := (Option.bind_some _ _).symm.trans H; rw [hy461]; with_reducible exact H2_) | (have H2_ := (Option.bind_some _ _).symm.trans H; with_reducible exact H2_) | with_reducible exact H | (rw [hy461]; exact H) | exact H
      have Ny461 := Aside0.mk hy461
      clear hy461
      replace H := Option.bind_eq_some_iff.mp H
      obtain ⟨t464, A70, H⟩ := H
      replace H : (weirkeeperlaw09_NoteKinds.j0 k a0 a1 (!t464) a2_0 a2_1 a2_2 a2_3) = some true := H
      have A7 := Aside0.mk A70
      clear A70
      have H' := Aside0.mk H
      clear H
      have hcz8_0 : w5.cell? ⟨gb460, 0, none⟩ = some (.int .i64 a2_0) := (blk_cell BK460.out 0).trans rfl
      have hcz8_1 : w5.cell? ⟨gb460, 1, none⟩ = some (.string a2_1) := (blk_cell BK460.out 1).trans rfl
      have hcz8_2 : w5.cell? ⟨gb460, 2, none⟩ = some (.string a2_2) := (blk_cell BK460.out 2).trans rfl
      have hcz8_3 : w5.cell? ⟨gb460, 3, none⟩ = some (.int .u64 a2_3) := (blk_cell BK460.out 3).trans rfl
      have hfz8_0 := blk_frozen BK460.out 0
      have hfz8_1 := blk_frozen BK460.out 1
      have hfz8_2 := blk_frozen BK460.out 2
      have hfz8_3 := blk_frozen BK460.out 3
      go_wp2_with (first | ((with_reducible refine gate_dst (N := 14) rfl ?_); (try (refine gate_guard (by rfl) ?_; dsimp only)); refine Kd.R_lit k55 _ 55 ?hg (N := 14) ?hd (xs := ([(⟨a2_0, a2_1, a2_2, a2_3⟩ : S55)] : List (S55))) (inner := [.int .i64 a2_0, .string a2_1, .string a2_2, .int .u64 a2_3]) (ok := fun _ => True) (okp := fun _ => True) ?hr ?hp (fun _ hk => hk) trivial (Below.refl _ _) (Nat.le_refl _) (by simp) ?_; (case hd => rfl); (case hg => rfl); (case hr => first | (go_simp; done) | (go_simp; rfl)); (case hp => exact (Reps.c4 (show Kd.M k55 _ _ _ (⟨a2_0, a2_1, a2_2, a2_3⟩ : S55) [.int .i64 a2_0, .string a2_1, .string a2_2, .int .u64 a2_3] from (k55_mkM _ _ _ (⟨a2_0, a2_1, a2_2, a2_3⟩ : S55) )) (Reps.none _ _))); intro v462 w9 ho10 hb hg_ hnew_; clear hg_ hnew_; (first | rw [← Ny461.out] at ho10 | (simp only [Int.reduceToNat] at ho10; rw [← Ny461.out] at ho10)); have n0_ := Aside0.mk (Kd.R_lower (Kd.R_newB ho10 (g := gb460) (o := .cells #[.int .i64 a2_0, .string a2_1, .string a2_2, .int .u64 a2_3] 55 (0, 0)) (by (with_reducible repeat (first | refine blk_drewN ?_ _ | refine blk_drew ?_ | refine blk_alloc ?_ _)); exact BK460.out)) (below_size (by repeat (first | (with_reducible first | exact HB.out | apply below_alloc | apply pw_below_drewN | apply below_drew1 | refine below_set ?_ GE460.out) | exact HB.out)))); have n1_ := Aside0.mk (blk_below (g := gb460) (o := .cells #[.int .i64 a2_0, .string a2_1, .string a2_2, .int .u64 a2_3] 55 (0, 0)) (by (with_reducible repeat (first | refine blk_drewN ?_ _ | refine blk_drew ?_ | refine blk_alloc ?_ _)); exact BK460.out) hb); have n2_ := Aside0.mk (below_step (by repeat (first | (with_reducible first | exact HB.out | apply below_alloc | apply pw_below_drewN | apply below_drew1 | refine below_set ?_ GE460.out) | exact HB.out)) hb); clear BK460; clear HB; have HO463 := n0_; have BK460 := n1_; have HB := n2_; clear n0_ n1_ n2_; clear hb ho10; obtain ⟨Ao11, co11, eo11⟩ := Kd.R_slice HO463.out; subst eo11) | (go_at_call 28; (with_reducible refine (weirkeeperlaw09_short.calls k _ _ y461 t464 _ ?side1 ?side2 A7.out).mono ?_); (case side1 => repeat (first | exact (Kd.R_reads' HO463.out).2.2 | (with_reducible refine Kd.C_alloc ?_ _) | (with_reducible refine Kd.C_drewN ?_ _) | (with_reducible refine Kd.C_drew ?_))); (case side2 => exact (Kd.R_reads' HO463.out).2.1); rintro e w12 ⟨rfl, hb⟩; have n0_ := Aside0.mk (Kd.R_below (by (with_reducible repeat (first | apply Kd.R_alloc | apply Kd.R_drewN | apply Kd.R_drew)); exact HO463.out) hb); have n1_ := Aside0.mk (blk_below (g := gb460) (o := .cells #[.int .i64 a2_0, .string a2_1, .string a2_2, .int .u64 a2_3] 55 (0, 0)) (by (with_reducible repeat (first | refine blk_drewN ?_ _ | refine blk_drew ?_ | refine blk_alloc ?_ _)); exact BK460.out) hb); have n2_ := Aside0.mk (below_step (by repeat (first | (with_reducible first | exact HB.out | apply below_alloc | apply pw_below_drewN | apply below_drew1 | refine below_set ?_ GE460.out) | exact HB.out)) hb); clear HO463; clear BK460; clear HB; have HO463 := n0_; have BK460 := n1_; have HB := n2_; clear n0_ n1_ n2_; (try clear hb); (try clear hb2); (try clear hk); (try clear hi)))
      go_meet
      case rel => exact ⟨_, (!t464), (by first | rfl | (simp; done) | (simp [*]; done)), H', ⟨by first | omega | exact Nat.le_refl _⟩, ⟨by (with_reducible repeat (first | refine blk_drewN ?_ _ | refine blk_drew ?_ | refine blk_alloc ?_ _)); exact BK460.out⟩, ⟨by repeat (first | (with_reducible first | exact HB.out | apply below_alloc | apply pw_below_drewN | apply below_drew1 | refine below_set ?_ GE460.out) | exact HB.out)⟩⟩
  case rest =>
    clear HC4
    try clear c1
    try clear p2
    try clear c4
    try clear c6
    try clear c6b0
    try clear c6b1
    try clear hcz8_0
    try clear hcz8_1
    try clear hcz8_2
    try clear hcz8_3
    try clear hfz8_0
    try clear hfz8_1
    try clear hfz8_2
    try clear hfz8_3
    obtain ⟨kq, x17_3, rfl, HA, HJ3, BK460, HB⟩ := hcut
    cases kq with
    | zero => exact absurd HA.out (by simp [weirkeeperlaw09_NoteKinds.j0])
    | succ kj3 =>
      have H := HA.out
      clear HA
      simp only [weirkeeperlaw09_NoteKinds.j0] at H
      by_cases c13 : x17_3 = true
      · subst c13
        have H1 : ((weirkeeperlaw09_awake.f kj3).bind fun t465 => (some t465)) = some true := by rw [if_pos rfl] at H; exact H
        clear H
        have H := H1
        clear H1
        replace H := Option.bind_eq_some_iff.mp H
        obtain ⟨t465, A140, H⟩ := H
        replace H : (some t465) = some true := H
        have A14 := Aside0.mk A140
        clear A140
        (have H9_ := Option.some.inj H; first | subst H9_ | clear H9_)
        go_wp2_with (first | ((with_reducible refine gate_callee (f := 29) rfl ?_); refine goesL_ (some 18) rfl rfl Try.func29 (by kernel_rfl) rfl #[] rfl (by (try simp only [List.map_toArray, List.map_cons, List.map_nil]); first | done | rfl | (simp only [List.length_drop, List.length_take]; rfl)) ?_; (with_reducible refine (weirkeeperlaw09_awake.calls kj3 _ A14.out).mono ?_); rintro e w15 ⟨rfl, hb⟩; refine ⟨_, rfl, ?_⟩; have n0_ := Aside0.mk (blk_below (g := gb460) (o := .cells #[.int .i64 a2_0, .string a2_1, .string a2_2, .int .u64 a2_3] 55 (0, 0)) (by (with_reducible repeat (first | refine blk_drewN ?_ _ | refine blk_drew ?_ | refine blk_alloc ?_ _)); exact BK460.out) hb); have n1_ := Aside0.mk (below_step (by repeat (first | (with_reducible first | exact HB.out | apply below_alloc | apply pw_below_drewN | apply below_drew1 | refine below_set ?_ GE460.out) | exact HB.out)) hb); clear BK460; clear HB; have BK460 := n0_; have HB := n1_; clear n0_ n1_; (try clear hb); (try clear hb2); (try clear hk); (try clear hi)))
        go_ret
        exact ⟨by first | rfl | (simp [errW_none, errW_some] <;> rfl) | (simp [*, errW_none, errW_some] <;> rfl), by repeat (first | (with_reducible first | exact HB.out | apply below_alloc | apply pw_below_drewN | apply below_drew1 | refine below_set ?_ GE460.out) | exact HB.out)⟩
      · replace c13 := Bool.eq_false_iff.mpr c13
        subst c13
        have H1 : ((note_Done.f kj3 a0 a1 (([(⟨a2_0, a2_1, a2_2, a2_3⟩ : S55)] : List (S55)))).bind fun bt469 => (if a2_0 = 1 then (if bt469.2 = true then (if bt469.1.toList = a2_2.toList then ((weirkeeperlaw09_awake.f kj3).bind fun t471 => (some t471)) else (some false)) else (some false)) else (if a2_0 = 2 then (if bt469.2 = true then (some false) else (if bt469.1.toList = ([] : List UInt8) then ((weirkeeperlaw09_awake.f kj3).bind fun t472 => (some t472)) else (some false))) else (if a2_0 = 3 then (if bt469.2 = true then (if (bt469.1.size : Int) = 8 then ((weirkeeperlaw09_awake.f kj3).bind fun t473 => (some t473)) else (some false)) else (some false)) else (if (bt469.2 == a1) = true then (if bt469.1.toList = a0.toList then ((weirkeeperlaw09_awake.f kj3).bind fun t474 => (some t474)) else (if a1 = true then (some false) else (if bt469.1.toList = ([] : List UInt8) then ((weirkeeperlaw09_awake.f kj3).bind fun t475 => (some t475)) else (some false)))) else (some false)))))) = some true := by rw [if_neg (show ¬ (false = true) by decide)] at H; exact H
        clear H
        have H := H1
        clear H1
        obtain ⟨y466, hy466⟩ : ∃ y_ : List (S55), y_ = (([(⟨a2_0, a2_1, a2_2, a2_3⟩ : S55)] : List (S55))) := ⟨_, rfl⟩
        replace H : ((note_Done.f kj3 a0 a1 y466).bind fun bt469 => (if a2_0 = 1 then (if bt469.2 = true then (if bt469.1.toList = a2_2.toList then ((weirkeeperlaw09_awake.f kj3).bind fun t471 => (some t471)) else (some false)) else (some false)) else (if a2_0 = 2 then (if bt469.2 = true then (some false) else (if bt469.1.toList = ([] : List UInt8) then ((weirkeeperlaw09_awake.f kj3).bind fun t472 => (some t472)) else (some false))) else (if a2_0 = 3 then (if bt469.2 = true then (if (bt469.1.size : Int) = 8 then ((weirkeeperlaw09_awake.f kj3).bind fun t473 => (some t473)) else (some false)) else (some false)) else (if (bt469.2 == a1) = true then (if bt469.1.toList = a0.toList then ((weirkeeperlaw09_awake.f kj3).bind fun t474 => (some t474)) else (if a1 = true then (some false) else (if bt469.1.toList = ([] : List UInt8) then ((weirkeeperlaw09_awake.f kj3).bind fun t475 => (some t475)) else (some false)))) else (some false)))))) = some true := by first | (rw [hy466]; with_reducible exact H) | (have H2_ := (Option.bind_some _ _).symm.trans H; rw [hy466]; with_reducible exact H2_) | (have H2_ := (Option.bind_some _ _).symm.trans H; with_reducible exact H2_) | with_reducible exact H | (rw [hy466]; exact H) | exact H
        have Ny466 := Aside0.mk hy466
        clear hy466
        replace H := Option.bind_eq_some_iff.mp H
        obtain ⟨⟨t469, t470⟩, A160, H⟩ := H
        replace H : (if a2_0 = 1 then (if t470 = true then (if t469.toList = a2_2.toList then ((weirkeeperlaw09_awake.f kj3).bind fun t471 => (some t471)) else (some false)) else (some false)) else (if a2_0 = 2 then (if t470 = true then (some false) else (if t469.toList = ([] : List UInt8) then ((weirkeeperlaw09_awake.f kj3).bind fun t472 => (some t472)) else (some false))) else (if a2_0 = 3 then (if t470 = true then (if (t469.size : Int) = 8 then ((weirkeeperlaw09_awake.f kj3).bind fun t473 => (some t473)) else (some false)) else (some false)) else (if (t470 == a1) = true then (if t469.toList = a0.toList then ((weirkeeperlaw09_awake.f kj3).bind fun t474 => (some t474)) else (if a1 = true then (some false) else (if t469.toList = ([] : List UInt8) then ((weirkeeperlaw09_awake.f kj3).bind fun t475 => (some t475)) else (some false)))) else (some false))))) = some true := H
        have A16 := Aside0.mk A160
        clear A160
        by_cases c17 : a2_0 = 1
        · rw [if_pos c17] at H
          have c17b0 : (a2_0 == 1) = true := beq_iff_eq.mpr c17
          have c17b1 : (a2_0 != 1) = false := bne_eq_false_iff_eq.mpr c17
          clear c17
          by_cases c18 : t470 = true
          · subst c18
            have H1 : (if t469.toList = a2_2.toList then ((weirkeeperlaw09_awake.f kj3).bind fun t471 => (some t471)) else (some false)) = some true := by rw [if_pos rfl] at H; exact H
            clear H
            have H := H1
            clear H1
            by_cases c19 : t469.toList = a2_2.toList
            · rw [if_pos c19] at H
              have c19b0 : (t469.toList == a2_2.toList) = true := beq_iff_eq.mpr c19
              have c19b1 : (t469.toList != a2_2.toList) = false := bne_eq_false_iff_eq.mpr c19
              clear c19
              replace H := Option.bind_eq_some_iff.mp H
              obtain ⟨t471, A200, H⟩ := H
              replace H : (some t471) = some true := H
              have A20 := Aside0.mk A200
              clear A200
              (have H9_ := Option.some.inj H; first | subst H9_ | clear H9_)
              have hcz21_0 : wc.cell? ⟨gb460, 0, none⟩ = some (.int .i64 a2_0) := (blk_cell BK460.out 0).trans rfl
              have hcz21_1 : wc.cell? ⟨gb460, 1, none⟩ = some (.string a2_1) := (blk_cell BK460.out 1).trans rfl
              have hcz21_2 : wc.cell? ⟨gb460, 2, none⟩ = some (.string a2_2) := (blk_cell BK460.out 2).trans rfl
              have hcz21_3 : wc.cell? ⟨gb460, 3, none⟩ = some (.int .u64 a2_3) := (blk_cell BK460.out 3).trans rfl
              have hfz21_0 := blk_frozen BK460.out 0
              have hfz21_1 := blk_frozen BK460.out 1
              have hfz21_2 := blk_frozen BK460.out 2
              have hfz21_3 := blk_frozen BK460.out 3
              go_wp2_with (first | ((with_reducible refine gate_dst (N := 23) rfl ?_); (try (refine gate_guard (by rfl) ?_; dsimp only)); refine Kd.R_lit k55 _ 55 ?hg (N := 23) ?hd (xs := ([(⟨a2_0, a2_1, a2_2, a2_3⟩ : S55)] : List (S55))) (inner := [.int .i64 a2_0, .string a2_1, .string a2_2, .int .u64 a2_3]) (ok := fun _ => True) (okp := fun _ => True) ?hr ?hp (fun _ hk => hk) trivial (Below.refl _ _) (Nat.le_refl _) (by simp) ?_; (case hd => rfl); (case hg => rfl); (case hr => first | (go_simp; done) | (go_simp; rfl)); (case hp => exact (Reps.c4 (show Kd.M k55 _ _ _ (⟨a2_0, a2_1, a2_2, a2_3⟩ : S55) [.int .i64 a2_0, .string a2_1, .string a2_2, .int .u64 a2_3] from (k55_mkM _ _ _ (⟨a2_0, a2_1, a2_2, a2_3⟩ : S55) )) (Reps.none _ _))); intro v467 w22 ho23 hb hg_ hnew_; clear hg_ hnew_; (first | rw [← Ny466.out] at ho23 | (simp only [Int.reduceToNat] at ho23; rw [← Ny466.out] at ho23)); have n0_ := Aside0.mk (Kd.R_lower (Kd.R_newB ho23 (g := gb460) (o := .cells #[.int .i64 a2_0, .string a2_1, .string a2_2, .int .u64 a2_3] 55 (0, 0)) (by (with_reducible repeat (first | refine blk_drewN ?_ _ | refine blk_drew ?_ | refine blk_alloc ?_ _)); exact BK460.out)) (below_size (by repeat (first | (with_reducible first | exact HB.out | apply below_alloc | apply pw_below_drewN | apply below_drew1 | refine below_set ?_ GE460.out) | exact HB.out)))); have n1_ := Aside0.mk (blk_below (g := gb460) (o := .cells #[.int .i64 a2_0, .string a2_1, .string a2_2, .int .u64 a2_3] 55 (0, 0)) (by (with_reducible repeat (first | refine blk_drewN ?_ _ | refine blk_drew ?_ | refine blk_alloc ?_ _)); exact BK460.out) hb); have n2_ := Aside0.mk (below_step (by repeat (first | (with_reducible first | exact HB.out | apply below_alloc | apply pw_below_drewN | apply below_drew1 | refine below_set ?_ GE460.out) | exact HB.out)) hb); clear BK460; clear HB; have HO468 := n0_; have BK460 := n1_; have HB := n2_; clear n0_ n1_ n2_; clear hb ho23; obtain ⟨Ao24, co24, eo24⟩ := Kd.R_slice HO468.out; subst eo24) | ((with_reducible refine gate_callee (f := 30) rfl ?_); refine goesL_ (some 24) rfl rfl Try.func30 (by kernel_rfl) rfl #[.string a0, .bool a1, .slice Ao24 y466.length co24] rfl (by (try simp only [List.map_toArray, List.map_cons, List.map_nil]); first | done | rfl | (simp only [List.length_drop, List.length_take]; rfl)) ?_; (with_reducible refine (note_Done.calls kj3 a0 a1 _ _ y466 t469 true _ ?side1 ?side2 A16.out).mono ?_); (case side1 => repeat (first | exact (Kd.R_reads' HO468.out).2.2 | (with_reducible refine Kd.C_alloc ?_ _) | (with_reducible refine Kd.C_drewN ?_ _) | (with_reducible refine Kd.C_drew ?_))); (case side2 => exact (Kd.R_reads' HO468.out).2.1); rintro e w25 ⟨rfl, hb⟩; refine ⟨_, rfl, ?_⟩; have n0_ := Aside0.mk (Kd.R_below (by (with_reducible repeat (first | apply Kd.R_alloc | apply Kd.R_drewN | apply Kd.R_drew)); exact HO468.out) hb); have n1_ := Aside0.mk (blk_below (g := gb460) (o := .cells #[.int .i64 a2_0, .string a2_1, .string a2_2, .int .u64 a2_3] 55 (0, 0)) (by (with_reducible repeat (first | refine blk_drewN ?_ _ | refine blk_drew ?_ | refine blk_alloc ?_ _)); exact BK460.out) hb); have n2_ := Aside0.mk (below_step (by repeat (first | (with_reducible first | exact HB.out | apply below_alloc | apply pw_below_drewN | apply below_drew1 | refine below_set ?_ GE460.out) | exact HB.out)) hb); clear HO468; clear BK460; clear HB; have HO468 := n0_; have BK460 := n1_; have HB := n2_; clear n0_ n1_ n2_; (try clear hb); (try clear hb2); (try clear hk); (try clear hi); have hcz26_0 : w25.cell? ⟨gb460, 0, none⟩ = some (.int .i64 a2_0) := (blk_cell BK460.out 0).trans rfl; have hcz26_1 : w25.cell? ⟨gb460, 1, none⟩ = some (.string a2_1) := (blk_cell BK460.out 1).trans rfl; have hcz26_2 : w25.cell? ⟨gb460, 2, none⟩ = some (.string a2_2) := (blk_cell BK460.out 2).trans rfl; have hcz26_3 : w25.cell? ⟨gb460, 3, none⟩ = some (.int .u64 a2_3) := (blk_cell BK460.out 3).trans rfl; have hfz26_0 := blk_frozen BK460.out 0; have hfz26_1 := blk_frozen BK460.out 1; have hfz26_2 := blk_frozen BK460.out 2; have hfz26_3 := blk_frozen BK460.out 3) | (go_at_call 29; (with_reducible refine (weirkeeperlaw09_awake.calls kj3 _ A20.out).mono ?_); rintro e w27 ⟨rfl, hb⟩; have n0_ := Aside0.mk (Kd.R_below (by (with_reducible repeat (first | apply Kd.R_alloc | apply Kd.R_drewN | apply Kd.R_drew)); exact HO468.out) hb); have n1_ := Aside0.mk (blk_below (g := gb460) (o := .cells #[.int .i64 a2_0, .string a2_1, .string a2_2, .int .u64 a2_3] 55 (0, 0)) (by (with_reducible repeat (first | refine blk_drewN ?_ _ | refine blk_drew ?_ | refine blk_alloc ?_ _)); exact BK460.out) hb); have n2_ := Aside0.mk (below_step (by repeat (first | (with_reducible first | exact HB.out | apply below_alloc | apply pw_below_drewN | apply below_drew1 | refine below_set ?_ GE460.out) | exact HB.out)) hb); clear HO468; clear BK460; clear HB; have HO468 := n0_; have BK460 := n1_; have HB := n2_; clear n0_ n1_ n2_; (try clear hb); (try clear hb2); (try clear hk); (try clear hi)))
              go_ret
              exact ⟨by first | rfl | (simp [errW_none, errW_some] <;> rfl) | (simp [*, errW_none, errW_some] <;> rfl), by repeat (first | (with_reducible first | exact HB.out | apply below_alloc | apply pw_below_drewN | apply below_drew1 | refine below_set ?_ GE460.out) | exact HB.out)⟩
            · rw [if_neg c19] at H
              have c19b0 : (t469.toList == a2_2.toList) = false := beq_eq_false_iff_ne.mpr c19
              have c19b1 : (t469.toList != a2_2.toList) = true := bne_iff_ne.mpr c19
              exact absurd H (by simp)
          · replace c18 := Bool.eq_false_iff.mpr c18
            subst c18
            have H1 : (some false) = some true := by rw [if_neg (show ¬ (false = true) by decide)] at H; exact H
            clear H
            have H := H1
            clear H1
            exact absurd H (by simp)
        · rw [if_neg c17] at H
          have c17b0 : (a2_0 == 1) = false := beq_eq_false_iff_ne.mpr c17
          have c17b1 : (a2_0 != 1) = true := bne_iff_ne.mpr c17
          by_cases c28 : a2_0 = 2
          · rw [if_pos c28] at H
            have c28b0 : (a2_0 == 2) = true := beq_iff_eq.mpr c28
            have c28b1 : (a2_0 != 2) = false := bne_eq_false_iff_eq.mpr c28
            clear c28
            by_cases c29 : t470 = true
            · subst c29
              have H1 : (some false) = some true := by rw [if_pos rfl] at H; exact H
              clear H
              have H := H1
              clear H1
              exact absurd H (by simp)
            · replace c29 := Bool.eq_false_iff.mpr c29
              subst c29
              have H1 : (if t469.toList = ([] : List UInt8) then ((weirkeeperlaw09_awake.f kj3).bind fun t472 => (some t472)) else (some false)) = some true := by rw [if_neg (show ¬ (false = true) by decide)] at H; exact H
              clear H
              have H := H1
              clear H1
              by_cases c30 : t469.toList = ([] : List UInt8)
              · rw [if_pos c30] at H
                have c30b0 : (t469.toList == ([] : List UInt8)) = true := beq_iff_eq.mpr c30
                have c30b1 : (t469.toList != ([] : List UInt8)) = false := bne_eq_false_iff_eq.mpr c30
                clear c30
                replace H := Option.bind_eq_some_iff.mp H
                obtain ⟨t472, A310, H⟩ := H
                replace H : (some t472) = some true := H
                have A31 := Aside0.mk A310
                clear A310
                (have H9_ := Option.some.inj H; first | subst H9_ | clear H9_)
                have hcz32_0 : wc.cell? ⟨gb460, 0, none⟩ = some (.int .i64 a2_0) := (blk_cell BK460.out 0).trans rfl
                have hcz32_1 : wc.cell? ⟨gb460, 1, none⟩ = some (.string a2_1) := (blk_cell BK460.out 1).trans rfl
                have hcz32_2 : wc.cell? ⟨gb460, 2, none⟩ = some (.string a2_2) := (blk_cell BK460.out 2).trans rfl
                have hcz32_3 : wc.cell? ⟨gb460, 3, none⟩ = some (.int .u64 a2_3) := (blk_cell BK460.out 3).trans rfl
                have hfz32_0 := blk_frozen BK460.out 0
                have hfz32_1 := blk_frozen BK460.out 1
                have hfz32_2 := blk_frozen BK460.out 2
                have hfz32_3 := blk_frozen BK460.out 3
                go_wp2_with (first | ((with_reducible refine gate_dst (N := 23) rfl ?_); (try (refine gate_guard (by rfl) ?_; dsimp only)); refine Kd.R_lit k55 _ 55 ?hg (N := 23) ?hd (xs := ([(⟨a2_0, a2_1, a2_2, a2_3⟩ : S55)] : List (S55))) (inner := [.int .i64 a2_0, .string a2_1, .string a2_2, .int .u64 a2_3]) (ok := fun _ => True) (okp := fun _ => True) ?hr ?hp (fun _ hk => hk) trivial (Below.refl _ _) (Nat.le_refl _) (by simp) ?_; (case hd => rfl); (case hg => rfl); (case hr => first | (go_simp; done) | (go_simp; rfl)); (case hp => exact (Reps.c4 (show Kd.M k55 _ _ _ (⟨a2_0, a2_1, a2_2, a2_3⟩ : S55) [.int .i64 a2_0, .string a2_1, .string a2_2, .int .u64 a2_3] from (k55_mkM _ _ _ (⟨a2_0, a2_1, a2_2, a2_3⟩ : S55) )) (Reps.none _ _))); intro v467 w33 ho34 hb hg_ hnew_; clear hg_ hnew_; (first | rw [← Ny466.out] at ho34 | (simp only [Int.reduceToNat] at ho34; rw [← Ny466.out] at ho34)); have n0_ := Aside0.mk (Kd.R_lower (Kd.R_newB ho34 (g := gb460) (o := .cells #[.int .i64 a2_0, .string a2_1, .string a2_2, .int .u64 a2_3] 55 (0, 0)) (by (with_reducible repeat (first | refine blk_drewN ?_ _ | refine blk_drew ?_ | refine blk_alloc ?_ _)); exact BK460.out)) (below_size (by repeat (first | (with_reducible first | exact HB.out | apply below_alloc | apply pw_below_drewN | apply below_drew1 | refine below_set ?_ GE460.out) | exact HB.out)))); have n1_ := Aside0.mk (blk_below (g := gb460) (o := .cells #[.int .i64 a2_0, .string a2_1, .string a2_2, .int .u64 a2_3] 55 (0, 0)) (by (with_reducible repeat (first | refine blk_drewN ?_ _ | refine blk_drew ?_ | refine blk_alloc ?_ _)); exact BK460.out) hb); have n2_ := Aside0.mk (below_step (by repeat (first | (with_reducible first | exact HB.out | apply below_alloc | apply pw_below_drewN | apply below_drew1 | refine below_set ?_ GE460.out) | exact HB.out)) hb); clear BK460; clear HB; have HO468 := n0_; have BK460 := n1_; have HB := n2_; clear n0_ n1_ n2_; clear hb ho34; obtain ⟨Ao35, co35, eo35⟩ := Kd.R_slice HO468.out; subst eo35) | ((with_reducible refine gate_callee (f := 30) rfl ?_); refine goesL_ (some 24) rfl rfl Try.func30 (by kernel_rfl) rfl #[.string a0, .bool a1, .slice Ao35 y466.length co35] rfl (by (try simp only [List.map_toArray, List.map_cons, List.map_nil]); first | done | rfl | (simp only [List.length_drop, List.length_take]; rfl)) ?_; (with_reducible refine (note_Done.calls kj3 a0 a1 _ _ y466 t469 false _ ?side1 ?side2 A16.out).mono ?_); (case side1 => repeat (first | exact (Kd.R_reads' HO468.out).2.2 | (with_reducible refine Kd.C_alloc ?_ _) | (with_reducible refine Kd.C_drewN ?_ _) | (with_reducible refine Kd.C_drew ?_))); (case side2 => exact (Kd.R_reads' HO468.out).2.1); rintro e w36 ⟨rfl, hb⟩; refine ⟨_, rfl, ?_⟩; have n0_ := Aside0.mk (Kd.R_below (by (with_reducible repeat (first | apply Kd.R_alloc | apply Kd.R_drewN | apply Kd.R_drew)); exact HO468.out) hb); have n1_ := Aside0.mk (blk_below (g := gb460) (o := .cells #[.int .i64 a2_0, .string a2_1, .string a2_2, .int .u64 a2_3] 55 (0, 0)) (by (with_reducible repeat (first | refine blk_drewN ?_ _ | refine blk_drew ?_ | refine blk_alloc ?_ _)); exact BK460.out) hb); have n2_ := Aside0.mk (below_step (by repeat (first | (with_reducible first | exact HB.out | apply below_alloc | apply pw_below_drewN | apply below_drew1 | refine below_set ?_ GE460.out) | exact HB.out)) hb); clear HO468; clear BK460; clear HB; have HO468 := n0_; have BK460 := n1_; have HB := n2_; clear n0_ n1_ n2_; (try clear hb); (try clear hb2); (try clear hk); (try clear hi); have hcz37_0 : w36.cell? ⟨gb460, 0, none⟩ = some (.int .i64 a2_0) := (blk_cell BK460.out 0).trans rfl; have hcz37_1 : w36.cell? ⟨gb460, 1, none⟩ = some (.string a2_1) := (blk_cell BK460.out 1).trans rfl; have hcz37_2 : w36.cell? ⟨gb460, 2, none⟩ = some (.string a2_2) := (blk_cell BK460.out 2).trans rfl; have hcz37_3 : w36.cell? ⟨gb460, 3, none⟩ = some (.int .u64 a2_3) := (blk_cell BK460.out 3).trans rfl; have hfz37_0 := blk_frozen BK460.out 0; have hfz37_1 := blk_frozen BK460.out 1; have hfz37_2 := blk_frozen BK460.out 2; have hfz37_3 := blk_frozen BK460.out 3) | (go_at_call 29; (with_reducible refine (weirkeeperlaw09_awake.calls kj3 _ A31.out).mono ?_); rintro e w38 ⟨rfl, hb⟩; have n0_ := Aside0.mk (Kd.R_below (by (with_reducible repeat (first | apply Kd.R_alloc | apply Kd.R_drewN | apply Kd.R_drew)); exact HO468.out) hb); have n1_ := Aside0.mk (blk_below (g := gb460) (o := .cells #[.int .i64 a2_0, .string a2_1, .string a2_2, .int .u64 a2_3] 55 (0, 0)) (by (with_reducible repeat (first | refine blk_drewN ?_ _ | refine blk_drew ?_ | refine blk_alloc ?_ _)); exact BK460.out) hb); have n2_ := Aside0.mk (below_step (by repeat (first | (with_reducible first | exact HB.out | apply below_alloc | apply pw_below_drewN | apply below_drew1 | refine below_set ?_ GE460.out) | exact HB.out)) hb); clear HO468; clear BK460; clear HB; have HO468 := n0_; have BK460 := n1_; have HB := n2_; clear n0_ n1_ n2_; (try clear hb); (try clear hb2); (try clear hk); (try clear hi)))
                go_ret
                exact ⟨by first | rfl | (simp [errW_none, errW_some] <;> rfl) | (simp [*, errW_none, errW_some] <;> rfl), by repeat (first | (with_reducible first | exact HB.out | apply below_alloc | apply pw_below_drewN | apply below_drew1 | refine below_set ?_ GE460.out) | exact HB.out)⟩
              · rw [if_neg c30] at H
                have c30b0 : (t469.toList == ([] : List UInt8)) = false := beq_eq_false_iff_ne.mpr c30
                have c30b1 : (t469.toList != ([] : List UInt8)) = true := bne_iff_ne.mpr c30
                exact absurd H (by simp)
          · rw [if_neg c28] at H
            have c28b0 : (a2_0 == 2) = false := beq_eq_false_iff_ne.mpr c28
            have c28b1 : (a2_0 != 2) = true := bne_iff_ne.mpr c28
            by_cases c39 : a2_0 = 3
            · rw [if_pos c39] at H
              have c39b0 : (a2_0 == 3) = true := beq_iff_eq.mpr c39
              have c39b1 : (a2_0 != 3) = false := bne_eq_false_iff_eq.mpr c39
              clear c39
              by_cases c40 : t470 = true
              · subst c40
                have H1 : (if (t469.size : Int) = 8 then ((weirkeeperlaw09_awake.f kj3).bind fun t473 => (some t473)) else (some false)) = some true := by rw [if_pos rfl] at H; exact H
                clear H
                have H := H1
                clear H1
                by_cases c41 : (t469.size : Int) = 8
                · rw [if_pos c41] at H
                  have c41b0 : ((t469.size : Int) == 8) = true := beq_iff_eq.mpr c41
                  have c41b1 : ((t469.size : Int) != 8) = false := bne_eq_false_iff_eq.mpr c41
                  clear c41
                  replace H := Option.bind_eq_some_iff.mp H
                  obtain ⟨t473, A420, H⟩ := H
                  replace H : (some t473) = some true := H
                  have A42 := Aside0.mk A420
                  clear A420
                  (have H9_ := Option.some.inj H; first | subst H9_ | clear H9_)
                  have hcz43_0 : wc.cell? ⟨gb460, 0, none⟩ = some (.int .i64 a2_0) := (blk_cell BK460.out 0).trans rfl
                  have hcz43_1 : wc.cell? ⟨gb460, 1, none⟩ = some (.string a2_1) := (blk_cell BK460.out 1).trans rfl
                  have hcz43_2 : wc.cell? ⟨gb460, 2, none⟩ = some (.string a2_2) := (blk_cell BK460.out 2).trans rfl
                  have hcz43_3 : wc.cell? ⟨gb460, 3, none⟩ = some (.int .u64 a2_3) := (blk_cell BK460.out 3).trans rfl
                  have hfz43_0 := blk_frozen BK460.out 0
                  have hfz43_1 := blk_frozen BK460.out 1
                  have hfz43_2 := blk_frozen BK460.out 2
                  have hfz43_3 := blk_frozen BK460.out 3
                  go_wp2_with (first | ((with_reducible refine gate_dst (N := 23) rfl ?_); (try (refine gate_guard (by rfl) ?_; dsimp only)); refine Kd.R_lit k55 _ 55 ?hg (N := 23) ?hd (xs := ([(⟨a2_0, a2_1, a2_2, a2_3⟩ : S55)] : List (S55))) (inner := [.int .i64 a2_0, .string a2_1, .string a2_2, .int .u64 a2_3]) (ok := fun _ => True) (okp := fun _ => True) ?hr ?hp (fun _ hk => hk) trivial (Below.refl _ _) (Nat.le_refl _) (by simp) ?_; (case hd => rfl); (case hg => rfl); (case hr => first | (go_simp; done) | (go_simp; rfl)); (case hp => exact (Reps.c4 (show Kd.M k55 _ _ _ (⟨a2_0, a2_1, a2_2, a2_3⟩ : S55) [.int .i64 a2_0, .string a2_1, .string a2_2, .int .u64 a2_3] from (k55_mkM _ _ _ (⟨a2_0, a2_1, a2_2, a2_3⟩ : S55) )) (Reps.none _ _))); intro v467 w44 ho45 hb hg_ hnew_; clear hg_ hnew_; (first | rw [← Ny466.out] at ho45 | (simp only [Int.reduceToNat] at ho45; rw [← Ny466.out] at ho45)); have n0_ := Aside0.mk (Kd.R_lower (Kd.R_newB ho45 (g := gb460) (o := .cells #[.int .i64 a2_0, .string a2_1, .string a2_2, .int .u64 a2_3] 55 (0, 0)) (by (with_reducible repeat (first | refine blk_drewN ?_ _ | refine blk_drew ?_ | refine blk_alloc ?_ _)); exact BK460.out)) (below_size (by repeat (first | (with_reducible first | exact HB.out | apply below_alloc | apply pw_below_drewN | apply below_drew1 | refine below_set ?_ GE460.out) | exact HB.out)))); have n1_ := Aside0.mk (blk_below (g := gb460) (o := .cells #[.int .i64 a2_0, .string a2_1, .string a2_2, .int .u64 a2_3] 55 (0, 0)) (by (with_reducible repeat (first | refine blk_drewN ?_ _ | refine blk_drew ?_ | refine blk_alloc ?_ _)); exact BK460.out) hb); have n2_ := Aside0.mk (below_step (by repeat (first | (with_reducible first | exact HB.out | apply below_alloc | apply pw_below_drewN | apply below_drew1 | refine below_set ?_ GE460.out) | exact HB.out)) hb); clear BK460; clear HB; have HO468 := n0_; have BK460 := n1_; have HB := n2_; clear n0_ n1_ n2_; clear hb ho45; obtain ⟨Ao46, co46, eo46⟩ := Kd.R_slice HO468.out; subst eo46) | ((with_reducible refine gate_callee (f := 30) rfl ?_); refine goesL_ (some 24) rfl rfl Try.func30 (by kernel_rfl) rfl #[.string a0, .bool a1, .slice Ao46 y466.length co46] rfl (by (try simp only [List.map_toArray, List.map_cons, List.map_nil]); first | done | rfl | (simp only [List.length_drop, List.length_take]; rfl)) ?_; (with_reducible refine (note_Done.calls kj3 a0 a1 _ _ y466 t469 true _ ?side1 ?side2 A16.out).mono ?_); (case side1 => repeat (first | exact (Kd.R_reads' HO468.out).2.2 | (with_reducible refine Kd.C_alloc ?_ _) | (with_reducible refine Kd.C_drewN ?_ _) | (with_reducible refine Kd.C_drew ?_))); (case side2 => exact (Kd.R_reads' HO468.out).2.1); rintro e w47 ⟨rfl, hb⟩; refine ⟨_, rfl, ?_⟩; have n0_ := Aside0.mk (Kd.R_below (by (with_reducible repeat (first | apply Kd.R_alloc | apply Kd.R_drewN | apply Kd.R_drew)); exact HO468.out) hb); have n1_ := Aside0.mk (blk_below (g := gb460) (o := .cells #[.int .i64 a2_0, .string a2_1, .string a2_2, .int .u64 a2_3] 55 (0, 0)) (by (with_reducible repeat (first | refine blk_drewN ?_ _ | refine blk_drew ?_ | refine blk_alloc ?_ _)); exact BK460.out) hb); have n2_ := Aside0.mk (below_step (by repeat (first | (with_reducible first | exact HB.out | apply below_alloc | apply pw_below_drewN | apply below_drew1 | refine below_set ?_ GE460.out) | exact HB.out)) hb); clear HO468; clear BK460; clear HB; have HO468 := n0_; have BK460 := n1_; have HB := n2_; clear n0_ n1_ n2_; (try clear hb); (try clear hb2); (try clear hk); (try clear hi); have hcz48_0 : w47.cell? ⟨gb460, 0, none⟩ = some (.int .i64 a2_0) := (blk_cell BK460.out 0).trans rfl; have hcz48_1 : w47.cell? ⟨gb460, 1, none⟩ = some (.string a2_1) := (blk_cell BK460.out 1).trans rfl; have hcz48_2 : w47.cell? ⟨gb460, 2, none⟩ = some (.string a2_2) := (blk_cell BK460.out 2).trans rfl; have hcz48_3 : w47.cell? ⟨gb460, 3, none⟩ = some (.int .u64 a2_3) := (blk_cell BK460.out 3).trans rfl; have hfz48_0 := blk_frozen BK460.out 0; have hfz48_1 := blk_frozen BK460.out 1; have hfz48_2 := blk_frozen BK460.out 2; have hfz48_3 := blk_frozen BK460.out 3) | (go_at_call 29; (with_reducible refine (weirkeeperlaw09_awake.calls kj3 _ A42.out).mono ?_); rintro e w49 ⟨rfl, hb⟩; have n0_ := Aside0.mk (Kd.R_below (by (with_reducible repeat (first | apply Kd.R_alloc | apply Kd.R_drewN | apply Kd.R_drew)); exact HO468.out) hb); have n1_ := Aside0.mk (blk_below (g := gb460) (o := .cells #[.int .i64 a2_0, .string a2_1, .string a2_2, .int .u64 a2_3] 55 (0, 0)) (by (with_reducible repeat (first | refine blk_drewN ?_ _ | refine blk_drew ?_ | refine blk_alloc ?_ _)); exact BK460.out) hb); have n2_ := Aside0.mk (below_step (by repeat (first | (with_reducible first | exact HB.out | apply below_alloc | apply pw_below_drewN | apply below_drew1 | refine below_set ?_ GE460.out) | exact HB.out)) hb); clear HO468; clear BK460; clear HB; have HO468 := n0_; have BK460 := n1_; have HB := n2_; clear n0_ n1_ n2_; (try clear hb); (try clear hb2); (try clear hk); (try clear hi)))
                  go_ret
                  exact ⟨by first | rfl | (simp [errW_none, errW_some] <;> rfl) | (simp [*, errW_none, errW_some] <;> rfl), by repeat (first | (with_reducible first | exact HB.out | apply below_alloc | apply pw_below_drewN | apply below_drew1 | refine below_set ?_ GE460.out) | exact HB.out)⟩
                · rw [if_neg c41] at H
                  have c41b0 : ((t469.size : Int) == 8) = false := beq_eq_false_iff_ne.mpr c41
                  have c41b1 : ((t469.size : Int) != 8) = true := bne_iff_ne.mpr c41
                  exact absurd H (by simp)
              · replace c40 := Bool.eq_false_iff.mpr c40
                subst c40
                have H1 : (some false) = some true := by rw [if_neg (show ¬ (false = true) by decide)] at H; exact H
                clear H
                have H := H1
                clear H1
                exact absurd H (by simp)
            · rw [if_neg c39] at H
              have c39b0 : (a2_0 == 3) = false := beq_eq_false_iff_ne.mpr c39
              have c39b1 : (a2_0 != 3) = true := bne_iff_ne.mpr c39
              by_cases c50 : (t470 == a1) = true
              · rw [if_pos c50] at H
                have c50b0 : (t470 == a1) = true := c50
                (try (have c50b1 : decide (t470 = a1) = true := by simpa using c50))
                (try (have c50b2 : (t470 == a1) = true := by simpa using c50))
                clear c50
                by_cases c51 : t469.toList = a0.toList
                · rw [if_pos c51] at H
                  have c51b0 : (t469.toList == a0.toList) = true := beq_iff_eq.mpr c51
                  have c51b1 : (t469.toList != a0.toList) = false := bne_eq_false_iff_eq.mpr c51
                  clear c51
                  replace H := Option.bind_eq_some_iff.mp H
                  obtain ⟨t474, A520, H⟩ := H
                  replace H : (some t474) = some true := H
                  have A52 := Aside0.mk A520
                  clear A520
                  (have H9_ := Option.some.inj H; first | subst H9_ | clear H9_)
                  have hcz53_0 : wc.cell? ⟨gb460, 0, none⟩ = some (.int .i64 a2_0) := (blk_cell BK460.out 0).trans rfl
                  have hcz53_1 : wc.cell? ⟨gb460, 1, none⟩ = some (.string a2_1) := (blk_cell BK460.out 1).trans rfl
                  have hcz53_2 : wc.cell? ⟨gb460, 2, none⟩ = some (.string a2_2) := (blk_cell BK460.out 2).trans rfl
                  have hcz53_3 : wc.cell? ⟨gb460, 3, none⟩ = some (.int .u64 a2_3) := (blk_cell BK460.out 3).trans rfl
                  have hfz53_0 := blk_frozen BK460.out 0
                  have hfz53_1 := blk_frozen BK460.out 1
                  have hfz53_2 := blk_frozen BK460.out 2
                  have hfz53_3 := blk_frozen BK460.out 3
                  go_wp2_with (first | ((with_reducible refine gate_dst (N := 23) rfl ?_); (try (refine gate_guard (by rfl) ?_; dsimp only)); refine Kd.R_lit k55 _ 55 ?hg (N := 23) ?hd (xs := ([(⟨a2_0, a2_1, a2_2, a2_3⟩ : S55)] : List (S55))) (inner := [.int .i64 a2_0, .string a2_1, .string a2_2, .int .u64 a2_3]) (ok := fun _ => True) (okp := fun _ => True) ?hr ?hp (fun _ hk => hk) trivial (Below.refl _ _) (Nat.le_refl _) (by simp) ?_; (case hd => rfl); (case hg => rfl); (case hr => first | (go_simp; done) | (go_simp; rfl)); (case hp => exact (Reps.c4 (show Kd.M k55 _ _ _ (⟨a2_0, a2_1, a2_2, a2_3⟩ : S55) [.int .i64 a2_0, .string a2_1, .string a2_2, .int .u64 a2_3] from (k55_mkM _ _ _ (⟨a2_0, a2_1, a2_2, a2_3⟩ : S55) )) (Reps.none _ _))); intro v467 w54 ho55 hb hg_ hnew_; clear hg_ hnew_; (first | rw [← Ny466.out] at ho55 | (simp only [Int.reduceToNat] at ho55; rw [← Ny466.out] at ho55)); have n0_ := Aside0.mk (Kd.R_lower (Kd.R_newB ho55 (g := gb460) (o := .cells #[.int .i64 a2_0, .string a2_1, .string a2_2, .int .u64 a2_3] 55 (0, 0)) (by (with_reducible repeat (first | refine blk_drewN ?_ _ | refine blk_drew ?_ | refine blk_alloc ?_ _)); exact BK460.out)) (below_size (by repeat (first | (with_reducible first | exact HB.out | apply below_alloc | apply pw_below_drewN | apply below_drew1 | refine below_set ?_ GE460.out) | exact HB.out)))); have n1_ := Aside0.mk (blk_below (g := gb460) (o := .cells #[.int .i64 a2_0, .string a2_1, .string a2_2, .int .u64 a2_3] 55 (0, 0)) (by (with_reducible repeat (first | refine blk_drewN ?_ _ | refine blk_drew ?_ | refine blk_alloc ?_ _)); exact BK460.out) hb); have n2_ := Aside0.mk (below_step (by repeat (first | (with_reducible first | exact HB.out | apply below_alloc | apply pw_below_drewN | apply below_drew1 | refine below_set ?_ GE460.out) | exact HB.out)) hb); clear BK460; clear HB; have HO468 := n0_; have BK460 := n1_; have HB := n2_; clear n0_ n1_ n2_; clear hb ho55; obtain ⟨Ao56, co56, eo56⟩ := Kd.R_slice HO468.out; subst eo56) | ((with_reducible refine gate_callee (f := 30) rfl ?_); refine goesL_ (some 24) rfl rfl Try.func30 (by kernel_rfl) rfl #[.string a0, .bool a1, .slice Ao56 y466.length co56] rfl (by (try simp only [List.map_toArray, List.map_cons, List.map_nil]); first | done | rfl | (simp only [List.length_drop, List.length_take]; rfl)) ?_; (with_reducible refine (note_Done.calls kj3 a0 a1 _ _ y466 t469 t470 _ ?side1 ?side2 A16.out).mono ?_); (case side1 => repeat (first | exact (Kd.R_reads' HO468.out).2.2 | (with_reducible refine Kd.C_alloc ?_ _) | (with_reducible refine Kd.C_drewN ?_ _) | (with_reducible refine Kd.C_drew ?_))); (case side2 => exact (Kd.R_reads' HO468.out).2.1); rintro e w57 ⟨rfl, hb⟩; refine ⟨_, rfl, ?_⟩; have n0_ := Aside0.mk (Kd.R_below (by (with_reducible repeat (first | apply Kd.R_alloc | apply Kd.R_drewN | apply Kd.R_drew)); exact HO468.out) hb); have n1_ := Aside0.mk (blk_below (g := gb460) (o := .cells #[.int .i64 a2_0, .string a2_1, .string a2_2, .int .u64 a2_3] 55 (0, 0)) (by (with_reducible repeat (first | refine blk_drewN ?_ _ | refine blk_drew ?_ | refine blk_alloc ?_ _)); exact BK460.out) hb); have n2_ := Aside0.mk (below_step (by repeat (first | (with_reducible first | exact HB.out | apply below_alloc | apply pw_below_drewN | apply below_drew1 | refine below_set ?_ GE460.out) | exact HB.out)) hb); clear HO468; clear BK460; clear HB; have HO468 := n0_; have BK460 := n1_; have HB := n2_; clear n0_ n1_ n2_; (try clear hb); (try clear hb2); (try clear hk); (try clear hi); have hcz58_0 : w57.cell? ⟨gb460, 0, none⟩ = some (.int .i64 a2_0) := (blk_cell BK460.out 0).trans rfl; have hcz58_1 : w57.cell? ⟨gb460, 1, none⟩ = some (.string a2_1) := (blk_cell BK460.out 1).trans rfl; have hcz58_2 : w57.cell? ⟨gb460, 2, none⟩ = some (.string a2_2) := (blk_cell BK460.out 2).trans rfl; have hcz58_3 : w57.cell? ⟨gb460, 3, none⟩ = some (.int .u64 a2_3) := (blk_cell BK460.out 3).trans rfl; have hfz58_0 := blk_frozen BK460.out 0; have hfz58_1 := blk_frozen BK460.out 1; have hfz58_2 := blk_frozen BK460.out 2; have hfz58_3 := blk_frozen BK460.out 3) | (go_at_call 29; (with_reducible refine (weirkeeperlaw09_awake.calls kj3 _ A52.out).mono ?_); rintro e w59 ⟨rfl, hb⟩; have n0_ := Aside0.mk (Kd.R_below (by (with_reducible repeat (first | apply Kd.R_alloc | apply Kd.R_drewN | apply Kd.R_drew)); exact HO468.out) hb); have n1_ := Aside0.mk (blk_below (g := gb460) (o := .cells #[.int .i64 a2_0, .string a2_1, .string a2_2, .int .u64 a2_3] 55 (0, 0)) (by (with_reducible repeat (first | refine blk_drewN ?_ _ | refine blk_drew ?_ | refine blk_alloc ?_ _)); exact BK460.out) hb); have n2_ := Aside0.mk (below_step (by repeat (first | (with_reducible first | exact HB.out | apply below_alloc | apply pw_below_drewN | apply below_drew1 | refine below_set ?_ GE460.out) | exact HB.out)) hb); clear HO468; clear BK460; clear HB; have HO468 := n0_; have BK460 := n1_; have HB := n2_; clear n0_ n1_ n2_; (try clear hb); (try clear hb2); (try clear hk); (try clear hi)))
                  go_ret
                  exact ⟨by first | rfl | (simp [errW_none, errW_some] <;> rfl) | (simp [*, errW_none, errW_some] <;> rfl), by repeat (first | (with_reducible first | exact HB.out | apply below_alloc | apply pw_below_drewN | apply below_drew1 | refine below_set ?_ GE460.out) | exact HB.out)⟩
                · rw [if_neg c51] at H
                  have c51b0 : (t469.toList == a0.toList) = false := beq_eq_false_iff_ne.mpr c51
                  have c51b1 : (t469.toList != a0.toList) = true := bne_iff_ne.mpr c51
                  by_cases c60 : a1 = true
                  · subst c60
                    have H1 : (some false) = some true := by rw [if_pos rfl] at H; exact H
                    clear H
                    have H := H1
                    clear H1
                    exact absurd H (by simp)
                  · replace c60 := Bool.eq_false_iff.mpr c60
                    subst c60
                    have H1 : (if t469.toList = ([] : List UInt8) then ((weirkeeperlaw09_awake.f kj3).bind fun t475 => (some t475)) else (some false)) = some true := by rw [if_neg (show ¬ (false = true) by decide)] at H; exact H
                    clear H
                    have H := H1
                    clear H1
                    by_cases c61 : t469.toList = ([] : List UInt8)
                    · rw [if_pos c61] at H
                      have c61b0 : (t469.toList == ([] : List UInt8)) = true := beq_iff_eq.mpr c61
                      have c61b1 : (t469.toList != ([] : List UInt8)) = false := bne_eq_false_iff_eq.mpr c61
                      clear c61
                      replace H := Option.bind_eq_some_iff.mp H
                      obtain ⟨t475, A620, H⟩ := H
                      replace H : (some t475) = some true := H
                      have A62 := Aside0.mk A620
                      clear A620
                      (have H9_ := Option.some.inj H; first | subst H9_ | clear H9_)
                      have hcz63_0 : wc.cell? ⟨gb460, 0, none⟩ = some (.int .i64 a2_0) := (blk_cell BK460.out 0).trans rfl
                      have hcz63_1 : wc.cell? ⟨gb460, 1, none⟩ = some (.string a2_1) := (blk_cell BK460.out 1).trans rfl
                      have hcz63_2 : wc.cell? ⟨gb460, 2, none⟩ = some (.string a2_2) := (blk_cell BK460.out 2).trans rfl
                      have hcz63_3 : wc.cell? ⟨gb460, 3, none⟩ = some (.int .u64 a2_3) := (blk_cell BK460.out 3).trans rfl
                      have hfz63_0 := blk_frozen BK460.out 0
                      have hfz63_1 := blk_frozen BK460.out 1
                      have hfz63_2 := blk_frozen BK460.out 2
                      have hfz63_3 := blk_frozen BK460.out 3
                      go_wp2_with (first | ((with_reducible refine gate_dst (N := 23) rfl ?_); (try (refine gate_guard (by rfl) ?_; dsimp only)); refine Kd.R_lit k55 _ 55 ?hg (N := 23) ?hd (xs := ([(⟨a2_0, a2_1, a2_2, a2_3⟩ : S55)] : List (S55))) (inner := [.int .i64 a2_0, .string a2_1, .string a2_2, .int .u64 a2_3]) (ok := fun _ => True) (okp := fun _ => True) ?hr ?hp (fun _ hk => hk) trivial (Below.refl _ _) (Nat.le_refl _) (by simp) ?_; (case hd => rfl); (case hg => rfl); (case hr => first | (go_simp; done) | (go_simp; rfl)); (case hp => exact (Reps.c4 (show Kd.M k55 _ _ _ (⟨a2_0, a2_1, a2_2, a2_3⟩ : S55) [.int .i64 a2_0, .string a2_1, .string a2_2, .int .u64 a2_3] from (k55_mkM _ _ _ (⟨a2_0, a2_1, a2_2, a2_3⟩ : S55) )) (Reps.none _ _))); intro v467 w64 ho65 hb hg_ hnew_; clear hg_ hnew_; (first | rw [← Ny466.out] at ho65 | (simp only [Int.reduceToNat] at ho65; rw [← Ny466.out] at ho65)); have n0_ := Aside0.mk (Kd.R_lower (Kd.R_newB ho65 (g := gb460) (o := .cells #[.int .i64 a2_0, .string a2_1, .string a2_2, .int .u64 a2_3] 55 (0, 0)) (by (with_reducible repeat (first | refine blk_drewN ?_ _ | refine blk_drew ?_ | refine blk_alloc ?_ _)); exact BK460.out)) (below_size (by repeat (first | (with_reducible first | exact HB.out | apply below_alloc | apply pw_below_drewN | apply below_drew1 | refine below_set ?_ GE460.out) | exact HB.out)))); have n1_ := Aside0.mk (blk_below (g := gb460) (o := .cells #[.int .i64 a2_0, .string a2_1, .string a2_2, .int .u64 a2_3] 55 (0, 0)) (by (with_reducible repeat (first | refine blk_drewN ?_ _ | refine blk_drew ?_ | refine blk_alloc ?_ _)); exact BK460.out) hb); have n2_ := Aside0.mk (below_step (by repeat (first | (with_reducible first | exact HB.out | apply below_alloc | apply pw_below_drewN | apply below_drew1 | refine below_set ?_ GE460.out) | exact HB.out)) hb); clear BK460; clear HB; have HO468 := n0_; have BK460 := n1_; have HB := n2_; clear n0_ n1_ n2_; clear hb ho65; obtain ⟨Ao66, co66, eo66⟩ := Kd.R_slice HO468.out; subst eo66) | ((with_reducible refine gate_callee (f := 30) rfl ?_); refine goesL_ (some 24) rfl rfl Try.func30 (by kernel_rfl) rfl #[.string a0, .bool false, .slice Ao66 y466.length co66] rfl (by (try simp only [List.map_toArray, List.map_cons, List.map_nil]); first | done | rfl | (simp only [List.length_drop, List.length_take]; rfl)) ?_; (with_reducible refine (note_Done.calls kj3 a0 false _ _ y466 t469 t470 _ ?side1 ?side2 A16.out).mono ?_); (case side1 => repeat (first | exact (Kd.R_reads' HO468.out).2.2 | (with_reducible refine Kd.C_alloc ?_ _) | (with_reducible refine Kd.C_drewN ?_ _) | (with_reducible refine Kd.C_drew ?_))); (case side2 => exact (Kd.R_reads' HO468.out).2.1); rintro e w67 ⟨rfl, hb⟩; refine ⟨_, rfl, ?_⟩; have n0_ := Aside0.mk (Kd.R_below (by (with_reducible repeat (first | apply Kd.R_alloc | apply Kd.R_drewN | apply Kd.R_drew)); exact HO468.out) hb); have n1_ := Aside0.mk (blk_below (g := gb460) (o := .cells #[.int .i64 a2_0, .string a2_1, .string a2_2, .int .u64 a2_3] 55 (0, 0)) (by (with_reducible repeat (first | refine blk_drewN ?_ _ | refine blk_drew ?_ | refine blk_alloc ?_ _)); exact BK460.out) hb); have n2_ := Aside0.mk (below_step (by repeat (first | (with_reducible first | exact HB.out | apply below_alloc | apply pw_below_drewN | apply below_drew1 | refine below_set ?_ GE460.out) | exact HB.out)) hb); clear HO468; clear BK460; clear HB; have HO468 := n0_; have BK460 := n1_; have HB := n2_; clear n0_ n1_ n2_; (try clear hb); (try clear hb2); (try clear hk); (try clear hi); have hcz68_0 : w67.cell? ⟨gb460, 0, none⟩ = some (.int .i64 a2_0) := (blk_cell BK460.out 0).trans rfl; have hcz68_1 : w67.cell? ⟨gb460, 1, none⟩ = some (.string a2_1) := (blk_cell BK460.out 1).trans rfl; have hcz68_2 : w67.cell? ⟨gb460, 2, none⟩ = some (.string a2_2) := (blk_cell BK460.out 2).trans rfl; have hcz68_3 : w67.cell? ⟨gb460, 3, none⟩ = some (.int .u64 a2_3) := (blk_cell BK460.out 3).trans rfl; have hfz68_0 := blk_frozen BK460.out 0; have hfz68_1 := blk_frozen BK460.out 1; have hfz68_2 := blk_frozen BK460.out 2; have hfz68_3 := blk_frozen BK460.out 3) | (go_at_call 29; (with_reducible refine (weirkeeperlaw09_awake.calls kj3 _ A62.out).mono ?_); rintro e w69 ⟨rfl, hb⟩; have n0_ := Aside0.mk (Kd.R_below (by (with_reducible repeat (first | apply Kd.R_alloc | apply Kd.R_drewN | apply Kd.R_drew)); exact HO468.out) hb); have n1_ := Aside0.mk (blk_below (g := gb460) (o := .cells #[.int .i64 a2_0, .string a2_1, .string a2_2, .int .u64 a2_3] 55 (0, 0)) (by (with_reducible repeat (first | refine blk_drewN ?_ _ | refine blk_drew ?_ | refine blk_alloc ?_ _)); exact BK460.out) hb); have n2_ := Aside0.mk (below_step (by repeat (first | (with_reducible first | exact HB.out | apply below_alloc | apply pw_below_drewN | apply below_drew1 | refine below_set ?_ GE460.out) | exact HB.out)) hb); clear HO468; clear BK460; clear HB; have HO468 := n0_; have BK460 := n1_; have HB := n2_; clear n0_ n1_ n2_; (try clear hb); (try clear hb2); (try clear hk); (try clear hi)))
                      go_ret
                      exact ⟨by first | rfl | (simp [errW_none, errW_some] <;> rfl) | (simp [*, errW_none, errW_some] <;> rfl), by repeat (first | (with_reducible first | exact HB.out | apply below_alloc | apply pw_below_drewN | apply below_drew1 | refine below_set ?_ GE460.out) | exact HB.out)⟩
                    · rw [if_neg c61] at H
                      have c61b0 : (t469.toList == ([] : List UInt8)) = false := beq_eq_false_iff_ne.mpr c61
                      have c61b1 : (t469.toList != ([] : List UInt8)) = true := bne_iff_ne.mpr c61
                      exact absurd H (by simp)
              · rw [if_neg c50] at H
                have c50b0 : (t470 == a1) = false := by simpa using c50
                (try (have c50b1 : decide (t470 = a1) = false := by simpa using c50))
                (try (have c50b2 : (t470 == a1) = false := by simpa using c50))
                (try (have c50b3 : ¬ (t470 = a1) := by simpa using c50))
                clear c50
                exact absurd H (by simp)

end Go.Proofs.Ytgccimhdbphenaa.F
