/- Contracts of Go functions of the seat Ytpkapldkmleppaa: what a call comes to; no condition but those that each theorem names. -/
import Derived.Test.YtpkapldkmleppaaFPre
import Derived.Test.YtpkapldkmleppaaFdiskD
import Derived.Test.YtpkapldkmleppaaFjournalx2
import Derived.Test.YtpkapldkmleppaaFjournalx0
import Derived.Test.YtpkapldkmleppaaFlaw04Ref
import Derived.Test.YtpkapldkmleppaaFlaw08awake
import Derived.Test.YtpkapldkmleppaaFref04x0
namespace Go.Proofs.Ytpkapldkmleppaa.F
open Go.RowKit Go.Proofs.YtpkapldkmleppaaW.PrintWords Go.Proofs.YtpkapldkmleppaaW.PrintLast Go.Proofs.YtpkapldkmleppaaW.PrintMore
attribute [local go_sem] max2_int min2_int max_two min_two max_three min_three max_four min_four   -- for this text's walks alone
set_option linter.unusedVariables false
set_option linter.unusedSimpArgs false

attribute [local go_sem] fieldD25_0 fieldD25_1
/-! ### weirkeeperlaw08_JournalNeeds: function 12 -/
def weirkeeperlaw08_JournalNeeds.l0 : Nat → List ByteArray → Int → Int → Int → Int → List ByteArray → Int → Int → List ByteArray → List (S76) → Option (Bool)
  | 0, _, _, _, _, _, _, _, _, _, _ => none
  | k + 1, x2, x7, x8, x10, x11, x32, x33, x34, x682000, x682001 => if x34 < x33 then (if 0 ≤ x34 then (if x34 < (x32.length : Int) then (if ((rdOf ByteArray.empty x32 x34).size : Int) > 300 then ((weirkeeperlaw08_awake.f k).bind fun t683 => (some t683)) else ((journal_Need.f ((rdOf ByteArray.empty x32 x34).size : Int)).bind fun t684 => (weirkeeperlaw08_JournalNeeds.l0 k x2 x7 x8 x10 (wrap64 (x11 + t684)) x32 x33 (wrap64 (x34 + 1)) x682000 x682001))) else (none)) else (none)) else ((journal_Append.f k x682000 x682001 x7 x8 x2).bind fun bt685 => (if (wrap64 (x8 + x11)) > 128 then (if bt685.2.2.2 = 6 then (if bt685.2.2.1 = x8 then ((weirkeeperlaw04_Ref.f k bt685.1 bt685.2.1).bind fun bt694 => ((weirkeeperlaw04_Ref.f k x682000 x682001).bind fun bt700 => ((weirkeeperref04_Same.f k bt694.1 bt694.2 bt700.1 bt700.2).bind fun t706 => (if t706 = true then ((weirkeeperlaw08_awake.f k).bind fun t707 => (some t707)) else (some false))))) else (some false)) else (some false)) else (if x10 = 0 then (if bt685.2.2.2 = 0 then (if bt685.2.2.1 = (wrap64 (x8 + x11)) then (if (bt685.2.1.length : Int) = x11 then ((weirkeeperlaw08_awake.f k).bind fun t708 => (some t708)) else (some false)) else (some false)) else (some false)) else (some false))))
def weirkeeperlaw08_JournalNeeds.f (k : Nat) (a0 : Int) (a1 : Int) (l2 : List ByteArray) : Option (Bool) := if (l2.length : Int) > 20 then ((weirkeeperlaw08_awake.f k).bind fun t673 => (some t673)) else ((disk_New.f 130).bind fun bt674 => (weirkeeperlaw08_JournalNeeds.l0 k l2 (wrap64 (1 + (wrap64 (Int.tmod a0 2147483646)))) (Int.tmod (wrap64 (a1)) 129) bt674.2.2 0 l2 (l2.length : Int) 0 bt674.1 bt674.2.1))
theorem weirkeeperlaw08_JournalNeeds.mono_l : ∀ k, (∀ y0 y1 y2 y3 y4 y5 y6 y7 y8 y9, LeO (weirkeeperlaw08_JournalNeeds.l0 k y0 y1 y2 y3 y4 y5 y6 y7 y8 y9) (weirkeeperlaw08_JournalNeeds.l0 (k + 1) y0 y1 y2 y3 y4 y5 y6 y7 y8 y9))
  | 0 => fun _ _ _ _ _ _ _ _ _ _ r h => by simp [weirkeeperlaw08_JournalNeeds.l0] at h
  | k + 1 => by
    have ih0 := weirkeeperlaw08_JournalNeeds.mono_l k
    · intro y0 y1 y2 y3 y4 y5 y6 y7 y8 y9
      unfold weirkeeperlaw08_JournalNeeds.l0
      repeat' first
      | (with_reducible exact ih0 _ _ _ _ _ _ _ _ _ _)
      | (with_reducible exact journal_Append.mono _ _ _ _ _ _)
      | (with_reducible exact weirkeeperlaw04_Ref.mono _ _ _)
      | (with_reducible exact weirkeeperlaw08_awake.mono _)
      | (with_reducible exact weirkeeperref04_Same.mono _ _ _ _ _)
      | (with_reducible exact LeO.refl _)
      | (with_reducible exact LeO.none _)
      | (with_reducible refine LeO.ite ?_ ?_)
      | (with_reducible refine LeO.bind ?_ (fun _ => ?_))
      | exact ih0 _ _ _ _ _ _ _ _ _ _
      | exact journal_Append.mono _ _ _ _ _ _
      | exact weirkeeperlaw04_Ref.mono _ _ _
      | exact weirkeeperlaw08_awake.mono _
      | exact weirkeeperref04_Same.mono _ _ _ _ _
      | exact LeO.none _
      | refine LeO.ite ?_ ?_
      | refine LeO.bind ?_ (fun _ => ?_)
theorem weirkeeperlaw08_JournalNeeds.mono : ∀ a0 a1 a2 k, LeO (weirkeeperlaw08_JournalNeeds.f k a0 a1 a2) (weirkeeperlaw08_JournalNeeds.f (k + 1) a0 a1 a2) := by
  intro a0 a1 a2 k
  have ih0 := weirkeeperlaw08_JournalNeeds.mono_l k
  unfold weirkeeperlaw08_JournalNeeds.f
  repeat' first
      | (with_reducible exact ih0 _ _ _ _ _ _ _ _ _ _)
      | (with_reducible exact journal_Append.mono _ _ _ _ _ _)
      | (with_reducible exact weirkeeperlaw04_Ref.mono _ _ _)
      | (with_reducible exact weirkeeperlaw08_awake.mono _)
      | (with_reducible exact weirkeeperref04_Same.mono _ _ _ _ _)
      | (with_reducible exact LeO.refl _)
      | (with_reducible exact LeO.none _)
      | (with_reducible refine LeO.ite ?_ ?_)
      | (with_reducible refine LeO.bind ?_ (fun _ => ?_))
      | exact ih0 _ _ _ _ _ _ _ _ _ _
      | exact journal_Append.mono _ _ _ _ _ _
      | exact weirkeeperlaw04_Ref.mono _ _ _
      | exact weirkeeperlaw08_awake.mono _
      | exact weirkeeperref04_Same.mono _ _ _ _ _
      | exact LeO.none _
      | refine LeO.ite ?_ ?_
      | refine LeO.bind ?_ (fun _ => ?_)
def weirkeeperlaw08_JournalNeeds.T15 : Bool × List (List Nat × List Nat) := (true, [([], []), ([0], [0]), ([1], [1]), ([2], [2]), ([2], [2]), ([3, 4, 2], [2, 3, 4]), ([2, 5], [2, 5]), ([6, 2], [6]), ([7], [7]), ([8, 7, 7], [7, 8]), ([7], [7]), ([10, 9, 7], [7, 10]), ([9, 11, 11, 7], [7, 9, 11]), ([7, 12], [7, 12]), ([13, 12], [13]), ([14, 14], [14]), ([14, 15], [14, 15]), ([16, 15, 0, 1, 2, 3, 4, 5, 6, 7, 8, 9, 10, 11, 12, 13, 14, 15, 16], [16])])
def weirkeeperlaw08_JournalNeeds.B15 : List Nat := [0, 1, 3, 7, 7, 31, 63, 127, 255, 511, 255, 2047, 4095, 8191, 16383, 32767, 65535, 131071]
theorem weirkeeperlaw08_JournalNeeds.tab15 : rtab .any (opsOf Try.f12 15) = weirkeeperlaw08_JournalNeeds.T15 := by kernel_rfl
theorem weirkeeperlaw08_JournalNeeds.bits15 : waitsOk weirkeeperlaw08_JournalNeeds.T15.2 weirkeeperlaw08_JournalNeeds.B15 = true := by kernel_rfl
set_option maxHeartbeats 8000000 in
set_option maxRecDepth 100000 in
theorem weirkeeperlaw08_JournalNeeds.calls (k : Nat) (a0 : Int) (a1 : Int) (A2 : Option Addr) (c2 : Nat) (l2 : List ByteArray) (w : World) (hr2 : Kd.C Kd.string w A2 l2.length l2) (hc2 : l2.length ≤ c2) (h : weirkeeperlaw08_JournalNeeds.f k a0 a1 l2 = some true) :
    Calls Try.prog 12 #[.int .u32 a0, .int .u8 a1, .slice A2 l2.length c2] w fun e w' => e = .returned (.bool true) ∧ Below w.heap.size w w' := by
  have hu25 := Try.underlying25
  have HR2 := Aside0.mk hr2
  have HC2 := Aside0.mk hc2
  clear hr2 hc2
  have HB := Aside0.mk (Below.refl w.heap.size w)
  have H : (if (l2.length : Int) > 20 then ((weirkeeperlaw08_awake.f k).bind fun t673 => (some t673)) else ((disk_New.f 130).bind fun bt674 => (weirkeeperlaw08_JournalNeeds.l0 k l2 (wrap64 (1 + (wrap64 (Int.tmod a0 2147483646)))) (Int.tmod (wrap64 (a1)) 129) bt674.2.2 0 l2 (l2.length : Int) 0 bt674.1 bt674.2.1))) = some true := h
  clear h
  by_cases c4 : (l2.length : Int) > 20
  · rw [if_pos c4] at H
    have c4b0 : decide (20 < (l2.length : Int)) = true := decide_eq_true c4
    have c4b1 : decide (20 < l2.length) = true := decide_eq_true (by omega)
    clear c4
    replace H := Option.bind_eq_some_iff.mp H
    obtain ⟨t673, A50, H⟩ := H
    replace H : (some t673) = some true := H
    have A5 := Aside0.mk A50
    clear A50
    (have H9_ := Option.some.inj H; first | subst H9_ | (have h9_ := Aside0.mk H9_; clear H9_))
    go_enter Try.func12, Try.ntmps12
    go_wp2_with (first | ((with_reducible refine gate_callee (f := 27) rfl ?_); refine goesL_ (some 20) rfl rfl Try.func27 (by kernel_rfl) rfl #[] rfl (by (try simp only [List.map_toArray, List.map_cons, List.map_nil]); first | done | rfl | (simp only [List.length_drop, List.length_take]; rfl)) ?_; (with_reducible refine (weirkeeperlaw08_awake.calls k _ A5.out).mono ?_); rintro e w6 ⟨rfl, hb⟩; refine ⟨_, rfl, ?_⟩; have n0_ := Aside0.mk (below_step (by repeat (first | (with_reducible first | exact HB.out | apply below_alloc | apply pw_below_drewN | apply below_drew1) | exact HB.out)) hb); clear HB; have HB := n0_; clear n0_; (try clear hb); (try clear hb2); (try clear hk); (try clear hi)))
    go_ret
    exact ⟨by first | rfl | (simp only [h9_.out]; done) | (have h8_ := h9_.out; simp [h8_]; done) | (simp [errW_none, errW_some] <;> rfl) | (simp [*, errW_none, errW_some] <;> rfl), by repeat (first | (with_reducible first | exact HB.out | apply below_alloc | apply pw_below_drewN | apply below_drew1) | exact HB.out)⟩
  · rw [if_neg c4] at H
    have c4b0 : decide (20 < (l2.length : Int)) = false := decide_eq_false c4
    have c4b1 : decide (20 < l2.length) = false := decide_eq_false (by omega)
    clear c4
    replace H := Option.bind_eq_some_iff.mp H
    obtain ⟨⟨t674, t677, t680⟩, A70, H⟩ := H
    replace H : (weirkeeperlaw08_JournalNeeds.l0 k l2 (wrap64 (1 + (wrap64 (Int.tmod a0 2147483646)))) (Int.tmod (wrap64 (a1)) 129) t680 0 l2 (l2.length : Int) 0 t674 t677) = some true := H
    have A7 := Aside0.mk A70
    clear A70
    have H' := Aside0.mk H
    clear H
    go_enter Try.func12, Try.ntmps12
    go_wp2_with (first | ((with_reducible refine gate_callee (f := 24) rfl ?_); refine goesL_ (some 29) rfl rfl Try.func24 (by kernel_rfl) rfl #[.int .i64 130] rfl (by (try simp only [List.map_toArray, List.map_cons, List.map_nil]); first | done | rfl | (simp only [List.length_drop, List.length_take]; rfl)) ?_; (with_reducible refine (disk_New.calls 130 t674 t677 t680 _ A7.out).mono ?_); rintro e w8 ⟨v675, v678, rfl, ho0, ho1, hb⟩; refine ⟨_, rfl, ?_⟩; have n0_ := Aside0.mk (Kd.R_lower ho0 (below_size (by repeat (first | (with_reducible first | exact HB.out | apply below_alloc | apply pw_below_drewN | apply below_drew1) | exact HB.out)))); have n1_ := Aside0.mk (Kd.R_lower ho1 (below_size (by repeat (first | (with_reducible first | exact HB.out | apply below_alloc | apply pw_below_drewN | apply below_drew1) | exact HB.out)))); have n2_ := Aside0.mk (below_step (by repeat (first | (with_reducible first | exact HB.out | apply below_alloc | apply pw_below_drewN | apply below_drew1) | exact HB.out)) hb); clear HB; have HO676 := n0_; have HO679 := n1_; have HB := n2_; clear n0_ n1_ n2_; (try clear hb); (try clear hb2); (try clear hk); (try clear hi); (try clear ho0); (try clear ho1)) | ((with_reducible refine gate_dst (N := 9) rfl ?_); (try (refine gate_guard (by rfl) ?_; dsimp only)); refine box_event ?hg (N := 9) ?hd (cs := #[.slice none 0 0, .slice none 0 0]) (t := 25) ?hr ?_; (case hd => rfl); (case hg => rfl); (case hr => first | (go_simp; done) | (go_simp; rfl)); intro gb681 hg w9 hbox hb; have n0_ := Aside0.mk (Kd.R_below (by (with_reducible repeat (first | apply Kd.R_alloc | apply Kd.R_drewN | apply Kd.R_drew)); exact HO676.out) hb); have n1_ := Aside0.mk (Kd.R_below (by (with_reducible repeat (first | apply Kd.R_alloc | apply Kd.R_drewN | apply Kd.R_drew)); exact HO679.out) hb); have n2_ := Aside0.mk (below_step (by repeat (first | (with_reducible first | exact HB.out | apply below_alloc | apply pw_below_drewN | apply below_drew1) | exact HB.out)) hb); have n3_ := Aside0.mk (hbox); have n4_ := Aside0.mk ((by rw [hg]; exact (below_size (by repeat (first | (with_reducible first | exact HB.out | apply below_alloc | apply pw_below_drewN | apply below_drew1) | exact HB.out))) : w.heap.size ≤ gb681)); have n5_ := Aside0.mk ((by rw [hg]; exact (below_size (by repeat (first | (with_reducible first | exact HB.out | apply below_alloc | apply pw_below_drewN | apply below_drew1) | exact HB.out))) : w.heap.size ≤ gb681)); clear HO676; clear HO679; clear HB; have HO676 := n0_; have HO679 := n1_; have HB := n2_; have BK681 := n3_; have GW681 := n4_; have GE681 := n5_; clear n0_ n1_ n2_ n3_ n4_ n5_; clear hb hbox hg; obtain ⟨Ao10, co10, eo10⟩ := Kd.R_slice HO676.out; subst eo10; have hcz11_0 : w9.cell? ⟨gb681, 0, none⟩ = some (.slice none 0 0) := (blk_cell BK681.out 0).trans rfl; have hcz11_1 : w9.cell? ⟨gb681, 1, none⟩ = some (.slice none 0 0) := (blk_cell BK681.out 1).trans rfl; have hfz11_0 := blk_frozen BK681.out 0; have hfz11_1 := blk_frozen BK681.out 1; obtain ⟨Ao12, co12, eo12⟩ := Kd.R_slice HO679.out; subst eo12))
    go_loopg [11, 34] k (fun kq v11 v34 w' => ∃ (x11_1 : Int) (x34_1 : Int), v11 = .int .i64 x11_1 ∧ v34 = .int .i64 x34_1 ∧ Aside0 (weirkeeperlaw08_JournalNeeds.l0 kq l2 (wrap64 (1 + (wrap64 (Int.tmod a0 2147483646)))) (Int.tmod (wrap64 (a1)) 129) t680 x11_1 l2 (l2.length : Int) x34_1 t674 t677 = some true) ∧ Aside0 (kq ≤ k) ∧ Aside0 (Kd.R Kd.string 9 w' w.heap.size (fun _ => True) (.slice Ao10 t674.length co10) t674) ∧ Aside0 (Kd.R k76 76 w' w.heap.size (fun _ => True) (.slice Ao12 t677.length co12) t677) ∧ Aside0 (w'.heap[gb681]? = some (.cells #[(.slice Ao10 t674.length co10), (.slice Ao12 t677.length co12)] 25 (0, 0))) ∧ Aside0 (Below w.heap.size w w'))
    case atStart => exact ⟨(0), (0), (by first | rfl | (simp; done) | (simp [*]; done)), (by first | rfl | (simp; done) | (simp [*]; done)), H', ⟨Nat.le_refl _⟩, ⟨by (with_reducible repeat (first | apply Kd.R_alloc | apply Kd.R_drewN | apply Kd.R_drew)); exact Kd.R_mono (Kd.R_far (p := ⟨gb681, 1, none⟩) (Kd.R_far (p := ⟨gb681, 0, none⟩) (Kd.R_types HO676.out BK681.out (by decide)) (fun _ hk => hk.2) (.slice Ao10 t674.length co10)) (fun _ hk => hk.2) (.slice Ao12 t677.length co12)) (fun _ hk => trivial)⟩, ⟨by (with_reducible repeat (first | apply Kd.R_alloc | apply Kd.R_drewN | apply Kd.R_drew)); exact Kd.R_mono (Kd.R_far (p := ⟨gb681, 1, none⟩) (Kd.R_far (p := ⟨gb681, 0, none⟩) (Kd.R_types HO679.out BK681.out (by decide)) (fun _ hk => hk.2) (.slice Ao10 t674.length co10)) (fun _ hk => hk.2) (.slice Ao12 t677.length co12)) (fun _ hk => trivial)⟩, ⟨by (with_reducible repeat (first | refine blk_drewN ?_ _ | refine blk_drew ?_ | refine blk_alloc ?_ _)); refine blk_put (cs := #[.slice Ao10 t674.length co10, .slice none 0 0]) ?_ 1 _ rfl; (with_reducible repeat (first | refine blk_drewN ?_ _ | refine blk_drew ?_ | refine blk_alloc ?_ _)); refine blk_put (cs := #[.slice none 0 0, .slice none 0 0]) ?_ 0 _ rfl; (with_reducible repeat (first | refine blk_drewN ?_ _ | refine blk_drew ?_ | refine blk_alloc ?_ _)); exact BK681.out⟩, ⟨by repeat (first | (with_reducible first | exact HB.out | apply below_alloc | apply pw_below_drewN | apply below_drew1 | refine below_set ?_ GE681.out) | exact HB.out)⟩⟩
    case round =>
      clear H'
      try clear c1
      try clear c2
      try clear p2
      try clear c4
      try clear c4b0
      try clear c4b1
      try clear p6
      try clear c12
      try clear hcz11_0
      try clear hcz11_1
      try clear hfz11_0
      try clear hfz11_1
      obtain ⟨x11_1, x34_1, rfl, rfl, HA, HK1, HO_682000, HO_682001, BK681, HB⟩ := hrel
      cases gk with
      | zero => exact absurd HA.out (by simp [weirkeeperlaw08_JournalNeeds.l0])
      | succ k1 =>
        have H := HA.out
        clear HA
        simp only [weirkeeperlaw08_JournalNeeds.l0] at H
        by_cases c13 : x34_1 < (l2.length : Int)
        · rw [if_pos c13] at H
          have c13b0 : decide (x34_1 < (l2.length : Int)) = true := decide_eq_true c13
          clear c13
          by_cases c14 : 0 ≤ x34_1
          · rw [if_pos c14] at H
            have c14b0 : decide (0 ≤ x34_1) = true := decide_eq_true c14
            clear c14
            by_cases c15 : x34_1 < (l2.length : Int)
            · rw [if_pos c15] at H
              have c15b0 : decide (x34_1 < (l2.length : Int)) = true := decide_eq_true c15
              clear c15
              by_cases c16 : ((rdOf ByteArray.empty l2 x34_1).size : Int) > 300
              · rw [if_pos c16] at H
                have c16b0 : decide (300 < ((rdOf ByteArray.empty l2 x34_1).size : Int)) = true := decide_eq_true c16
                have c16b1 : decide (300 < (rdOf ByteArray.empty l2 x34_1).size) = true := decide_eq_true (by omega)
                clear c16
                replace H := Option.bind_eq_some_iff.mp H
                obtain ⟨t683, A170, H⟩ := H
                replace H : (some t683) = some true := H
                have A17 := Aside0.mk A170
                clear A170
                (have H9_ := Option.some.inj H; first | subst H9_ | (have h9_ := Aside0.mk H9_; clear H9_))
                have p682 : 0 ≤ (x34_1 : Int) := of_decide_eq_true (by first | (with_reducible assumption) | assumption)
                have q682 : x34_1 < (l2.length : Int) := of_decide_eq_true (by first | (with_reducible assumption) | assumption)
                obtain ⟨ad682, e682, hx682_0⟩ := Kd.at_string HR2.out x34_1 p682 q682
                cases e682
                replace hx682_0 := (HB.out.cell (World.block_lt_of_cell? w _ hx682_0)).trans hx682_0
                replace p682 := eq_true p682
                replace q682 := eq_true q682
                go_wp2_with (first | ((with_reducible refine gate_callee (f := 27) rfl ?_); refine goesL_ (some 41) rfl rfl Try.func27 (by kernel_rfl) rfl #[] rfl (by (try simp only [List.map_toArray, List.map_cons, List.map_nil]); first | done | rfl | (simp only [List.length_drop, List.length_take]; rfl)) ?_; (with_reducible refine (weirkeeperlaw08_awake.calls k1 _ A17.out).mono ?_); rintro e w18 ⟨rfl, hb⟩; refine ⟨_, rfl, ?_⟩; have n0_ := Aside0.mk (Kd.R_below (by (with_reducible repeat (first | apply Kd.R_alloc | apply Kd.R_drewN | apply Kd.R_drew)); exact HO_682000.out) hb); have n1_ := Aside0.mk (Kd.R_below (by (with_reducible repeat (first | apply Kd.R_alloc | apply Kd.R_drewN | apply Kd.R_drew)); exact HO_682001.out) hb); have n2_ := Aside0.mk (blk_below (g := gb681) (o := .cells #[.slice Ao10 t674.length co10, .slice Ao12 t677.length co12] 25 (0, 0)) (by (with_reducible repeat (first | refine blk_drewN ?_ _ | refine blk_drew ?_ | refine blk_alloc ?_ _)); exact BK681.out) hb); have n3_ := Aside0.mk (below_step (by repeat (first | (with_reducible first | exact HB.out | apply below_alloc | apply pw_below_drewN | apply below_drew1 | refine below_set ?_ GE681.out) | exact HB.out)) hb); clear HO_682000; clear HO_682001; clear BK681; clear HB; have HO_682000 := n0_; have HO_682001 := n1_; have BK681 := n2_; have HB := n3_; clear n0_ n1_ n2_ n3_; (try clear hb); (try clear hb2); (try clear hk); (try clear hi)))
                go_ret
                exact ⟨by first | rfl | (simp only [h9_.out]; done) | (have h8_ := h9_.out; simp [h8_]; done) | (simp [errW_none, errW_some] <;> rfl) | (simp [*, errW_none, errW_some] <;> rfl), by repeat (first | (with_reducible first | exact HB.out | apply below_alloc | apply pw_below_drewN | apply below_drew1 | refine below_set ?_ GE681.out) | exact HB.out)⟩
              · rw [if_neg c16] at H
                have c16b0 : decide (300 < ((rdOf ByteArray.empty l2 x34_1).size : Int)) = false := decide_eq_false c16
                have c16b1 : decide (300 < (rdOf ByteArray.empty l2 x34_1).size) = false := decide_eq_false (by omega)
                clear c16
                replace H := Option.bind_eq_some_iff.mp H
                obtain ⟨t684, A190, H⟩ := H
                replace H : (weirkeeperlaw08_JournalNeeds.l0 k1 l2 (wrap64 (1 + (wrap64 (Int.tmod a0 2147483646)))) (Int.tmod (wrap64 (a1)) 129) t680 (wrap64 (x11_1 + t684)) l2 (l2.length : Int) (wrap64 (x34_1 + 1)) t674 t677) = some true := H
                have A19 := Aside0.mk A190
                clear A190
                have H' := Aside0.mk H
                clear H
                have p682 : 0 ≤ (x34_1 : Int) := of_decide_eq_true (by first | (with_reducible assumption) | assumption)
                have q682 : x34_1 < (l2.length : Int) := of_decide_eq_true (by first | (with_reducible assumption) | assumption)
                obtain ⟨ad682, e682, hx682_0⟩ := Kd.at_string HR2.out x34_1 p682 q682
                cases e682
                replace hx682_0 := (HB.out.cell (World.block_lt_of_cell? w _ hx682_0)).trans hx682_0
                replace p682 := eq_true p682
                replace q682 := eq_true q682
                go_wp2_with (first | ((with_reducible refine gate_callee (f := 33) rfl ?_); refine goesL_ (some 45) rfl rfl Try.func33 (by kernel_rfl) rfl #[.int .i64 ((rdOf ByteArray.empty l2 x34_1).size : Int)] rfl (by (try simp only [List.map_toArray, List.map_cons, List.map_nil]); first | done | rfl | (simp only [List.length_drop, List.length_take]; rfl)) ?_; (with_reducible refine (journal_Need.calls ((rdOf ByteArray.empty l2 x34_1).size : Int) t684 _ A19.out).mono ?_); rintro e w20 ⟨rfl, hb⟩; refine ⟨_, rfl, ?_⟩; have n0_ := Aside0.mk (Kd.R_below (by (with_reducible repeat (first | apply Kd.R_alloc | apply Kd.R_drewN | apply Kd.R_drew)); exact HO_682000.out) hb); have n1_ := Aside0.mk (Kd.R_below (by (with_reducible repeat (first | apply Kd.R_alloc | apply Kd.R_drewN | apply Kd.R_drew)); exact HO_682001.out) hb); have n2_ := Aside0.mk (blk_below (g := gb681) (o := .cells #[.slice Ao10 t674.length co10, .slice Ao12 t677.length co12] 25 (0, 0)) (by (with_reducible repeat (first | refine blk_drewN ?_ _ | refine blk_drew ?_ | refine blk_alloc ?_ _)); exact BK681.out) hb); have n3_ := Aside0.mk (below_step (by repeat (first | (with_reducible first | exact HB.out | apply below_alloc | apply pw_below_drewN | apply below_drew1 | refine below_set ?_ GE681.out) | exact HB.out)) hb); clear HO_682000; clear HO_682001; clear BK681; clear HB; have HO_682000 := n0_; have HO_682001 := n1_; have BK681 := n2_; have HB := n3_; clear n0_ n1_ n2_ n3_; (try clear hb); (try clear hb2); (try clear hk); (try clear hi)))
                go_roundg k1
                case measure => have := HK1.out; omega
                case rel => exact ⟨(wrap64 (x11_1 + t684)), (wrap64 (x34_1 + 1)), (by first | rfl | (simp; done) | (simp [*]; done)), (by first | rfl | (simp; done) | (simp [*]; done)), H', ⟨by have := HK1.out; omega⟩, ⟨by (with_reducible repeat (first | apply Kd.R_alloc | apply Kd.R_drewN | apply Kd.R_drew)); exact HO_682000.out⟩, ⟨by (with_reducible repeat (first | apply Kd.R_alloc | apply Kd.R_drewN | apply Kd.R_drew)); exact HO_682001.out⟩, ⟨by (with_reducible repeat (first | refine blk_drewN ?_ _ | refine blk_drew ?_ | refine blk_alloc ?_ _)); exact BK681.out⟩, ⟨by repeat (first | (with_reducible first | exact HB.out | apply below_alloc | apply pw_below_drewN | apply below_drew1 | refine below_set ?_ GE681.out) | exact HB.out)⟩⟩
            · rw [if_neg c15] at H
              exact absurd H (by simp)
          · rw [if_neg c14] at H
            exact absurd H (by simp)
        · rw [if_neg c13] at H
          have c13b0 : decide (x34_1 < (l2.length : Int)) = false := decide_eq_false c13
          clear c13
          replace H := Option.bind_eq_some_iff.mp H
          obtain ⟨⟨t685, t688, t691, t692⟩, A210, H⟩ := H
          replace H : (if (wrap64 ((Int.tmod (wrap64 (a1)) 129) + x11_1)) > 128 then (if t692 = 6 then (if t691 = (Int.tmod (wrap64 (a1)) 129) then ((weirkeeperlaw04_Ref.f k1 t685 t688).bind fun bt694 => ((weirkeeperlaw04_Ref.f k1 t674 t677).bind fun bt700 => ((weirkeeperref04_Same.f k1 bt694.1 bt694.2 bt700.1 bt700.2).bind fun t706 => (if t706 = true then ((weirkeeperlaw08_awake.f k1).bind fun t707 => (some t707)) else (some false))))) else (some false)) else (some false)) else (if t680 = 0 then (if t692 = 0 then (if t691 = (wrap64 ((Int.tmod (wrap64 (a1)) 129) + x11_1)) then (if (t688.length : Int) = x11_1 then ((weirkeeperlaw08_awake.f k1).bind fun t708 => (some t708)) else (some false)) else (some false)) else (some false)) else (some false))) = some true := H
          have A21 := Aside0.mk A210
          clear A210
          by_cases c22 : (wrap64 ((Int.tmod (wrap64 (a1)) 129) + x11_1)) > 128
          · rw [if_pos c22] at H
            have c22b0 : decide (128 < (wrap64 ((Int.tmod (wrap64 (a1)) 129) + x11_1))) = true := decide_eq_true c22
            clear c22
            by_cases c23 : t692 = 6
            · rw [if_pos c23] at H
              have c23b0 : (t692 == 6) = true := beq_iff_eq.mpr c23
              have c23b1 : (t692 != 6) = false := bne_eq_false_iff_eq.mpr c23
              clear c23
              by_cases c24 : t691 = (Int.tmod (wrap64 (a1)) 129)
              · rw [if_pos c24] at H
                have c24b0 : (t691 == (Int.tmod (wrap64 (a1)) 129)) = true := beq_iff_eq.mpr c24
                have c24b1 : (t691 != (Int.tmod (wrap64 (a1)) 129)) = false := bne_eq_false_iff_eq.mpr c24
                clear c24
                replace H := Option.bind_eq_some_iff.mp H
                obtain ⟨⟨t694, t697⟩, A250, H⟩ := H
                replace H : ((weirkeeperlaw04_Ref.f k1 t674 t677).bind fun bt700 => ((weirkeeperref04_Same.f k1 t694 t697 bt700.1 bt700.2).bind fun t706 => (if t706 = true then ((weirkeeperlaw08_awake.f k1).bind fun t707 => (some t707)) else (some false)))) = some true := H
                have A25 := Aside0.mk A250
                clear A250
                replace H := Option.bind_eq_some_iff.mp H
                obtain ⟨⟨t700, t703⟩, A260, H⟩ := H
                replace H : ((weirkeeperref04_Same.f k1 t694 t697 t700 t703).bind fun t706 => (if t706 = true then ((weirkeeperlaw08_awake.f k1).bind fun t707 => (some t707)) else (some false))) = some true := H
                have A26 := Aside0.mk A260
                clear A260
                replace H := Option.bind_eq_some_iff.mp H
                obtain ⟨t706, A270, H⟩ := H
                replace H : (if t706 = true then ((weirkeeperlaw08_awake.f k1).bind fun t707 => (some t707)) else (some false)) = some true := H
                have A27 := Aside0.mk A270
                clear A270
                by_cases c28 : t706 = true
                · subst c28
                  have H1 : ((weirkeeperlaw08_awake.f k1).bind fun t707 => (some t707)) = some true := by rw [if_pos rfl] at H; exact H
                  clear H
                  have H := H1
                  clear H1
                  replace H := Option.bind_eq_some_iff.mp H
                  obtain ⟨t707, A290, H⟩ := H
                  replace H : (some t707) = some true := H
                  have A29 := Aside0.mk A290
                  clear A290
                  (have H9_ := Option.some.inj H; first | subst H9_ | (have h9_ := Aside0.mk H9_; clear H9_))
                  have hcz30_0 : wr.cell? ⟨gb681, 0, none⟩ = some (.slice Ao10 t674.length co10) := (blk_cell BK681.out 0).trans rfl
                  have hcz30_1 : wr.cell? ⟨gb681, 1, none⟩ = some (.slice Ao12 t677.length co12) := (blk_cell BK681.out 1).trans rfl
                  have hfz30_0 := blk_frozen BK681.out 0
                  have hfz30_1 := blk_frozen BK681.out 1
                  try go_wp2_with (first | ((with_reducible refine gate_callee (f := 37) rfl ?_); refine goesL_ (some 53) rfl rfl Try.func37 (by kernel_rfl) rfl #[.agg #[.slice Ao10 t674.length co10, .slice Ao12 t677.length co12], .int .i64 (wrap64 (1 + (wrap64 (Int.tmod a0 2147483646)))), .int .i64 (Int.tmod (wrap64 (a1)) 129), .slice A2 l2.length c2] rfl (by (try simp only [List.map_toArray, List.map_cons, List.map_nil]); first | done | rfl | (simp only [List.length_drop, List.length_take]; rfl)) ?_; (with_reducible refine (journal_Append.calls k1 (fun k_ => some k_ = (.slice Ao10 t674.length co10 : Value).ownBlock) _ _ t674 (fun k_ => some k_ = (.slice Ao12 t677.length co12 : Value).ownBlock) _ _ t677 (wrap64 (1 + (wrap64 (Int.tmod a0 2147483646)))) (Int.tmod (wrap64 (a1)) 129) _ _ l2 t685 t688 t691 t692 _ ?side1 ?side2 ?side3 ?side4 A21.out).mono ?_); (case side1 => exact Kd.R_V (Kd.R_tight rfl (Kd.R_types (Kd.R_apart' (HO_682000.out) (Kd.R_typed HO_682001.out) (by decide)) BK681.out (by decide)))); (case side2 => exact Kd.R_V (Kd.R_tight rfl (Kd.R_types (Kd.R_apart' (HO_682001.out) (Kd.R_typed HO_682000.out) (by decide)) BK681.out (by decide)))); (case side3 => repeat (first | exact (Kd.C_below HR2.out HB.out) | (with_reducible refine Kd.C_alloc ?_ _) | (with_reducible refine Kd.C_drewN ?_ _) | (with_reducible refine Kd.C_drew ?_))); (case side4 => exact HC2.out); rintro e w31 ⟨v686, v689, rfl, ho0, ho1, hb⟩; refine ⟨_, rfl, ?_⟩; have n0_ := Aside0.mk (Kd.R_below (by (with_reducible repeat (first | apply Kd.R_alloc | apply Kd.R_drewN | apply Kd.R_drew)); exact HO_682000.out) hb); have n1_ := Aside0.mk (Kd.R_below (by (with_reducible repeat (first | apply Kd.R_alloc | apply Kd.R_drewN | apply Kd.R_drew)); exact HO_682001.out) hb); have n2_ := Aside0.mk (Kd.V_lower (Kd.V_mono (ok' := fun k_ => k_ ≠ gb681) ho0 (fun k_ hk_ => Or.elim hk_ (fun hs_ => Or.elim hs_ (fun hs_ => ((Kd.R_types (Kd.R_apart' (HO_682000.out) (Kd.R_typed HO_682001.out) (by decide)) BK681.out (by decide)).1 k_ hs_.symm).2) (fun hs_ => ((Kd.R_types (Kd.R_apart' (HO_682001.out) (Kd.R_typed HO_682000.out) (by decide)) BK681.out (by decide)).1 k_ hs_.symm).2)) (fun hn_ => (Kd.freshB (g := gb681) (o := .cells #[.slice Ao10 t674.length co10, .slice Ao12 t677.length co12] 25 (0, 0)) (by (with_reducible repeat (first | refine blk_drewN ?_ _ | refine blk_drew ?_ | refine blk_alloc ?_ _)); exact BK681.out) k_ hn_)))) (below_size (by repeat (first | (with_reducible first | exact HB.out | apply below_alloc | apply pw_below_drewN | apply below_drew1 | refine below_set ?_ GE681.out) | exact HB.out)))); have n3_ := Aside0.mk (Kd.V_lower (Kd.V_mono (ok' := fun k_ => k_ ≠ gb681) ho1 (fun k_ hk_ => Or.elim hk_ (fun hs_ => Or.elim hs_ (fun hs_ => ((Kd.R_types (Kd.R_apart' (HO_682000.out) (Kd.R_typed HO_682001.out) (by decide)) BK681.out (by decide)).1 k_ hs_.symm).2) (fun hs_ => ((Kd.R_types (Kd.R_apart' (HO_682001.out) (Kd.R_typed HO_682000.out) (by decide)) BK681.out (by decide)).1 k_ hs_.symm).2)) (fun hn_ => (Kd.freshB (g := gb681) (o := .cells #[.slice Ao10 t674.length co10, .slice Ao12 t677.length co12] 25 (0, 0)) (by (with_reducible repeat (first | refine blk_drewN ?_ _ | refine blk_drew ?_ | refine blk_alloc ?_ _)); exact BK681.out) k_ hn_)))) (below_size (by repeat (first | (with_reducible first | exact HB.out | apply below_alloc | apply pw_below_drewN | apply below_drew1 | refine below_set ?_ GE681.out) | exact HB.out)))); have n4_ := Aside0.mk (blk_below (g := gb681) (o := .cells #[.slice Ao10 t674.length co10, .slice Ao12 t677.length co12] 25 (0, 0)) (by (with_reducible repeat (first | refine blk_drewN ?_ _ | refine blk_drew ?_ | refine blk_alloc ?_ _)); exact BK681.out) hb); have n5_ := Aside0.mk (below_step (by repeat (first | (with_reducible first | exact HB.out | apply below_alloc | apply pw_below_drewN | apply below_drew1 | refine below_set ?_ GE681.out) | exact HB.out)) hb); clear HO_682000; clear HO_682001; clear BK681; clear HB; have HO_682000 := n0_; have HO_682001 := n1_; have HO687 := n2_; have HO690 := n3_; have BK681 := n4_; have HB := n5_; clear n0_ n1_ n2_ n3_ n4_ n5_; (try clear hb); (try clear hb2); (try clear hk); (try clear hi); (try clear ho0); (try clear ho1)) | ((with_reducible refine gate_dst (N := 14) rfl ?_); (try (refine gate_guard (by rfl) ?_; dsimp only)); refine box_event ?hg (N := 14) ?hd (cs := #[.slice none 0 0, .slice none 0 0]) (t := 25) ?hr ?_; (case hd => rfl); (case hg => rfl); (case hr => first | (go_simp; done) | (go_simp; rfl)); intro gb693 hg w32 hbox hb; have n0_ := Aside0.mk (Kd.R_below (by (with_reducible repeat (first | apply Kd.R_alloc | apply Kd.R_drewN | apply Kd.R_drew)); exact HO_682000.out) hb); have n1_ := Aside0.mk (Kd.R_below (by (with_reducible repeat (first | apply Kd.R_alloc | apply Kd.R_drewN | apply Kd.R_drew)); exact HO_682001.out) hb); have n2_ := Aside0.mk (Kd.V_below (Kd.V_elderB (by (with_reducible repeat (first | apply Kd.V_alloc | apply Kd.V_drewN | apply Kd.V_drew)); exact HO687.out) gb693 (Nat.le_of_eq hg.symm)) hb); have n3_ := Aside0.mk (Kd.V_below (Kd.V_elderB (by (with_reducible repeat (first | apply Kd.V_alloc | apply Kd.V_drewN | apply Kd.V_drew)); exact HO690.out) gb693 (Nat.le_of_eq hg.symm)) hb); have n4_ := Aside0.mk (blk_below (g := gb681) (o := .cells #[.slice Ao10 t674.length co10, .slice Ao12 t677.length co12] 25 (0, 0)) (by (with_reducible repeat (first | refine blk_drewN ?_ _ | refine blk_drew ?_ | refine blk_alloc ?_ _)); exact BK681.out) hb); have n5_ := Aside0.mk (below_step (by repeat (first | (with_reducible first | exact HB.out | apply below_alloc | apply pw_below_drewN | apply below_drew1 | refine below_set ?_ GE681.out) | exact HB.out)) hb); have n6_ := Aside0.mk (hbox); have n7_ := Aside0.mk ((by rw [hg]; exact (below_size (by repeat (first | (with_reducible first | exact HB.out | apply below_alloc | apply pw_below_drewN | apply below_drew1 | refine below_set ?_ GE681.out) | exact HB.out))) : w.heap.size ≤ gb693)); have n8_ := Aside0.mk ((by rw [hg]; exact (below_size (by repeat (first | (with_reducible first | exact HB.out | apply below_alloc | apply pw_below_drewN | apply below_drew1 | refine below_set ?_ GE681.out) | exact HB.out))) : w.heap.size ≤ gb693)); have n9_ := Aside0.mk ((by rw [hg]; exact Nat.ne_of_lt (blk_lt (g := gb681) (o := .cells #[.slice Ao10 t674.length co10, .slice Ao12 t677.length co12] 25 (0, 0)) (by (with_reducible repeat (first | refine blk_drewN ?_ _ | refine blk_drew ?_ | refine blk_alloc ?_ _)); exact BK681.out)) : gb681 ≠ gb693)); have n10_ := Aside0.mk ((by rw [hg]; exact Nat.ne_of_gt (blk_lt (g := gb681) (o := .cells #[.slice Ao10 t674.length co10, .slice Ao12 t677.length co12] 25 (0, 0)) (by (with_reducible repeat (first | refine blk_drewN ?_ _ | refine blk_drew ?_ | refine blk_alloc ?_ _)); exact BK681.out)) : gb693 ≠ gb681)); clear HO_682000; clear HO_682001; clear HO687; clear HO690; clear BK681; clear HB; have HO_682000 := n0_; have HO_682001 := n1_; have HO687 := n2_; have HO690 := n3_; have BK681 := n4_; have HB := n5_; have BK693 := n6_; have GW693 := n7_; have GE693 := n8_; have NB681_693 := n9_; have NB693_681 := n10_; clear n0_ n1_ n2_ n3_ n4_ n5_ n6_ n7_ n8_ n9_ n10_; clear hb hbox hg; obtain ⟨Ao33, co33, eo33⟩ := Kd.V_slice HO687.out; subst eo33; have hnb34 := NB693_681.out; have hnc34 := NB681_693.out; have hcz35_0 : w32.cell? ⟨gb693, 0, none⟩ = some (.slice none 0 0) := (blk_cell BK693.out 0).trans rfl; have hcz35_1 : w32.cell? ⟨gb693, 1, none⟩ = some (.slice none 0 0) := (blk_cell BK693.out 1).trans rfl; have hfz35_0 := blk_frozen BK693.out 0; have hfz35_1 := blk_frozen BK693.out 1; obtain ⟨Ao36, co36, eo36⟩ := Kd.V_slice HO690.out; subst eo36))
                  have n0_ : Aside0 (Kd.R Kd.string 9 ((w32.setCell ⟨gb693, 0, none⟩ (.slice Ao33 t685.length co33)).setCell ⟨gb693, 1, none⟩ (.slice Ao36 t688.length co36)) w.heap.size (fun _ => True) (.slice Ao10 t674.length co10) t674) := ⟨by (with_reducible repeat (first | apply Kd.R_alloc | apply Kd.R_drewN | apply Kd.R_drew)); exact Kd.R_mono (Kd.R_far (p := ⟨gb693, 1, none⟩) (Kd.R_far (p := ⟨gb693, 0, none⟩) (Kd.R_types HO_682000.out BK693.out (by decide)) (fun _ hk => hk.2) (.slice Ao33 t685.length co33)) (fun _ hk => hk.2) (.slice Ao36 t688.length co36)) (fun _ hk => trivial)⟩
                  have n1_ : Aside0 (Kd.R k76 76 ((w32.setCell ⟨gb693, 0, none⟩ (.slice Ao33 t685.length co33)).setCell ⟨gb693, 1, none⟩ (.slice Ao36 t688.length co36)) w.heap.size (fun _ => True) (.slice Ao12 t677.length co12) t677) := ⟨by (with_reducible repeat (first | apply Kd.R_alloc | apply Kd.R_drewN | apply Kd.R_drew)); exact Kd.R_mono (Kd.R_far (p := ⟨gb693, 1, none⟩) (Kd.R_far (p := ⟨gb693, 0, none⟩) (Kd.R_types HO_682001.out BK693.out (by decide)) (fun _ hk => hk.2) (.slice Ao33 t685.length co33)) (fun _ hk => hk.2) (.slice Ao36 t688.length co36)) (fun _ hk => trivial)⟩
                  have n2_ : Aside0 (Kd.V Kd.string 9 ((w32.setCell ⟨gb693, 0, none⟩ (.slice Ao33 t685.length co33)).setCell ⟨gb693, 1, none⟩ (.slice Ao36 t688.length co36)) w.heap.size (fun k_ => k_ ≠ gb681 ∧ k_ ≠ gb693) (.slice Ao33 t685.length co33) t685) := ⟨by (with_reducible repeat (first | apply Kd.V_alloc | apply Kd.V_drewN | apply Kd.V_drew)); exact Kd.V_mono (Kd.V_far (p := ⟨gb693, 1, none⟩) (Kd.V_far (p := ⟨gb693, 0, none⟩) (Kd.V_mono HO687.out (fun k_ hk => (⟨hk, hk.2⟩ : _ ∧ k_ ≠ gb693))) (fun _ hk => hk.2) (.slice Ao33 t685.length co33)) (fun _ hk => hk.2) (.slice Ao36 t688.length co36)) (fun _ hk => ⟨hk.1.1, hk.1.2⟩)⟩
                  have n3_ : Aside0 (Kd.V k76 76 ((w32.setCell ⟨gb693, 0, none⟩ (.slice Ao33 t685.length co33)).setCell ⟨gb693, 1, none⟩ (.slice Ao36 t688.length co36)) w.heap.size (fun k_ => k_ ≠ gb681 ∧ k_ ≠ gb693) (.slice Ao36 t688.length co36) t688) := ⟨by (with_reducible repeat (first | apply Kd.V_alloc | apply Kd.V_drewN | apply Kd.V_drew)); exact Kd.V_mono (Kd.V_far (p := ⟨gb693, 1, none⟩) (Kd.V_far (p := ⟨gb693, 0, none⟩) (Kd.V_mono HO690.out (fun k_ hk => (⟨hk, hk.2⟩ : _ ∧ k_ ≠ gb693))) (fun _ hk => hk.2) (.slice Ao33 t685.length co33)) (fun _ hk => hk.2) (.slice Ao36 t688.length co36)) (fun _ hk => ⟨hk.1.1, hk.1.2⟩)⟩
                  have n4_ : Aside0 (((w32.setCell ⟨gb693, 0, none⟩ (.slice Ao33 t685.length co33)).setCell ⟨gb693, 1, none⟩ (.slice Ao36 t688.length co36)).heap[gb681]? = some (.cells #[.slice Ao10 t674.length co10, .slice Ao12 t677.length co12] 25 (0, 0))) := ⟨by (with_reducible repeat (first | refine blk_drewN ?_ _ | refine blk_drew ?_ | refine blk_alloc ?_ _)); refine blk_far ?_ NB681_693.out _; (with_reducible repeat (first | refine blk_drewN ?_ _ | refine blk_drew ?_ | refine blk_alloc ?_ _)); refine blk_far ?_ NB681_693.out _; (with_reducible repeat (first | refine blk_drewN ?_ _ | refine blk_drew ?_ | refine blk_alloc ?_ _)); exact BK681.out⟩
                  have n5_ : Aside0 (((w32.setCell ⟨gb693, 0, none⟩ (.slice Ao33 t685.length co33)).setCell ⟨gb693, 1, none⟩ (.slice Ao36 t688.length co36)).heap[gb693]? = some (.cells #[.slice Ao33 t685.length co33, .slice Ao36 t688.length co36] 25 (0, 0))) := ⟨by (with_reducible repeat (first | refine blk_drewN ?_ _ | refine blk_drew ?_ | refine blk_alloc ?_ _)); refine blk_put (cs := #[.slice Ao33 t685.length co33, .slice none 0 0]) ?_ 1 _ rfl; (with_reducible repeat (first | refine blk_drewN ?_ _ | refine blk_drew ?_ | refine blk_alloc ?_ _)); refine blk_put (cs := #[.slice none 0 0, .slice none 0 0]) ?_ 0 _ rfl; (with_reducible repeat (first | refine blk_drewN ?_ _ | refine blk_drew ?_ | refine blk_alloc ?_ _)); exact BK693.out⟩
                  have n6_ : Aside0 (Below w.heap.size w ((w32.setCell ⟨gb693, 0, none⟩ (.slice Ao33 t685.length co33)).setCell ⟨gb693, 1, none⟩ (.slice Ao36 t688.length co36))) := ⟨by repeat (first | (with_reducible first | exact HB.out | apply below_alloc | apply pw_below_drewN | apply below_drew1 | refine below_set ?_ GE681.out | refine below_set ?_ GE693.out) | exact HB.out)⟩
                  (try clear HO_682000)
                  (try clear HO_682001)
                  (try clear HO687)
                  (try clear HO690)
                  (try clear BK681)
                  (try clear BK693)
                  (try clear HB)
                  generalize ((w32.setCell ⟨gb693, 0, none⟩ (.slice Ao33 t685.length co33)).setCell ⟨gb693, 1, none⟩ (.slice Ao36 t688.length co36)) = w37 at n0_ n1_ n2_ n3_ n4_ n5_ n6_ ⊢
                  have HO_682000 := n0_
                  have HO_682001 := n1_
                  have HO687 := n2_
                  have HO690 := n3_
                  have BK681 := n4_
                  have BK693 := n5_
                  have HB := n6_
                  clear n0_ n1_ n2_ n3_ n4_ n5_ n6_
                  have n0_ := Aside0.mk (Kd.R_drew HO_682000.out)
                  have n1_ := Aside0.mk (Kd.R_drew HO_682001.out)
                  have n2_ := Aside0.mk (Kd.V_drew HO687.out)
                  have n3_ := Aside0.mk (Kd.V_drew HO690.out)
                  have n4_ := Aside0.mk (blk_drew BK681.out)
                  have n5_ := Aside0.mk (blk_drew BK693.out)
                  have n6_ := Aside0.mk (below_drew1 HB.out)
                  clear HO_682000
                  clear HO_682001
                  clear HO687
                  clear HO690
                  clear BK681
                  clear BK693
                  clear HB
                  have HO_682000 := n0_
                  have HO_682001 := n1_
                  have HO687 := n2_
                  have HO690 := n3_
                  have BK681 := n4_
                  have BK693 := n5_
                  have HB := n6_
                  clear n0_ n1_ n2_ n3_ n4_ n5_ n6_
                  refine start_ (n := 18) (S := fun w' => w'.cell? ⟨gb693, 0, none⟩ = some (.slice Ao33 t685.length co33) ∧ w'.cell? ⟨gb693, 1, none⟩ = some (.slice Ao36 t688.length co36) ∧ w'.cell? ⟨gb681, 0, none⟩ = some (.slice Ao10 t674.length co10) ∧ w'.cell? ⟨gb681, 1, none⟩ = some (.slice Ao12 t677.length co12)) (ds := []) #[false, false, false, false, false, false, false, false, false, false, false, false, false, false, false, false, false, false] (by kernel_rfl) rfl rfl ⟨(blk_cell BK693.out 0).trans rfl, (blk_cell BK693.out 1).trans rfl, (blk_cell BK681.out 0).trans rfl, (blk_cell BK681.out 1).trans rfl⟩ (fun hHeld => ?_); refine with_tabW weirkeeperlaw08_JournalNeeds.tab15 weirkeeperlaw08_JournalNeeds.bits15 (fun HT_ HW_ => ?_)
                  generalize w37.drew = w38 at HO_682000 HO_682001 HO687 HO690 BK681 BK693 HB hHeld ⊢
                  refine pure_ (i := 0) (N := some 61) (v := ?_) (a' := ?_) #[true, false, false, false, false, false, false, false, false, false, false, false, false, false, false, false, false, false] rfl rfl (any_of HT_.out (by kernel_rfl)) (fun _ _ _ h => h) (Or.inl ⟨by rfl, ?_⟩) ?_ ?_
                  rotate_left
                  · intro w'
                    go_simp
                    with_reducible rfl
                  rotate_left
                  · simp only [Act.put, List.setIfInBounds_toArray, List.set_cons_zero, List.set_cons_succ, i64_w, i32_w]
                    rfl
                  refine pure_ (i := 1) (N := some 62) (v := ?_) (a' := ?_) #[true, true, false, false, false, false, false, false, false, false, false, false, false, false, false, false, false, false] rfl rfl (any_of HT_.out (by kernel_rfl)) (fun _ _ _ h => h) (Or.inl ⟨by rfl, ?_⟩) ?_ ?_
                  rotate_left
                  · intro w'
                    go_simp
                    with_reducible rfl
                  rotate_left
                  · simp only [Act.put, List.setIfInBounds_toArray, List.set_cons_zero, List.set_cons_succ, i64_w, i32_w]
                    rfl
                  refine pure_ (i := 2) (N := some 63) (v := ?_) (a' := ?_) #[true, true, true, false, false, false, false, false, false, false, false, false, false, false, false, false, false, false] rfl rfl (any_of HT_.out (by kernel_rfl)) (fun _ _ _ h => h) (Or.inl ⟨by rfl, ?_⟩) ?_ ?_
                  rotate_left
                  · intro w'
                    go_simp
                    with_reducible rfl
                  rotate_left
                  · simp only [Act.put, List.setIfInBounds_toArray, List.set_cons_zero, List.set_cons_succ, i64_w, i32_w]
                    rfl
                  refine pure_ (i := 3) (N := some 64) (v := ?_) (a' := ?_) #[true, true, true, true, false, false, false, false, false, false, false, false, false, false, false, false, false, false] rfl rfl (any_of HT_.out (by kernel_rfl)) (fun _ _ _ h => h) (Or.inl ⟨by rfl, ?_⟩) ?_ ?_
                  rotate_left
                  · intro w'
                    go_simp
                    with_reducible rfl
                  rotate_left
                  · simp only [Act.put, List.setIfInBounds_toArray, List.set_cons_zero, List.set_cons_succ, i64_w, i32_w]
                    rfl
                  refine pure_ (i := 4) (N := some 65) (v := ?_) (a' := ?_) #[true, true, true, true, true, false, false, false, false, false, false, false, false, false, false, false, false, false] rfl rfl (any_of HT_.out (by kernel_rfl)) (fun _ _ _ h => h) (Or.inl ⟨by rfl, ?_⟩) ?_ ?_
                  rotate_left
                  · intro w'
                    go_simp
                    with_reducible rfl
                  rotate_left
                  · simp only [Act.put, List.setIfInBounds_toArray, List.set_cons_zero, List.set_cons_succ, i64_w, i32_w]
                    rfl
                  refine pure_ (i := 5) (N := some 66) (v := ?_) (a' := ?_) #[true, true, true, true, true, true, false, false, false, false, false, false, false, false, false, false, false, false] rfl rfl (any_of HT_.out (by kernel_rfl)) (fun _ _ _ h => h) (Or.inl ⟨by rfl, ?_⟩) ?_ ?_
                  rotate_left
                  · intro w'
                    go_simp
                    with_reducible rfl
                  rotate_left
                  · simp only [Act.put, List.setIfInBounds_toArray, List.set_cons_zero, List.set_cons_succ, i64_w, i32_w]
                    rfl
                  refine pure_ (i := 6) (N := some 67) (v := ?_) (a' := ?_) #[true, true, true, true, true, true, true, false, false, false, false, false, false, false, false, false, false, false] rfl rfl (any_of HT_.out (by kernel_rfl)) (fun _ _ _ h => h) (Or.inl ⟨by rfl, ?_⟩) ?_ ?_
                  rotate_left
                  · intro w'
                    go_simp
                    with_reducible rfl
                  rotate_left
                  · simp only [Act.put, List.setIfInBounds_toArray, List.set_cons_zero, List.set_cons_succ, i64_w, i32_w]
                    rfl
                  refine pure_ (i := 7) (N := some 68) (v := ?_) (a' := ?_) #[true, true, true, true, true, true, true, true, false, false, false, false, false, false, false, false, false, false] rfl rfl (any_of HT_.out (by kernel_rfl)) (fun _ _ _ h => h) (Or.inl ⟨by rfl, ?_⟩) ?_ ?_
                  rotate_left
                  · intro w'
                    go_simp
                    with_reducible rfl
                  rotate_left
                  · simp only [Act.put, List.setIfInBounds_toArray, List.set_cons_zero, List.set_cons_succ, i64_w, i32_w]
                    rfl
                  refine take_ (i := 8) (N := some 69) (v := ?_) (a' := ?_) #[true, true, true, true, true, true, true, true, true, false, false, false, false, false, false, false, false, false] rfl rfl (take_ofW HT_.out HW_.out (by kernel_rfl)) (fun _ _ _ h => h) (Or.inl ⟨by rfl, ?_⟩) hHeld ?_ ?_
                  rotate_left
                  · rintro w' ⟨s0, s1, s2, s3⟩
                    go_simp
                    with_reducible rfl
                  rotate_left
                  · simp only [Act.put, List.setIfInBounds_toArray, List.set_cons_zero, List.set_cons_succ, i64_w, i32_w]
                    rfl
                  refine take_ (i := 10) (N := some 71) (v := ?_) (a' := ?_) #[true, true, true, true, true, true, true, true, true, false, true, false, false, false, false, false, false, false] rfl rfl (take_ofW HT_.out HW_.out (by kernel_rfl)) (fun _ _ _ h => h) (Or.inl ⟨by rfl, ?_⟩) hHeld ?_ ?_
                  rotate_left
                  · rintro w' ⟨s0, s1, s2, s3⟩
                    go_simp
                    with_reducible rfl
                  rotate_left
                  · simp only [Act.put, List.setIfInBounds_toArray, List.set_cons_zero, List.set_cons_succ, i64_w, i32_w]
                    rfl
                  refine one_ (i := 9) (N := some 70) #[true, true, true, true, true, true, true, true, true, true, true, false, false, false, false, false, false, false] rfl rfl (one_of HT_.out (by kernel_rfl)) (by decide) (fun K hK => ?_)
                  refine goes_ Try.func16 (by kernel_rfl) rfl #[.agg #[.slice Ao33 t685.length co33, .slice Ao36 t688.length co36]] (by rfl) rfl rfl (by (try simp only [List.map_toArray, List.map_cons, List.map_nil]); first | done | rfl | (simp only [List.length_drop, List.length_take]; rfl)) ?_
                  with_reducible refine (weirkeeperlaw04_Ref.calls k1 (fun k_ => (k_ ≠ gb681 ∧ k_ ≠ gb693)) _ _ t685 _ _ t688 t694 t697 _ ?side1 ?side2 ?side3 A25.out).mono ?_
                  (case side1 => exact HO687.out)
                  (case side2 => repeat (first | exact (Kd.V_reads' HO690.out).2.2 | (with_reducible refine Kd.C_alloc ?_ _) | (with_reducible refine Kd.C_drewN ?_ _) | (with_reducible refine Kd.C_drew ?_)))
                  (case side3 => exact (Kd.V_reads' HO690.out).2.1)
                  rintro e w39 ⟨v695, v698, rfl, ho0, ho1, hb⟩
                  refine ⟨_, rfl, ?_⟩
                  have n0_ := Aside0.mk (Kd.R_below (by (with_reducible repeat (first | apply Kd.R_alloc | apply Kd.R_drewN | apply Kd.R_drew)); exact HO_682000.out) hb)
                  have n1_ := Aside0.mk (Kd.R_below (by (with_reducible repeat (first | apply Kd.R_alloc | apply Kd.R_drewN | apply Kd.R_drew)); exact HO_682001.out) hb)
                  have n2_ := Aside0.mk (Kd.V_elder' (by (with_reducible repeat (first | apply Kd.V_alloc | apply Kd.V_drewN | apply Kd.V_drew)); exact HO687.out) (Kd.R_base ho1) hb)
                  have n3_ := Aside0.mk (Kd.V_elder' (by (with_reducible repeat (first | apply Kd.V_alloc | apply Kd.V_drewN | apply Kd.V_drew)); exact HO690.out) (Kd.R_base ho1) hb)
                  have n4_ := Aside0.mk (Kd.V_lower (Kd.V_mono (ok' := fun k_ => some k_ ≠ (v698 : Value).ownBlock ∧ k_ ≠ gb681 ∧ k_ ≠ gb693) ho0 (fun k_ hk_ => ⟨hk_.2, Or.elim hk_.1 (fun hs_ => hs_.1) (fun hn_ => (Kd.freshB (g := gb681) (o := .cells #[.slice Ao10 t674.length co10, .slice Ao12 t677.length co12] 25 (0, 0)) (by (with_reducible repeat (first | refine blk_drewN ?_ _ | refine blk_drew ?_ | refine blk_alloc ?_ _)); exact BK681.out) k_ hn_)), Or.elim hk_.1 (fun hs_ => hs_.2) (fun hn_ => (Kd.freshB (g := gb693) (o := .cells #[.slice Ao33 t685.length co33, .slice Ao36 t688.length co36] 25 (0, 0)) (by (with_reducible repeat (first | refine blk_drewN ?_ _ | refine blk_drew ?_ | refine blk_alloc ?_ _)); exact BK693.out) k_ hn_))⟩)) (below_size (by repeat (first | (with_reducible first | exact HB.out | apply below_alloc | apply pw_below_drewN | apply below_drew1 | refine below_set ?_ GE681.out | refine below_set ?_ GE693.out) | exact HB.out))))
                  have n5_ := Aside0.mk (Kd.R_lower (Kd.R_mono (ok' := fun k_ => True) ho1 (fun _ hk_ => trivial)) (below_size (by repeat (first | (with_reducible first | exact HB.out | apply below_alloc | apply pw_below_drewN | apply below_drew1 | refine below_set ?_ GE681.out | refine below_set ?_ GE693.out) | exact HB.out))))
                  have n6_ := Aside0.mk (blk_below (g := gb681) (o := .cells #[.slice Ao10 t674.length co10, .slice Ao12 t677.length co12] 25 (0, 0)) (by (with_reducible repeat (first | refine blk_drewN ?_ _ | refine blk_drew ?_ | refine blk_alloc ?_ _)); exact BK681.out) hb)
                  have n7_ := Aside0.mk (blk_below (g := gb693) (o := .cells #[.slice Ao33 t685.length co33, .slice Ao36 t688.length co36] 25 (0, 0)) (by (with_reducible repeat (first | refine blk_drewN ?_ _ | refine blk_drew ?_ | refine blk_alloc ?_ _)); exact BK693.out) hb)
                  have n8_ := Aside0.mk (below_step (by repeat (first | (with_reducible first | exact HB.out | apply below_alloc | apply pw_below_drewN | apply below_drew1 | refine below_set ?_ GE681.out | refine below_set ?_ GE693.out) | exact HB.out)) hb)
                  clear HO_682000
                  clear HO_682001
                  clear HO687
                  clear HO690
                  clear BK681
                  clear BK693
                  clear HB
                  have HO_682000 := n0_
                  have HO_682001 := n1_
                  have HO687 := n2_
                  have HO690 := n3_
                  have HO696 := n4_
                  have HO699 := n5_
                  have BK681 := n6_
                  have BK693 := n7_
                  have HB := n8_
                  clear n0_ n1_ n2_ n3_ n4_ n5_ n6_ n7_ n8_
                  (try clear hb)
                  (try clear hb2)
                  (try clear hk)
                  (try clear hi)
                  (try clear ho0)
                  (try clear ho1)
                  refine hK.out _ _ ⟨(blk_cell BK693.out 0).trans rfl, (blk_cell BK693.out 1).trans rfl, (blk_cell BK681.out 0).trans rfl, (blk_cell BK681.out 1).trans rfl⟩ (fun hHeld => ?_)
                  clear hK K
                  refine norm_ (a' := ?_) ?_ ?_
                  rotate_left
                  · show Act.put _ (some 70) _ = _
                    simp only [Act.put, List.setIfInBounds_toArray, List.set_cons_zero, List.set_cons_succ, i64_w, i32_w]
                    rfl
                  refine one_ (i := 11) (N := some 72) #[true, true, true, true, true, true, true, true, true, true, true, true, false, false, false, false, false, false] rfl rfl (one_of HT_.out (by kernel_rfl)) (by decide) (fun K hK => ?_)
                  refine goes_ Try.func16 (by kernel_rfl) rfl #[.agg #[.slice Ao10 t674.length co10, .slice Ao12 t677.length co12]] (by rfl) rfl rfl (by (try simp only [List.map_toArray, List.map_cons, List.map_nil]); first | done | rfl | (simp only [List.length_drop, List.length_take]; rfl)) ?_
                  with_reducible refine (weirkeeperlaw04_Ref.calls k1 (fun k_ => some k_ = (.slice Ao10 t674.length co10 : Value).ownBlock) _ _ t674 _ _ t677 t700 t703 _ ?side1 ?side2 ?side3 A26.out).mono ?_
                  (case side1 => exact Kd.R_V (Kd.R_tight rfl (Kd.R_types (Kd.R_types (Kd.R_apart' (Kd.R_apart' (HO_682000.out) (Kd.R_typed HO_682001.out) (by decide)) (Kd.R_typed HO699.out) (by decide)) BK681.out (by decide)) BK693.out (by decide))))
                  (case side2 => repeat (first | exact (Kd.R_reads' HO_682001.out).2.2 | (with_reducible refine Kd.C_alloc ?_ _) | (with_reducible refine Kd.C_drewN ?_ _) | (with_reducible refine Kd.C_drew ?_)))
                  (case side3 => exact (Kd.R_reads' HO_682001.out).2.1)
                  rintro e w40 ⟨v701, v704, rfl, ho0, ho1, hb⟩
                  refine ⟨_, rfl, ?_⟩
                  have n0_ := Aside0.mk (Kd.R_below (by (with_reducible repeat (first | apply Kd.R_alloc | apply Kd.R_drewN | apply Kd.R_drew)); exact HO_682000.out) hb)
                  have n1_ := Aside0.mk (Kd.R_below (by (with_reducible repeat (first | apply Kd.R_alloc | apply Kd.R_drewN | apply Kd.R_drew)); exact HO_682001.out) hb)
                  have n2_ := Aside0.mk (Kd.V_elder' (by (with_reducible repeat (first | apply Kd.V_alloc | apply Kd.V_drewN | apply Kd.V_drew)); exact HO687.out) (Kd.R_base ho1) hb)
                  have n3_ := Aside0.mk (Kd.V_elder' (by (with_reducible repeat (first | apply Kd.V_alloc | apply Kd.V_drewN | apply Kd.V_drew)); exact HO690.out) (Kd.R_base ho1) hb)
                  have n4_ := Aside0.mk (Kd.V_elder' (by (with_reducible repeat (first | apply Kd.V_alloc | apply Kd.V_drewN | apply Kd.V_drew)); exact HO696.out) (Kd.R_base ho1) hb)
                  have n5_ := Aside0.mk (Kd.R_elder' (by (with_reducible repeat (first | apply Kd.R_alloc | apply Kd.R_drewN | apply Kd.R_drew)); exact HO699.out) (Kd.R_base ho1) hb)
                  have n6_ := Aside0.mk (Kd.V_lower (Kd.V_mono (ok' := fun k_ => some k_ ≠ (v704 : Value).ownBlock ∧ some k_ ≠ (.slice Ao12 t677.length co12 : Value).ownBlock ∧ some k_ ≠ (v698 : Value).ownBlock ∧ k_ ≠ gb681 ∧ k_ ≠ gb693) ho0 (fun k_ hk_ => ⟨hk_.2, Or.elim hk_.1 (fun hs_ => ((Kd.R_types (Kd.R_types (Kd.R_apart' (Kd.R_apart' (HO_682000.out) (Kd.R_typed HO_682001.out) (by decide)) (Kd.R_typed HO699.out) (by decide)) BK681.out (by decide)) BK693.out (by decide)).1 k_ hs_.symm).1.1.1.2) (fun hn_ => (Kd.fresh' (Kd.R_lt (by (with_reducible repeat (first | apply Kd.R_alloc | apply Kd.R_drewN | apply Kd.R_drew)); exact HO_682001.out)) k_ hn_)), Or.elim hk_.1 (fun hs_ => ((Kd.R_types (Kd.R_types (Kd.R_apart' (Kd.R_apart' (HO_682000.out) (Kd.R_typed HO_682001.out) (by decide)) (Kd.R_typed HO699.out) (by decide)) BK681.out (by decide)) BK693.out (by decide)).1 k_ hs_.symm).1.1.2) (fun hn_ => (Kd.fresh' (Kd.R_lt (by (with_reducible repeat (first | apply Kd.R_alloc | apply Kd.R_drewN | apply Kd.R_drew)); exact HO699.out)) k_ hn_)), Or.elim hk_.1 (fun hs_ => ((Kd.R_types (Kd.R_types (Kd.R_apart' (Kd.R_apart' (HO_682000.out) (Kd.R_typed HO_682001.out) (by decide)) (Kd.R_typed HO699.out) (by decide)) BK681.out (by decide)) BK693.out (by decide)).1 k_ hs_.symm).1.2) (fun hn_ => (Kd.freshB (g := gb681) (o := .cells #[.slice Ao10 t674.length co10, .slice Ao12 t677.length co12] 25 (0, 0)) (by (with_reducible repeat (first | refine blk_drewN ?_ _ | refine blk_drew ?_ | refine blk_alloc ?_ _)); exact BK681.out) k_ hn_)), Or.elim hk_.1 (fun hs_ => ((Kd.R_types (Kd.R_types (Kd.R_apart' (Kd.R_apart' (HO_682000.out) (Kd.R_typed HO_682001.out) (by decide)) (Kd.R_typed HO699.out) (by decide)) BK681.out (by decide)) BK693.out (by decide)).1 k_ hs_.symm).2) (fun hn_ => (Kd.freshB (g := gb693) (o := .cells #[.slice Ao33 t685.length co33, .slice Ao36 t688.length co36] 25 (0, 0)) (by (with_reducible repeat (first | refine blk_drewN ?_ _ | refine blk_drew ?_ | refine blk_alloc ?_ _)); exact BK693.out) k_ hn_))⟩)) (below_size (by repeat (first | (with_reducible first | exact HB.out | apply below_alloc | apply pw_below_drewN | apply below_drew1 | refine below_set ?_ GE681.out | refine below_set ?_ GE693.out) | exact HB.out))))
                  have n7_ := Aside0.mk (Kd.R_lower (Kd.R_new' (Kd.R_mono (ok' := fun k_ => True) ho1 (fun _ hk_ => trivial)) (Kd.R_lt (by (with_reducible repeat (first | apply Kd.R_alloc | apply Kd.R_drewN | apply Kd.R_drew)); exact HO699.out))) (below_size (by repeat (first | (with_reducible first | exact HB.out | apply below_alloc | apply pw_below_drewN | apply below_drew1 | refine below_set ?_ GE681.out | refine below_set ?_ GE693.out) | exact HB.out))))
                  have n8_ := Aside0.mk (blk_below (g := gb681) (o := .cells #[.slice Ao10 t674.length co10, .slice Ao12 t677.length co12] 25 (0, 0)) (by (with_reducible repeat (first | refine blk_drewN ?_ _ | refine blk_drew ?_ | refine blk_alloc ?_ _)); exact BK681.out) hb)
                  have n9_ := Aside0.mk (blk_below (g := gb693) (o := .cells #[.slice Ao33 t685.length co33, .slice Ao36 t688.length co36] 25 (0, 0)) (by (with_reducible repeat (first | refine blk_drewN ?_ _ | refine blk_drew ?_ | refine blk_alloc ?_ _)); exact BK693.out) hb)
                  have n10_ := Aside0.mk (below_step (by repeat (first | (with_reducible first | exact HB.out | apply below_alloc | apply pw_below_drewN | apply below_drew1 | refine below_set ?_ GE681.out | refine below_set ?_ GE693.out) | exact HB.out)) hb)
                  clear HO_682000
                  clear HO_682001
                  clear HO687
                  clear HO690
                  clear HO696
                  clear HO699
                  clear BK681
                  clear BK693
                  clear HB
                  have HO_682000 := n0_
                  have HO_682001 := n1_
                  have HO687 := n2_
                  have HO690 := n3_
                  have HO696 := n4_
                  have HO699 := n5_
                  have HO702 := n6_
                  have HO705 := n7_
                  have BK681 := n8_
                  have BK693 := n9_
                  have HB := n10_
                  clear n0_ n1_ n2_ n3_ n4_ n5_ n6_ n7_ n8_ n9_ n10_
                  (try clear hb)
                  (try clear hb2)
                  (try clear hk)
                  (try clear hi)
                  (try clear ho0)
                  (try clear ho1)
                  obtain ⟨Ao41, co41, eo41⟩ := Kd.V_slice HO696.out
                  (first | subst eo41 | (injection eo41 with f1_ f2_ f3_; have f4_ := f1_.symm; have f5_ := f3_.symm; clear f1_ f2_ f3_; subst f4_; subst f5_))
                  obtain ⟨Ao42, co42, eo42⟩ := Kd.R_slice HO699.out
                  (first | subst eo42 | (injection eo42 with f1_ f2_ f3_; have f4_ := f1_.symm; have f5_ := f3_.symm; clear f1_ f2_ f3_; subst f4_; subst f5_))
                  obtain ⟨Ao43, co43, eo43⟩ := Kd.V_slice HO702.out
                  (first | subst eo43 | (injection eo43 with f1_ f2_ f3_; have f4_ := f1_.symm; have f5_ := f3_.symm; clear f1_ f2_ f3_; subst f4_; subst f5_))
                  obtain ⟨Ao44, co44, eo44⟩ := Kd.R_slice HO705.out
                  (first | subst eo44 | (injection eo44 with f1_ f2_ f3_; have f4_ := f1_.symm; have f5_ := f3_.symm; clear f1_ f2_ f3_; subst f4_; subst f5_))
                  refine hK.out _ _ ⟨(blk_cell BK693.out 0).trans rfl, (blk_cell BK693.out 1).trans rfl, (blk_cell BK681.out 0).trans rfl, (blk_cell BK681.out 1).trans rfl⟩ (fun hHeld => ?_)
                  clear hK K
                  refine norm_ (a' := ?_) ?_ ?_
                  rotate_left
                  · show Act.put _ (some 72) _ = _
                    simp only [Act.put, List.setIfInBounds_toArray, List.set_cons_zero, List.set_cons_succ, i64_w, i32_w]
                    rfl
                  refine one_ (i := 12) (N := some 73) #[true, true, true, true, true, true, true, true, true, true, true, true, true, false, false, false, false, false] rfl rfl (one_of HT_.out (by kernel_rfl)) (by decide) (fun K hK => ?_)
                  refine goes_ Try.func19 (by kernel_rfl) rfl #[.agg #[.slice Ao41 t694.length co41, .slice Ao42 t697.length co42], .agg #[.slice Ao43 t700.length co43, .slice Ao44 t703.length co44]] (by rfl) rfl rfl (by (try simp only [List.map_toArray, List.map_cons, List.map_nil]); first | done | rfl | (simp only [List.length_drop, List.length_take]; rfl)) ?_
                  with_reducible refine (weirkeeperref04_Same.calls k1 _ _ t694 _ _ t697 _ _ t700 _ _ t703 true _ ?side1 ?side2 ?side3 ?side4 ?side5 ?side6 ?side7 ?side8 A27.out).mono ?_
                  (case side1 => repeat (first | exact (Kd.V_reads' HO696.out).2.2 | (with_reducible refine Kd.C_alloc ?_ _) | (with_reducible refine Kd.C_drewN ?_ _) | (with_reducible refine Kd.C_drew ?_)))
                  (case side2 => exact (Kd.V_reads' HO696.out).2.1)
                  (case side3 => repeat (first | exact (Kd.R_reads' HO699.out).2.2 | (with_reducible refine Kd.C_alloc ?_ _) | (with_reducible refine Kd.C_drewN ?_ _) | (with_reducible refine Kd.C_drew ?_)))
                  (case side4 => exact (Kd.R_reads' HO699.out).2.1)
                  (case side5 => repeat (first | exact (Kd.V_reads' HO702.out).2.2 | (with_reducible refine Kd.C_alloc ?_ _) | (with_reducible refine Kd.C_drewN ?_ _) | (with_reducible refine Kd.C_drew ?_)))
                  (case side6 => exact (Kd.V_reads' HO702.out).2.1)
                  (case side7 => repeat (first | exact (Kd.R_reads' HO705.out).2.2 | (with_reducible refine Kd.C_alloc ?_ _) | (with_reducible refine Kd.C_drewN ?_ _) | (with_reducible refine Kd.C_drew ?_)))
                  (case side8 => exact (Kd.R_reads' HO705.out).2.1)
                  rintro e w45 ⟨rfl, hb⟩
                  refine ⟨_, rfl, ?_⟩
                  have n0_ := Aside0.mk (Kd.R_below (by (with_reducible repeat (first | apply Kd.R_alloc | apply Kd.R_drewN | apply Kd.R_drew)); exact HO_682000.out) hb)
                  have n1_ := Aside0.mk (Kd.R_below (by (with_reducible repeat (first | apply Kd.R_alloc | apply Kd.R_drewN | apply Kd.R_drew)); exact HO_682001.out) hb)
                  have n2_ := Aside0.mk (Kd.V_below (by (with_reducible repeat (first | apply Kd.V_alloc | apply Kd.V_drewN | apply Kd.V_drew)); exact HO687.out) hb)
                  have n3_ := Aside0.mk (Kd.V_below (by (with_reducible repeat (first | apply Kd.V_alloc | apply Kd.V_drewN | apply Kd.V_drew)); exact HO690.out) hb)
                  have n4_ := Aside0.mk (Kd.V_below (by (with_reducible repeat (first | apply Kd.V_alloc | apply Kd.V_drewN | apply Kd.V_drew)); exact HO696.out) hb)
                  have n5_ := Aside0.mk (Kd.R_below (by (with_reducible repeat (first | apply Kd.R_alloc | apply Kd.R_drewN | apply Kd.R_drew)); exact HO699.out) hb)
                  have n6_ := Aside0.mk (Kd.V_below (by (with_reducible repeat (first | apply Kd.V_alloc | apply Kd.V_drewN | apply Kd.V_drew)); exact HO702.out) hb)
                  have n7_ := Aside0.mk (Kd.R_below (by (with_reducible repeat (first | apply Kd.R_alloc | apply Kd.R_drewN | apply Kd.R_drew)); exact HO705.out) hb)
                  have n8_ := Aside0.mk (blk_below (g := gb681) (o := .cells #[.slice Ao10 t674.length co10, .slice Ao12 t677.length co12] 25 (0, 0)) (by (with_reducible repeat (first | refine blk_drewN ?_ _ | refine blk_drew ?_ | refine blk_alloc ?_ _)); exact BK681.out) hb)
                  have n9_ := Aside0.mk (blk_below (g := gb693) (o := .cells #[.slice Ao33 t685.length co33, .slice Ao36 t688.length co36] 25 (0, 0)) (by (with_reducible repeat (first | refine blk_drewN ?_ _ | refine blk_drew ?_ | refine blk_alloc ?_ _)); exact BK693.out) hb)
                  have n10_ := Aside0.mk (below_step (by repeat (first | (with_reducible first | exact HB.out | apply below_alloc | apply pw_below_drewN | apply below_drew1 | refine below_set ?_ GE681.out | refine below_set ?_ GE693.out) | exact HB.out)) hb)
                  clear HO_682000
                  clear HO_682001
                  clear HO687
                  clear HO690
                  clear HO696
                  clear HO699
                  clear HO702
                  clear HO705
                  clear BK681
                  clear BK693
                  clear HB
                  have HO_682000 := n0_
                  have HO_682001 := n1_
                  have HO687 := n2_
                  have HO690 := n3_
                  have HO696 := n4_
                  have HO699 := n5_
                  have HO702 := n6_
                  have HO705 := n7_
                  have BK681 := n8_
                  have BK693 := n9_
                  have HB := n10_
                  clear n0_ n1_ n2_ n3_ n4_ n5_ n6_ n7_ n8_ n9_ n10_
                  (try clear hb)
                  (try clear hb2)
                  (try clear hk)
                  (try clear hi)
                  refine hK.out _ _ ⟨(blk_cell BK693.out 0).trans rfl, (blk_cell BK693.out 1).trans rfl, (blk_cell BK681.out 0).trans rfl, (blk_cell BK681.out 1).trans rfl⟩ (fun hHeld => ?_)
                  clear hK K
                  refine norm_ (a' := ?_) ?_ ?_
                  rotate_left
                  · show Act.put _ (some 73) _ = _
                    simp only [Act.put, List.setIfInBounds_toArray, List.set_cons_zero, List.set_cons_succ, i64_w, i32_w]
                    rfl
                  refine pure_ (i := 13) (N := some 74) (v := ?_) (a' := ?_) #[true, true, true, true, true, true, true, true, true, true, true, true, true, true, false, false, false, false] rfl rfl (any_of HT_.out (by kernel_rfl)) (fun _ _ _ h => h) (Or.inl ⟨by rfl, ?_⟩) ?_ ?_
                  rotate_left
                  · intro w'
                    go_simp
                    with_reducible rfl
                  rotate_left
                  · simp only [Act.put, List.setIfInBounds_toArray, List.set_cons_zero, List.set_cons_succ, i64_w, i32_w]
                    rfl
                  refine pure_ (i := 14) (N := some 75) (v := ?_) (a' := ?_) #[true, true, true, true, true, true, true, true, true, true, true, true, true, true, true, false, false, false] rfl rfl (any_of HT_.out (by kernel_rfl)) (fun _ _ _ h => h) (Or.inl ⟨by rfl, ?_⟩) ?_ ?_
                  rotate_left
                  · intro w'
                    go_simp
                    with_reducible rfl
                  rotate_left
                  · simp only [Act.put, List.setIfInBounds_toArray, List.set_cons_zero, List.set_cons_succ, i64_w, i32_w]
                    rfl
                  refine one_ (i := 15) (N := some 76) #[true, true, true, true, true, true, true, true, true, true, true, true, true, true, true, true, false, false] rfl rfl (one_of HT_.out (by kernel_rfl)) (by decide) (fun K hK => ?_)
                  refine goes_ Try.func27 (by kernel_rfl) rfl #[] (by rfl) rfl rfl (by (try simp only [List.map_toArray, List.map_cons, List.map_nil]); first | done | rfl | (simp only [List.length_drop, List.length_take]; rfl)) ?_
                  with_reducible refine (weirkeeperlaw08_awake.calls k1 _ A29.out).mono ?_
                  rintro e w46 ⟨rfl, hb⟩
                  refine ⟨_, rfl, ?_⟩
                  have n0_ := Aside0.mk (Kd.R_below (by (with_reducible repeat (first | apply Kd.R_alloc | apply Kd.R_drewN | apply Kd.R_drew)); exact HO_682000.out) hb)
                  have n1_ := Aside0.mk (Kd.R_below (by (with_reducible repeat (first | apply Kd.R_alloc | apply Kd.R_drewN | apply Kd.R_drew)); exact HO_682001.out) hb)
                  have n2_ := Aside0.mk (Kd.V_below (by (with_reducible repeat (first | apply Kd.V_alloc | apply Kd.V_drewN | apply Kd.V_drew)); exact HO687.out) hb)
                  have n3_ := Aside0.mk (Kd.V_below (by (with_reducible repeat (first | apply Kd.V_alloc | apply Kd.V_drewN | apply Kd.V_drew)); exact HO690.out) hb)
                  have n4_ := Aside0.mk (Kd.V_below (by (with_reducible repeat (first | apply Kd.V_alloc | apply Kd.V_drewN | apply Kd.V_drew)); exact HO696.out) hb)
                  have n5_ := Aside0.mk (Kd.R_below (by (with_reducible repeat (first | apply Kd.R_alloc | apply Kd.R_drewN | apply Kd.R_drew)); exact HO699.out) hb)
                  have n6_ := Aside0.mk (Kd.V_below (by (with_reducible repeat (first | apply Kd.V_alloc | apply Kd.V_drewN | apply Kd.V_drew)); exact HO702.out) hb)
                  have n7_ := Aside0.mk (Kd.R_below (by (with_reducible repeat (first | apply Kd.R_alloc | apply Kd.R_drewN | apply Kd.R_drew)); exact HO705.out) hb)
                  have n8_ := Aside0.mk (blk_below (g := gb681) (o := .cells #[.slice Ao10 t674.length co10, .slice Ao12 t677.length co12] 25 (0, 0)) (by (with_reducible repeat (first | refine blk_drewN ?_ _ | refine blk_drew ?_ | refine blk_alloc ?_ _)); exact BK681.out) hb)
                  have n9_ := Aside0.mk (blk_below (g := gb693) (o := .cells #[.slice Ao33 t685.length co33, .slice Ao36 t688.length co36] 25 (0, 0)) (by (with_reducible repeat (first | refine blk_drewN ?_ _ | refine blk_drew ?_ | refine blk_alloc ?_ _)); exact BK693.out) hb)
                  have n10_ := Aside0.mk (below_step (by repeat (first | (with_reducible first | exact HB.out | apply below_alloc | apply pw_below_drewN | apply below_drew1 | refine below_set ?_ GE681.out | refine below_set ?_ GE693.out) | exact HB.out)) hb)
                  clear HO_682000
                  clear HO_682001
                  clear HO687
                  clear HO690
                  clear HO696
                  clear HO699
                  clear HO702
                  clear HO705
                  clear BK681
                  clear BK693
                  clear HB
                  have HO_682000 := n0_
                  have HO_682001 := n1_
                  have HO687 := n2_
                  have HO690 := n3_
                  have HO696 := n4_
                  have HO699 := n5_
                  have HO702 := n6_
                  have HO705 := n7_
                  have BK681 := n8_
                  have BK693 := n9_
                  have HB := n10_
                  clear n0_ n1_ n2_ n3_ n4_ n5_ n6_ n7_ n8_ n9_ n10_
                  (try clear hb)
                  (try clear hb2)
                  (try clear hk)
                  (try clear hi)
                  refine hK.out _ _ ⟨(blk_cell BK693.out 0).trans rfl, (blk_cell BK693.out 1).trans rfl, (blk_cell BK681.out 0).trans rfl, (blk_cell BK681.out 1).trans rfl⟩ (fun hHeld => ?_)
                  clear hK K
                  refine norm_ (a' := ?_) ?_ ?_
                  rotate_left
                  · show Act.put _ (some 76) _ = _
                    simp only [Act.put, List.setIfInBounds_toArray, List.set_cons_zero, List.set_cons_succ, i64_w, i32_w]
                    rfl
                  refine pure_ (i := 16) (N := some 77) (v := ?_) (a' := ?_) #[true, true, true, true, true, true, true, true, true, true, true, true, true, true, true, true, true, false] rfl rfl (any_of HT_.out (by kernel_rfl)) (fun _ _ _ h => h) (Or.inl ⟨by rfl, ?_⟩) ?_ ?_
                  rotate_left
                  · intro w'
                    go_simp
                    with_reducible rfl
                  rotate_left
                  · simp only [Act.put, List.setIfInBounds_toArray, List.set_cons_zero, List.set_cons_succ, i64_w, i32_w]
                    rfl
                  refine pure_ (i := 17) (N := some 6) (v := ?_) (a' := ?_) #[true, true, true, true, true, true, true, true, true, true, true, true, true, true, true, true, true, true] rfl rfl (any_of HT_.out (by kernel_rfl)) (fun _ _ _ h => h) (Or.inl ⟨by rfl, ?_⟩) ?_ ?_
                  rotate_left
                  · intro w'
                    go_simp
                    with_reducible rfl
                  rotate_left
                  · simp only [Act.put, List.setIfInBounds_toArray, List.set_cons_zero, List.set_cons_succ, i64_w, i32_w]
                    rfl
                  refine done_ (done_of HT_.out (by kernel_rfl)) ?_
                  try go_wp2
                  go_ret
                  exact ⟨by first | rfl | (simp only [h9_.out]; done) | (have h8_ := h9_.out; simp [h8_]; done) | (simp [errW_none, errW_some] <;> rfl) | (simp [*, errW_none, errW_some] <;> rfl), by repeat (first | (with_reducible first | exact HB.out | apply below_alloc | apply pw_below_drewN | apply below_drew1 | refine below_set ?_ GE681.out | refine below_set ?_ GE693.out) | exact HB.out)⟩
                · replace c28 := Bool.eq_false_iff.mpr c28
                  subst c28
                  have H1 : (some false) = some true := by rw [if_neg (show ¬ (false = true) by decide)] at H; exact H
                  clear H
                  have H := H1
                  clear H1
                  exact absurd H (by simp)
              · rw [if_neg c24] at H
                have c24b0 : (t691 == (Int.tmod (wrap64 (a1)) 129)) = false := beq_eq_false_iff_ne.mpr c24
                have c24b1 : (t691 != (Int.tmod (wrap64 (a1)) 129)) = true := bne_iff_ne.mpr c24
                exact absurd H (by simp)
            · rw [if_neg c23] at H
              have c23b0 : (t692 == 6) = false := beq_eq_false_iff_ne.mpr c23
              have c23b1 : (t692 != 6) = true := bne_iff_ne.mpr c23
              exact absurd H (by simp)
          · rw [if_neg c22] at H
            have c22b0 : decide (128 < (wrap64 ((Int.tmod (wrap64 (a1)) 129) + x11_1))) = false := decide_eq_false c22
            clear c22
            by_cases c47 : t680 = 0
            · rw [if_pos c47] at H
              have c47b0 : (t680 == 0) = true := beq_iff_eq.mpr c47
              have c47b1 : (t680 != 0) = false := bne_eq_false_iff_eq.mpr c47
              clear c47
              by_cases c48 : t692 = 0
              · rw [if_pos c48] at H
                have c48b0 : (t692 == 0) = true := beq_iff_eq.mpr c48
                have c48b1 : (t692 != 0) = false := bne_eq_false_iff_eq.mpr c48
                clear c48
                by_cases c49 : t691 = (wrap64 ((Int.tmod (wrap64 (a1)) 129) + x11_1))
                · rw [if_pos c49] at H
                  have c49b0 : (t691 == (wrap64 ((Int.tmod (wrap64 (a1)) 129) + x11_1))) = true := beq_iff_eq.mpr c49
                  have c49b1 : (t691 != (wrap64 ((Int.tmod (wrap64 (a1)) 129) + x11_1))) = false := bne_eq_false_iff_eq.mpr c49
                  clear c49
                  by_cases c50 : (t688.length : Int) = x11_1
                  · rw [if_pos c50] at H
                    have c50b0 : ((t688.length : Int) == x11_1) = true := beq_iff_eq.mpr c50
                    have c50b1 : ((t688.length : Int) != x11_1) = false := bne_eq_false_iff_eq.mpr c50
                    clear c50
                    replace H := Option.bind_eq_some_iff.mp H
                    obtain ⟨t708, A510, H⟩ := H
                    replace H : (some t708) = some true := H
                    have A51 := Aside0.mk A510
                    clear A510
                    (have H9_ := Option.some.inj H; first | subst H9_ | (have h9_ := Aside0.mk H9_; clear H9_))
                    have hcz52_0 : wr.cell? ⟨gb681, 0, none⟩ = some (.slice Ao10 t674.length co10) := (blk_cell BK681.out 0).trans rfl
                    have hcz52_1 : wr.cell? ⟨gb681, 1, none⟩ = some (.slice Ao12 t677.length co12) := (blk_cell BK681.out 1).trans rfl
                    have hfz52_0 := blk_frozen BK681.out 0
                    have hfz52_1 := blk_frozen BK681.out 1
                    go_wp2_with (first | ((with_reducible refine gate_callee (f := 37) rfl ?_); refine goesL_ (some 53) rfl rfl Try.func37 (by kernel_rfl) rfl #[.agg #[.slice Ao10 t674.length co10, .slice Ao12 t677.length co12], .int .i64 (wrap64 (1 + (wrap64 (Int.tmod a0 2147483646)))), .int .i64 (Int.tmod (wrap64 (a1)) 129), .slice A2 l2.length c2] rfl (by (try simp only [List.map_toArray, List.map_cons, List.map_nil]); first | done | rfl | (simp only [List.length_drop, List.length_take]; rfl)) ?_; (with_reducible refine (journal_Append.calls k1 (fun k_ => some k_ = (.slice Ao10 t674.length co10 : Value).ownBlock) _ _ t674 (fun k_ => some k_ = (.slice Ao12 t677.length co12 : Value).ownBlock) _ _ t677 (wrap64 (1 + (wrap64 (Int.tmod a0 2147483646)))) (Int.tmod (wrap64 (a1)) 129) _ _ l2 t685 t688 t691 t692 _ ?side1 ?side2 ?side3 ?side4 A21.out).mono ?_); (case side1 => exact Kd.R_V (Kd.R_tight rfl (Kd.R_types (Kd.R_apart' (HO_682000.out) (Kd.R_typed HO_682001.out) (by decide)) BK681.out (by decide)))); (case side2 => exact Kd.R_V (Kd.R_tight rfl (Kd.R_types (Kd.R_apart' (HO_682001.out) (Kd.R_typed HO_682000.out) (by decide)) BK681.out (by decide)))); (case side3 => repeat (first | exact (Kd.C_below HR2.out HB.out) | (with_reducible refine Kd.C_alloc ?_ _) | (with_reducible refine Kd.C_drewN ?_ _) | (with_reducible refine Kd.C_drew ?_))); (case side4 => exact HC2.out); rintro e w53 ⟨v686, v689, rfl, ho0, ho1, hb⟩; refine ⟨_, rfl, ?_⟩; have n0_ := Aside0.mk (Kd.R_below (by (with_reducible repeat (first | apply Kd.R_alloc | apply Kd.R_drewN | apply Kd.R_drew)); exact HO_682000.out) hb); have n1_ := Aside0.mk (Kd.R_below (by (with_reducible repeat (first | apply Kd.R_alloc | apply Kd.R_drewN | apply Kd.R_drew)); exact HO_682001.out) hb); have n2_ := Aside0.mk (Kd.V_lower (Kd.V_mono (ok' := fun k_ => k_ ≠ gb681) ho0 (fun k_ hk_ => Or.elim hk_ (fun hs_ => Or.elim hs_ (fun hs_ => ((Kd.R_types (Kd.R_apart' (HO_682000.out) (Kd.R_typed HO_682001.out) (by decide)) BK681.out (by decide)).1 k_ hs_.symm).2) (fun hs_ => ((Kd.R_types (Kd.R_apart' (HO_682001.out) (Kd.R_typed HO_682000.out) (by decide)) BK681.out (by decide)).1 k_ hs_.symm).2)) (fun hn_ => (Kd.freshB (g := gb681) (o := .cells #[.slice Ao10 t674.length co10, .slice Ao12 t677.length co12] 25 (0, 0)) (by (with_reducible repeat (first | refine blk_drewN ?_ _ | refine blk_drew ?_ | refine blk_alloc ?_ _)); exact BK681.out) k_ hn_)))) (below_size (by repeat (first | (with_reducible first | exact HB.out | apply below_alloc | apply pw_below_drewN | apply below_drew1 | refine below_set ?_ GE681.out) | exact HB.out)))); have n3_ := Aside0.mk (Kd.V_lower (Kd.V_mono (ok' := fun k_ => k_ ≠ gb681) ho1 (fun k_ hk_ => Or.elim hk_ (fun hs_ => Or.elim hs_ (fun hs_ => ((Kd.R_types (Kd.R_apart' (HO_682000.out) (Kd.R_typed HO_682001.out) (by decide)) BK681.out (by decide)).1 k_ hs_.symm).2) (fun hs_ => ((Kd.R_types (Kd.R_apart' (HO_682001.out) (Kd.R_typed HO_682000.out) (by decide)) BK681.out (by decide)).1 k_ hs_.symm).2)) (fun hn_ => (Kd.freshB (g := gb681) (o := .cells #[.slice Ao10 t674.length co10, .slice Ao12 t677.length co12] 25 (0, 0)) (by (with_reducible repeat (first | refine blk_drewN ?_ _ | refine blk_drew ?_ | refine blk_alloc ?_ _)); exact BK681.out) k_ hn_)))) (below_size (by repeat (first | (with_reducible first | exact HB.out | apply below_alloc | apply pw_below_drewN | apply below_drew1 | refine below_set ?_ GE681.out) | exact HB.out)))); have n4_ := Aside0.mk (blk_below (g := gb681) (o := .cells #[.slice Ao10 t674.length co10, .slice Ao12 t677.length co12] 25 (0, 0)) (by (with_reducible repeat (first | refine blk_drewN ?_ _ | refine blk_drew ?_ | refine blk_alloc ?_ _)); exact BK681.out) hb); have n5_ := Aside0.mk (below_step (by repeat (first | (with_reducible first | exact HB.out | apply below_alloc | apply pw_below_drewN | apply below_drew1 | refine below_set ?_ GE681.out) | exact HB.out)) hb); clear HO_682000; clear HO_682001; clear BK681; clear HB; have HO_682000 := n0_; have HO_682001 := n1_; have HO687 := n2_; have HO690 := n3_; have BK681 := n4_; have HB := n5_; clear n0_ n1_ n2_ n3_ n4_ n5_; (try clear hb); (try clear hb2); (try clear hk); (try clear hi); (try clear ho0); (try clear ho1)) | ((with_reducible refine gate_dst (N := 14) rfl ?_); (try (refine gate_guard (by rfl) ?_; dsimp only)); refine box_event ?hg (N := 14) ?hd (cs := #[.slice none 0 0, .slice none 0 0]) (t := 25) ?hr ?_; (case hd => rfl); (case hg => rfl); (case hr => first | (go_simp; done) | (go_simp; rfl)); intro gb693 hg w54 hbox hb; have n0_ := Aside0.mk (Kd.R_below (by (with_reducible repeat (first | apply Kd.R_alloc | apply Kd.R_drewN | apply Kd.R_drew)); exact HO_682000.out) hb); have n1_ := Aside0.mk (Kd.R_below (by (with_reducible repeat (first | apply Kd.R_alloc | apply Kd.R_drewN | apply Kd.R_drew)); exact HO_682001.out) hb); have n2_ := Aside0.mk (Kd.V_below (Kd.V_elderB (by (with_reducible repeat (first | apply Kd.V_alloc | apply Kd.V_drewN | apply Kd.V_drew)); exact HO687.out) gb693 (Nat.le_of_eq hg.symm)) hb); have n3_ := Aside0.mk (Kd.V_below (Kd.V_elderB (by (with_reducible repeat (first | apply Kd.V_alloc | apply Kd.V_drewN | apply Kd.V_drew)); exact HO690.out) gb693 (Nat.le_of_eq hg.symm)) hb); have n4_ := Aside0.mk (blk_below (g := gb681) (o := .cells #[.slice Ao10 t674.length co10, .slice Ao12 t677.length co12] 25 (0, 0)) (by (with_reducible repeat (first | refine blk_drewN ?_ _ | refine blk_drew ?_ | refine blk_alloc ?_ _)); exact BK681.out) hb); have n5_ := Aside0.mk (below_step (by repeat (first | (with_reducible first | exact HB.out | apply below_alloc | apply pw_below_drewN | apply below_drew1 | refine below_set ?_ GE681.out) | exact HB.out)) hb); have n6_ := Aside0.mk (hbox); have n7_ := Aside0.mk ((by rw [hg]; exact (below_size (by repeat (first | (with_reducible first | exact HB.out | apply below_alloc | apply pw_below_drewN | apply below_drew1 | refine below_set ?_ GE681.out) | exact HB.out))) : w.heap.size ≤ gb693)); have n8_ := Aside0.mk ((by rw [hg]; exact (below_size (by repeat (first | (with_reducible first | exact HB.out | apply below_alloc | apply pw_below_drewN | apply below_drew1 | refine below_set ?_ GE681.out) | exact HB.out))) : w.heap.size ≤ gb693)); have n9_ := Aside0.mk ((by rw [hg]; exact Nat.ne_of_lt (blk_lt (g := gb681) (o := .cells #[.slice Ao10 t674.length co10, .slice Ao12 t677.length co12] 25 (0, 0)) (by (with_reducible repeat (first | refine blk_drewN ?_ _ | refine blk_drew ?_ | refine blk_alloc ?_ _)); exact BK681.out)) : gb681 ≠ gb693)); have n10_ := Aside0.mk ((by rw [hg]; exact Nat.ne_of_gt (blk_lt (g := gb681) (o := .cells #[.slice Ao10 t674.length co10, .slice Ao12 t677.length co12] 25 (0, 0)) (by (with_reducible repeat (first | refine blk_drewN ?_ _ | refine blk_drew ?_ | refine blk_alloc ?_ _)); exact BK681.out)) : gb693 ≠ gb681)); clear HO_682000; clear HO_682001; clear HO687; clear HO690; clear BK681; clear HB; have HO_682000 := n0_; have HO_682001 := n1_; have HO687 := n2_; have HO690 := n3_; have BK681 := n4_; have HB := n5_; have BK693 := n6_; have GW693 := n7_; have GE693 := n8_; have NB681_693 := n9_; have NB693_681 := n10_; clear n0_ n1_ n2_ n3_ n4_ n5_ n6_ n7_ n8_ n9_ n10_; clear hb hbox hg; obtain ⟨Ao55, co55, eo55⟩ := Kd.V_slice HO687.out; subst eo55; have hnb56 := NB693_681.out; have hnc56 := NB681_693.out; have hcz57_0 : w54.cell? ⟨gb693, 0, none⟩ = some (.slice none 0 0) := (blk_cell BK693.out 0).trans rfl; have hcz57_1 : w54.cell? ⟨gb693, 1, none⟩ = some (.slice none 0 0) := (blk_cell BK693.out 1).trans rfl; have hfz57_0 := blk_frozen BK693.out 0; have hfz57_1 := blk_frozen BK693.out 1; obtain ⟨Ao58, co58, eo58⟩ := Kd.V_slice HO690.out; subst eo58) | (go_at_call 27; (with_reducible refine (weirkeeperlaw08_awake.calls k1 _ A51.out).mono ?_); rintro e w59 ⟨rfl, hb⟩; have n0_ := Aside0.mk (Kd.R_below (by (with_reducible repeat (first | apply Kd.R_alloc | apply Kd.R_drewN | apply Kd.R_drew)); exact (Kd.R_mono (Kd.R_far (p := ⟨gb693, 1, none⟩) (Kd.R_far (p := ⟨gb693, 0, none⟩) (Kd.R_types HO_682000.out BK693.out (by decide)) (fun _ hk => hk.2) (.slice Ao55 t685.length co55)) (fun _ hk => hk.2) (.slice Ao58 t688.length co58)) (fun _ h_ => h_.1))) hb); have n1_ := Aside0.mk (Kd.R_below (by (with_reducible repeat (first | apply Kd.R_alloc | apply Kd.R_drewN | apply Kd.R_drew)); exact (Kd.R_mono (Kd.R_far (p := ⟨gb693, 1, none⟩) (Kd.R_far (p := ⟨gb693, 0, none⟩) (Kd.R_types HO_682001.out BK693.out (by decide)) (fun _ hk => hk.2) (.slice Ao55 t685.length co55)) (fun _ hk => hk.2) (.slice Ao58 t688.length co58)) (fun _ h_ => h_.1))) hb); have n2_ := Aside0.mk (Kd.V_below (by (with_reducible repeat (first | apply Kd.V_alloc | apply Kd.V_drewN | apply Kd.V_drew)); exact (Kd.V_mono (Kd.V_far (p := ⟨gb693, 1, none⟩) (Kd.V_far (p := ⟨gb693, 0, none⟩) (Kd.V_mono HO687.out (fun k_ hk => (⟨hk, hk.2⟩ : _ ∧ k_ ≠ gb693))) (fun _ hk => hk.2) (.slice Ao55 t685.length co55)) (fun _ hk => hk.2) (.slice Ao58 t688.length co58)) (fun _ h_ => h_.1))) hb); have n3_ := Aside0.mk (Kd.V_below (by (with_reducible repeat (first | apply Kd.V_alloc | apply Kd.V_drewN | apply Kd.V_drew)); exact (Kd.V_mono (Kd.V_far (p := ⟨gb693, 1, none⟩) (Kd.V_far (p := ⟨gb693, 0, none⟩) (Kd.V_mono HO690.out (fun k_ hk => (⟨hk, hk.2⟩ : _ ∧ k_ ≠ gb693))) (fun _ hk => hk.2) (.slice Ao55 t685.length co55)) (fun _ hk => hk.2) (.slice Ao58 t688.length co58)) (fun _ h_ => h_.1))) hb); have n4_ := Aside0.mk (blk_below (g := gb681) (o := .cells #[.slice Ao10 t674.length co10, .slice Ao12 t677.length co12] 25 (0, 0)) (by (with_reducible repeat (first | refine blk_drewN ?_ _ | refine blk_drew ?_ | refine blk_alloc ?_ _)); refine blk_far ?_ NB681_693.out _; (with_reducible repeat (first | refine blk_drewN ?_ _ | refine blk_drew ?_ | refine blk_alloc ?_ _)); refine blk_far ?_ NB681_693.out _; (with_reducible repeat (first | refine blk_drewN ?_ _ | refine blk_drew ?_ | refine blk_alloc ?_ _)); exact BK681.out) hb); have n5_ := Aside0.mk (blk_below (g := gb693) (o := .cells #[.slice Ao55 t685.length co55, .slice Ao58 t688.length co58] 25 (0, 0)) (by (with_reducible repeat (first | refine blk_drewN ?_ _ | refine blk_drew ?_ | refine blk_alloc ?_ _)); refine blk_put (cs := #[.slice Ao55 t685.length co55, .slice none 0 0]) ?_ 1 _ rfl; (with_reducible repeat (first | refine blk_drewN ?_ _ | refine blk_drew ?_ | refine blk_alloc ?_ _)); refine blk_put (cs := #[.slice none 0 0, .slice none 0 0]) ?_ 0 _ rfl; (with_reducible repeat (first | refine blk_drewN ?_ _ | refine blk_drew ?_ | refine blk_alloc ?_ _)); exact BK693.out) hb); have n6_ := Aside0.mk (below_step (by repeat (first | (with_reducible first | exact HB.out | apply below_alloc | apply pw_below_drewN | apply below_drew1 | refine below_set ?_ GE681.out | refine below_set ?_ GE693.out) | exact HB.out)) hb); clear HO_682000; clear HO_682001; clear HO687; clear HO690; clear BK681; clear BK693; clear HB; have HO_682000 := n0_; have HO_682001 := n1_; have HO687 := n2_; have HO690 := n3_; have BK681 := n4_; have BK693 := n5_; have HB := n6_; clear n0_ n1_ n2_ n3_ n4_ n5_ n6_; (try clear hb); (try clear hb2); (try clear hk); (try clear hi)))
                    go_ret
                    exact ⟨by first | rfl | (simp only [h9_.out]; done) | (have h8_ := h9_.out; simp [h8_]; done) | (simp [errW_none, errW_some] <;> rfl) | (simp [*, errW_none, errW_some] <;> rfl), by repeat (first | (with_reducible first | exact HB.out | apply below_alloc | apply pw_below_drewN | apply below_drew1 | refine below_set ?_ GE681.out | refine below_set ?_ GE693.out) | exact HB.out)⟩
                  · rw [if_neg c50] at H
                    have c50b0 : ((t688.length : Int) == x11_1) = false := beq_eq_false_iff_ne.mpr c50
                    have c50b1 : ((t688.length : Int) != x11_1) = true := bne_iff_ne.mpr c50
                    exact absurd H (by simp)
                · rw [if_neg c49] at H
                  have c49b0 : (t691 == (wrap64 ((Int.tmod (wrap64 (a1)) 129) + x11_1))) = false := beq_eq_false_iff_ne.mpr c49
                  have c49b1 : (t691 != (wrap64 ((Int.tmod (wrap64 (a1)) 129) + x11_1))) = true := bne_iff_ne.mpr c49
                  exact absurd H (by simp)
              · rw [if_neg c48] at H
                have c48b0 : (t692 == 0) = false := beq_eq_false_iff_ne.mpr c48
                have c48b1 : (t692 != 0) = true := bne_iff_ne.mpr c48
                exact absurd H (by simp)
            · rw [if_neg c47] at H
              have c47b0 : (t680 == 0) = false := beq_eq_false_iff_ne.mpr c47
              have c47b1 : (t680 != 0) = true := bne_iff_ne.mpr c47
              exact absurd H (by simp)

end Go.Proofs.Ytpkapldkmleppaa.F
