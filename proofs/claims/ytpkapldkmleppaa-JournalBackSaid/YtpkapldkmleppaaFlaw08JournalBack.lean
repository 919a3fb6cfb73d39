/- Contracts of Go functions of the seat Ytpkapldkmleppaa: what a call comes to; no condition but those that each theorem names. -/
import Derived.Test.YtpkapldkmleppaaFPre
import Derived.Test.YtpkapldkmleppaaFdiskC
import Derived.Test.YtpkapldkmleppaaFdiskN
import Derived.Test.YtpkapldkmleppaaFjournalx2
import Derived.Test.YtpkapldkmleppaaFjournalx0
import Derived.Test.YtpkapldkmleppaaFjournalx1
import Derived.Test.YtpkapldkmleppaaFlaw08awake
import Derived.Test.YtpkapldkmleppaaFref01
namespace Go.Proofs.Ytpkapldkmleppaa.F
open Go.RowKit Go.Proofs.YtpkapldkmleppaaW.PrintWords Go.Proofs.YtpkapldkmleppaaW.PrintLast Go.Proofs.YtpkapldkmleppaaW.PrintMore
attribute [local go_sem] max2_int min2_int max_two min_two max_three min_three max_four min_four   -- for this text's walks alone
set_option linter.unusedVariables false
set_option linter.unusedSimpArgs false

attribute [local go_sem] fieldD25_0 fieldD25_1
/-! ### weirkeeperlaw08_JournalBack: function 10 -/
def weirkeeperlaw08_JournalBack.l0 : Nat → Int → Int → List ByteArray → List ByteArray → Int → Int → List ByteArray → List (S76) → Option (Bool)
  | 0, _, _, _, _, _, _, _, _ => none
  | k + 1, x5, x8, x9, x36, x37, x38, x453000, x453001 => if x38 < x37 then (if 0 ≤ x38 then (if x38 < (x36.length : Int) then (if ((rdOf ByteArray.empty x36 x38).size : Int) > 300 then ((weirkeeperlaw08_awake.f k).bind fun t454 => (some t454)) else ((journal_Append.f k x453000 x453001 x5 x8 (([rdOf ByteArray.empty x36 x38] : List ByteArray))).bind fun bt458 => (if bt458.2.2.2 = 0 then (if x9.length < 8796093022208 then ((some (x9 ++ [rdOf ByteArray.empty x36 x38] : List ByteArray)).bind fun y469 => ((journal_Texts.f k bt458.1 bt458.2.1 x5).bind fun bt472 => (if bt472.2.2 = 0 then (if bt472.2.1 = bt458.2.2.1 then ((weirkeeperref01_Same.f k bt472.1 y469).bind fun t477 => (if t477 = true then (weirkeeperlaw08_JournalBack.l0 k x5 bt458.2.2.1 y469 x36 x37 (wrap64 (x38 + 1)) bt458.1 bt458.2.1) else (some false))) else (some false)) else (some false)))) else (none)) else (if bt458.2.2.2 = 6 then (if bt458.2.2.1 = x8 then ((journal_Need.f ((rdOf ByteArray.empty x36 x38).size : Int)).bind fun t467 => (if (wrap64 (x8 + t467)) > 128 then ((weirkeeperlaw08_awake.f k).bind fun t468 => (some t468)) else (some false))) else (some false)) else (some false))))) else (none)) else (none)) else ((disk_Flush.f x453000 x453001).bind fun bt478 => ((journal_Texts.f k bt478.1 bt478.2 x5).bind fun bt484 => ((journal_Texts.f k x453000 x453001 (wrap64 (x5 + 1))).bind fun bt489 => (if bt484.2.2 = 0 then (if bt484.2.1 = x8 then ((weirkeeperref01_Same.f k bt484.1 x9).bind fun t494 => (if t494 = true then (if bt489.2.2 = 0 then (if (bt489.1.length : Int) = 0 then (if bt489.2.1 = 0 then ((weirkeeperlaw08_awake.f k).bind fun t495 => (some t495)) else (some false)) else (some false)) else (some false)) else (some false))) else (some false)) else (some false)))))
def weirkeeperlaw08_JournalBack.f (k : Nat) (a0 : Int) (l1 : List ByteArray) : Option (Bool) := if (l1.length : Int) > 20 then ((weirkeeperlaw08_awake.f k).bind fun t444 => (some t444)) else ((disk_New.f 130).bind fun bt445 => (weirkeeperlaw08_JournalBack.l0 k (wrap64 (1 + (wrap64 (Int.tmod a0 2147483646)))) 0 ([] : List ByteArray) l1 (l1.length : Int) 0 bt445.1 bt445.2.1))
theorem weirkeeperlaw08_JournalBack.mono_l : ∀ k, (∀ y0 y1 y2 y3 y4 y5 y6 y7, LeO (weirkeeperlaw08_JournalBack.l0 k y0 y1 y2 y3 y4 y5 y6 y7) (weirkeeperlaw08_JournalBack.l0 (k + 1) y0 y1 y2 y3 y4 y5 y6 y7))
  | 0 => fun _ _ _ _ _ _ _ _ r h => by simp [weirkeeperlaw08_JournalBack.l0] at h
  | k + 1 => by
    have ih0 := weirkeeperlaw08_JournalBack.mono_l k
    · intro y0 y1 y2 y3 y4 y5 y6 y7
      unfold weirkeeperlaw08_JournalBack.l0
      repeat' first
      | (with_reducible exact ih0 _ _ _ _ _ _ _ _)
      | (with_reducible exact journal_Append.mono _ _ _ _ _ _)
      | (with_reducible exact journal_Texts.mono _ _ _ _)
      | (with_reducible exact weirkeeperlaw08_awake.mono _)
      | (with_reducible exact weirkeeperref01_Same.mono _ _ _)
      | (with_reducible exact LeO.refl _)
      | (with_reducible exact LeO.none _)
      | (with_reducible refine LeO.ite ?_ ?_)
      | (with_reducible refine LeO.bind ?_ (fun _ => ?_))
      | exact ih0 _ _ _ _ _ _ _ _
      | exact journal_Append.mono _ _ _ _ _ _
      | exact journal_Texts.mono _ _ _ _
      | exact weirkeeperlaw08_awake.mono _
      | exact weirkeeperref01_Same.mono _ _ _
      | exact LeO.none _
      | refine LeO.ite ?_ ?_
      | refine LeO.bind ?_ (fun _ => ?_)
theorem weirkeeperlaw08_JournalBack.mono : ∀ a0 a1 k, LeO (weirkeeperlaw08_JournalBack.f k a0 a1) (weirkeeperlaw08_JournalBack.f (k + 1) a0 a1) := by
  intro a0 a1 k
  have ih0 := weirkeeperlaw08_JournalBack.mono_l k
  unfold weirkeeperlaw08_JournalBack.f
  repeat' first
      | (with_reducible exact ih0 _ _ _ _ _ _ _ _)
      | (with_reducible exact journal_Append.mono _ _ _ _ _ _)
      | (with_reducible exact journal_Texts.mono _ _ _ _)
      | (with_reducible exact weirkeeperlaw08_awake.mono _)
      | (with_reducible exact weirkeeperref01_Same.mono _ _ _)
      | (with_reducible exact LeO.refl _)
      | (with_reducible exact LeO.none _)
      | (with_reducible refine LeO.ite ?_ ?_)
      | (with_reducible refine LeO.bind ?_ (fun _ => ?_))
      | exact ih0 _ _ _ _ _ _ _ _
      | exact journal_Append.mono _ _ _ _ _ _
      | exact journal_Texts.mono _ _ _ _
      | exact weirkeeperlaw08_awake.mono _
      | exact weirkeeperref01_Same.mono _ _ _
      | exact LeO.none _
      | refine LeO.ite ?_ ?_
      | refine LeO.bind ?_ (fun _ => ?_)
def weirkeeperlaw08_JournalBack.T15 : Bool × List (List Nat × List Nat) := (true, [([], []), ([], []), ([], []), ([], []), ([3], [3]), ([2, 4], [2, 4]), ([0, 5, 0], [0]), ([1, 6, 0, 1, 6], [1]), ([5, 7, 0, 1, 2, 3, 4, 5, 6, 7], [2, 5])])
def weirkeeperlaw08_JournalBack.B15 : List Nat := [0, 0, 0, 0, 8, 28, 61, 127, 255]
theorem weirkeeperlaw08_JournalBack.tab15 : rtab .any (opsOf Try.f10 15) = weirkeeperlaw08_JournalBack.T15 := by kernel_rfl
theorem weirkeeperlaw08_JournalBack.bits15 : waitsOk weirkeeperlaw08_JournalBack.T15.2 weirkeeperlaw08_JournalBack.B15 = true := by kernel_rfl
set_option maxHeartbeats 8000000 in
set_option maxRecDepth 100000 in
theorem weirkeeperlaw08_JournalBack.calls (k : Nat) (a0 : Int) (A1 : Option Addr) (c1 : Nat) (l1 : List ByteArray) (w : World) (hr1 : Kd.C Kd.string w A1 l1.length l1) (hc1 : l1.length ≤ c1) (h : weirkeeperlaw08_JournalBack.f k a0 l1 = some true) :
    Calls Try.prog 10 #[.int .u32 a0, .slice A1 l1.length c1] w fun e w' => e = .returned (.bool true) ∧ Below w.heap.size w w' := by
  have hu25 := Try.underlying25
  have HR1 := Aside0.mk hr1
  have HC1 := Aside0.mk hc1
  clear hr1 hc1
  have HB := Aside0.mk (Below.refl w.heap.size w)
  have H : (if (l1.length : Int) > 20 then ((weirkeeperlaw08_awake.f k).bind fun t444 => (some t444)) else ((disk_New.f 130).bind fun bt445 => (weirkeeperlaw08_JournalBack.l0 k (wrap64 (1 + (wrap64 (Int.tmod a0 2147483646)))) 0 ([] : List ByteArray) l1 (l1.length : Int) 0 bt445.1 bt445.2.1))) = some true := h
  clear h
  by_cases c3 : (l1.length : Int) > 20
  · rw [if_pos c3] at H
    have c3b0 : decide (20 < (l1.length : Int)) = true := decide_eq_true c3
    have c3b1 : decide (20 < l1.length) = true := decide_eq_true (by omega)
    clear c3
    replace H := Option.bind_eq_some_iff.mp H
    obtain ⟨t444, A40, H⟩ := H
    replace H : (some t444) = some true := H
    have A4 := Aside0.mk A40
    clear A40
    (have H9_ := Option.some.inj H; first | subst H9_ | (have h9_ := Aside0.mk H9_; clear H9_))
    go_enter Try.func10, Try.ntmps10
    go_wp2_with (first | ((with_reducible refine gate_callee (f := 27) rfl ?_); refine goesL_ (some 27) rfl rfl Try.func27 (by kernel_rfl) rfl #[] rfl (by (try simp only [List.map_toArray, List.map_cons, List.map_nil]); first | done | rfl | (simp only [List.length_drop, List.length_take]; rfl)) ?_; (with_reducible refine (weirkeeperlaw08_awake.calls k _ A4.out).mono ?_); rintro e w5 ⟨rfl, hb⟩; refine ⟨_, rfl, ?_⟩; have n0_ := Aside0.mk (below_step (by repeat (first | (with_reducible first | exact HB.out | apply below_alloc | apply pw_below_drewN | apply below_drew1) | exact HB.out)) hb); clear HB; have HB := n0_; clear n0_; (try clear hb); (try clear hb2); (try clear hk); (try clear hi)))
    go_ret
    exact ⟨by first | rfl | (simp only [h9_.out]; done) | (have h8_ := h9_.out; simp [h8_]; done) | (simp [errW_none, errW_some] <;> rfl) | (simp [*, errW_none, errW_some] <;> rfl), by repeat (first | (with_reducible first | exact HB.out | apply below_alloc | apply pw_below_drewN | apply below_drew1) | exact HB.out)⟩
  · rw [if_neg c3] at H
    have c3b0 : decide (20 < (l1.length : Int)) = false := decide_eq_false c3
    have c3b1 : decide (20 < l1.length) = false := decide_eq_false (by omega)
    clear c3
    replace H := Option.bind_eq_some_iff.mp H
    obtain ⟨⟨t445, t448, t451⟩, A60, H⟩ := H
    replace H : (weirkeeperlaw08_JournalBack.l0 k (wrap64 (1 + (wrap64 (Int.tmod a0 2147483646)))) 0 ([] : List ByteArray) l1 (l1.length : Int) 0 t445 t448) = some true := H
    have A6 := Aside0.mk A60
    clear A60
    have H' := Aside0.mk H
    clear H
    go_enter Try.func10, Try.ntmps10
    go_wp2_with (first | ((with_reducible refine gate_callee (f := 24) rfl ?_); refine goesL_ (some 33) rfl rfl Try.func24 (by kernel_rfl) rfl #[.int .i64 130] rfl (by (try simp only [List.map_toArray, List.map_cons, List.map_nil]); first | done | rfl | (simp only [List.length_drop, List.length_take]; rfl)) ?_; (with_reducible refine (disk_New.calls 130 t445 t448 t451 _ A6.out).mono ?_); rintro e w7 ⟨v446, v449, rfl, ho0, ho1, hb⟩; refine ⟨_, rfl, ?_⟩; have n0_ := Aside0.mk (Kd.R_lower ho0 (below_size (by repeat (first | (with_reducible first | exact HB.out | apply below_alloc | apply pw_below_drewN | apply below_drew1) | exact HB.out)))); have n1_ := Aside0.mk (Kd.R_lower ho1 (below_size (by repeat (first | (with_reducible first | exact HB.out | apply below_alloc | apply pw_below_drewN | apply below_drew1) | exact HB.out)))); have n2_ := Aside0.mk (below_step (by repeat (first | (with_reducible first | exact HB.out | apply below_alloc | apply pw_below_drewN | apply below_drew1) | exact HB.out)) hb); clear HB; have HO447 := n0_; have HO450 := n1_; have HB := n2_; clear n0_ n1_ n2_; (try clear hb); (try clear hb2); (try clear hk); (try clear hi); (try clear ho0); (try clear ho1)) | ((with_reducible refine gate_dst (N := 6) rfl ?_); (try (refine gate_guard (by rfl) ?_; dsimp only)); refine box_event ?hg (N := 6) ?hd (cs := #[.slice none 0 0, .slice none 0 0]) (t := 25) ?hr ?_; (case hd => rfl); (case hg => rfl); (case hr => first | (go_simp; done) | (go_simp; rfl)); intro gb452 hg w8 hbox hb; have n0_ := Aside0.mk (Kd.R_below (by (with_reducible repeat (first | apply Kd.R_alloc | apply Kd.R_drewN | apply Kd.R_drew)); exact HO447.out) hb); have n1_ := Aside0.mk (Kd.R_below (by (with_reducible repeat (first | apply Kd.R_alloc | apply Kd.R_drewN | apply Kd.R_drew)); exact HO450.out) hb); have n2_ := Aside0.mk (below_step (by repeat (first | (with_reducible first | exact HB.out | apply below_alloc | apply pw_below_drewN | apply below_drew1) | exact HB.out)) hb); have n3_ := Aside0.mk (hbox); have n4_ := Aside0.mk ((by rw [hg]; exact (below_size (by repeat (first | (with_reducible first | exact HB.out | apply below_alloc | apply pw_below_drewN | apply below_drew1) | exact HB.out))) : w.heap.size ≤ gb452)); have n5_ := Aside0.mk ((by rw [hg]; exact (below_size (by repeat (first | (with_reducible first | exact HB.out | apply below_alloc | apply pw_below_drewN | apply below_drew1) | exact HB.out))) : w.heap.size ≤ gb452)); clear HO447; clear HO450; clear HB; have HO447 := n0_; have HO450 := n1_; have HB := n2_; have BK452 := n3_; have GW452 := n4_; have GE452 := n5_; clear n0_ n1_ n2_ n3_ n4_ n5_; clear hb hbox hg; obtain ⟨Ao9, co9, eo9⟩ := Kd.R_slice HO447.out; subst eo9; have hcz10_0 : w8.cell? ⟨gb452, 0, none⟩ = some (.slice none 0 0) := (blk_cell BK452.out 0).trans rfl; have hcz10_1 : w8.cell? ⟨gb452, 1, none⟩ = some (.slice none 0 0) := (blk_cell BK452.out 1).trans rfl; have hfz10_0 := blk_frozen BK452.out 0; have hfz10_1 := blk_frozen BK452.out 1; obtain ⟨Ao11, co11, eo11⟩ := Kd.R_slice HO450.out; subst eo11))
    go_loopg [8, 9, 38] k (fun kq v8 v9 v38 w' => ∃ (x8_1 : Int) (x9_1 : List ByteArray) (x38_1 : Int) (x453000_1 : List ByteArray) (x453001_1 : List (S76)) (u453000 : Value) (u453001 : Value), v8 = .int .i64 x8_1 ∧ v38 = .int .i64 x38_1 ∧ Aside0 (weirkeeperlaw08_JournalBack.l0 kq (wrap64 (1 + (wrap64 (Int.tmod a0 2147483646)))) x8_1 x9_1 l1 (l1.length : Int) x38_1 x453000_1 x453001_1 = some true) ∧ Aside0 (kq ≤ k) ∧ Aside0 (Kd.R Kd.string 9 w' w.heap.size (fun k_ => some k_ ≠ (u453000 : Value).ownBlock) v9 x9_1) ∧ Aside0 (Kd.R Kd.string 9 w' w.heap.size (fun k_ => some k_ ≠ (v9 : Value).ownBlock) u453000 x453000_1) ∧ Aside0 (Kd.R k76 76 w' w.heap.size (fun _ => True) u453001 x453001_1) ∧ Aside0 (w'.heap[gb452]? = some (.cells #[u453000, u453001] 25 (0, 0))) ∧ Aside0 (Below w.heap.size w w'))
    case atStart => exact ⟨(0), (([] : List ByteArray)), (0), (t445), (t448), (.slice Ao9 t445.length co9), (.slice Ao11 t448.length co11), (by first | rfl | (simp; done) | (simp [*]; done)), (by first | rfl | (simp; done) | (simp [*]; done)), H', ⟨Nat.le_refl _⟩, ⟨by first | exact Kd.R_nil _ _ _ _ _ | exact Kd.N_nil _ _ _ _ _ | exact Kd.V_nil _ _ _ _ _ | exact Kd.Q_nil _ _ _ _ _ | exact Kd.S_nil _ _ _ _ _⟩, ⟨by (with_reducible repeat (first | apply Kd.R_alloc | apply Kd.R_drewN | apply Kd.R_drew)); exact Kd.R_mono (Kd.R_far (p := ⟨gb452, 1, none⟩) (Kd.R_far (p := ⟨gb452, 0, none⟩) (Kd.R_types HO447.out BK452.out (by decide)) (fun _ hk => hk.2) (.slice Ao9 t445.length co9)) (fun _ hk => hk.2) (.slice Ao11 t448.length co11)) (fun _ hk => (by simp [Value.ownBlock]))⟩, ⟨by (with_reducible repeat (first | apply Kd.R_alloc | apply Kd.R_drewN | apply Kd.R_drew)); exact Kd.R_mono (Kd.R_far (p := ⟨gb452, 1, none⟩) (Kd.R_far (p := ⟨gb452, 0, none⟩) (Kd.R_types HO450.out BK452.out (by decide)) (fun _ hk => hk.2) (.slice Ao9 t445.length co9)) (fun _ hk => hk.2) (.slice Ao11 t448.length co11)) (fun _ hk => trivial)⟩, ⟨by (with_reducible repeat (first | refine blk_drewN ?_ _ | refine blk_drew ?_ | refine blk_alloc ?_ _)); refine blk_put (cs := #[.slice Ao9 t445.length co9, .slice none 0 0]) ?_ 1 _ rfl; (with_reducible repeat (first | refine blk_drewN ?_ _ | refine blk_drew ?_ | refine blk_alloc ?_ _)); refine blk_put (cs := #[.slice none 0 0, .slice none 0 0]) ?_ 0 _ rfl; (with_reducible repeat (first | refine blk_drewN ?_ _ | refine blk_drew ?_ | refine blk_alloc ?_ _)); exact BK452.out⟩, ⟨by repeat (first | (with_reducible first | exact HB.out | apply below_alloc | apply pw_below_drewN | apply below_drew1 | refine below_set ?_ GE452.out) | exact HB.out)⟩⟩
    case round =>
      clear H'
      try clear c1
      try clear c2
      try clear p2
      try clear c3
      try clear c3b0
      try clear c3b1
      try clear p6
      try clear c10
      try clear hcz10_0
      try clear hcz10_1
      try clear hfz10_0
      try clear hfz10_1
      obtain ⟨x8_1, x9_1, x38_1, x453000_1, x453001_1, u453000, u453001, rfl, rfl, HA, HK1, HO_9, HO_453000, HO_453001, BK452, HB⟩ := hrel
      cases gk with
      | zero => exact absurd HA.out (by simp [weirkeeperlaw08_JournalBack.l0])
      | succ k1 =>
        have H := HA.out
        clear HA
        simp only [weirkeeperlaw08_JournalBack.l0] at H
        by_cases c12 : x38_1 < (l1.length : Int)
        · rw [if_pos c12] at H
          have c12b0 : decide (x38_1 < (l1.length : Int)) = true := decide_eq_true c12
          clear c12
          by_cases c13 : 0 ≤ x38_1
          · rw [if_pos c13] at H
            have c13b0 : decide (0 ≤ x38_1) = true := decide_eq_true c13
            clear c13
            by_cases c14 : x38_1 < (l1.length : Int)
            · rw [if_pos c14] at H
              have c14b0 : decide (x38_1 < (l1.length : Int)) = true := decide_eq_true c14
              clear c14
              by_cases c15 : ((rdOf ByteArray.empty l1 x38_1).size : Int) > 300
              · rw [if_pos c15] at H
                have c15b0 : decide (300 < ((rdOf ByteArray.empty l1 x38_1).size : Int)) = true := decide_eq_true c15
                have c15b1 : decide (300 < (rdOf ByteArray.empty l1 x38_1).size) = true := decide_eq_true (by omega)
                clear c15
                replace H := Option.bind_eq_some_iff.mp H
                obtain ⟨t454, A160, H⟩ := H
                replace H : (some t454) = some true := H
                have A16 := Aside0.mk A160
                clear A160
                (have H9_ := Option.some.inj H; first | subst H9_ | (have h9_ := Aside0.mk H9_; clear H9_))
                have p453 : 0 ≤ (x38_1 : Int) := of_decide_eq_true (by first | (with_reducible assumption) | assumption)
                have q453 : x38_1 < (l1.length : Int) := of_decide_eq_true (by first | (with_reducible assumption) | assumption)
                obtain ⟨ad453, e453, hx453_0⟩ := Kd.at_string HR1.out x38_1 p453 q453
                cases e453
                replace hx453_0 := (HB.out.cell (World.block_lt_of_cell? w _ hx453_0)).trans hx453_0
                replace p453 := eq_true p453
                replace q453 := eq_true q453
                go_wp2_with (first | ((with_reducible refine gate_callee (f := 27) rfl ?_); refine goesL_ (some 45) rfl rfl Try.func27 (by kernel_rfl) rfl #[] rfl (by (try simp only [List.map_toArray, List.map_cons, List.map_nil]); first | done | rfl | (simp only [List.length_drop, List.length_take]; rfl)) ?_; (with_reducible refine (weirkeeperlaw08_awake.calls k1 _ A16.out).mono ?_); rintro e w17 ⟨rfl, hb⟩; refine ⟨_, rfl, ?_⟩; have n0_ := Aside0.mk (Kd.R_below (by (with_reducible repeat (first | apply Kd.R_alloc | apply Kd.R_drewN | apply Kd.R_drew)); exact HO_9.out) hb); have n1_ := Aside0.mk (Kd.R_below (by (with_reducible repeat (first | apply Kd.R_alloc | apply Kd.R_drewN | apply Kd.R_drew)); exact HO_453000.out) hb); have n2_ := Aside0.mk (Kd.R_below (by (with_reducible repeat (first | apply Kd.R_alloc | apply Kd.R_drewN | apply Kd.R_drew)); exact HO_453001.out) hb); have n3_ := Aside0.mk (blk_below (g := gb452) (o := .cells #[u453000, u453001] 25 (0, 0)) (by (with_reducible repeat (first | refine blk_drewN ?_ _ | refine blk_drew ?_ | refine blk_alloc ?_ _)); exact BK452.out) hb); have n4_ := Aside0.mk (below_step (by repeat (first | (with_reducible first | exact HB.out | apply below_alloc | apply pw_below_drewN | apply below_drew1 | refine below_set ?_ GE452.out) | exact HB.out)) hb); clear HO_9; clear HO_453000; clear HO_453001; clear BK452; clear HB; have HO_9 := n0_; have HO_453000 := n1_; have HO_453001 := n2_; have BK452 := n3_; have HB := n4_; clear n0_ n1_ n2_ n3_ n4_; (try clear hb); (try clear hb2); (try clear hk); (try clear hi)))
                go_ret
                exact ⟨by first | rfl | (simp only [h9_.out]; done) | (have h8_ := h9_.out; simp [h8_]; done) | (simp [errW_none, errW_some] <;> rfl) | (simp [*, errW_none, errW_some] <;> rfl), by repeat (first | (with_reducible first | exact HB.out | apply below_alloc | apply pw_below_drewN | apply below_drew1 | refine below_set ?_ GE452.out) | exact HB.out)⟩
              · rw [if_neg c15] at H
                have c15b0 : decide (300 < ((rdOf ByteArray.empty l1 x38_1).size : Int)) = false := decide_eq_false c15
                have c15b1 : decide (300 < (rdOf ByteArray.empty l1 x38_1).size) = false := decide_eq_false (by omega)
                clear c15
                obtain ⟨y455, hy455⟩ : ∃ y_ : List ByteArray, y_ = (([rdOf ByteArray.empty l1 x38_1] : List ByteArray)) := ⟨_, rfl⟩
                replace H : ((journal_Append.f k1 x453000_1 x453001_1 (wrap64 (1 + (wrap64 (Int.tmod a0 2147483646)))) x8_1 y455).bind fun bt458 => (if bt458.2.2.2 = 0 then (if x9_1.length < 8796093022208 then ((some (x9_1 ++ [rdOf ByteArray.empty l1 x38_1] : List ByteArray)).bind fun y469 => ((journal_Texts.f k1 bt458.1 bt458.2.1 (wrap64 (1 + (wrap64 (Int.tmod a0 2147483646))))).bind fun bt472 => (if bt472.2.2 = 0 then (if bt472.2.1 = bt458.2.2.1 then ((weirkeeperref01_Same.f k1 bt472.1 y469).bind fun t477 => (if t477 = true then (weirkeeperlaw08_JournalBack.l0 k1 (wrap64 (1 + (wrap64 (Int.tmod a0 2147483646)))) bt458.2.2.1 y469 l1 (l1.length : Int) (wrap64 (x38_1 + 1)) bt458.1 bt458.2.1) else (some false))) else (some false)) else (some false)))) else (none)) else (if bt458.2.2.2 = 6 then (if bt458.2.2.1 = x8_1 then ((journal_Need.f ((rdOf ByteArray.empty l1 x38_1).size : Int)).bind fun t467 => (if (wrap64 (x8_1 + t467)) > 128 then ((weirkeeperlaw08_awake.f k1).bind fun t468 => (some t468)) else (some false))) else (some false)) else (some false)))) = some true := by first | (rw [hy455]; with_reducible exact H) | (have H2_ := (Option.bind_some _ _).symm.trans H; rw [hy455]; with_reducible exact H2_) | (have H2_ := (Option.bind_some _ _).symm.trans H; with_reducible exact H2_) | with_reducible exact H | (rw [hy455]; exact H) | exact H
                have Ny455 := Aside0.mk hy455
                clear hy455
                replace H := Option.bind_eq_some_iff.mp H
                obtain ⟨⟨t458, t461, t464, t465⟩, A180, H⟩ := H
                replace H : (if t465 = 0 then (if x9_1.length < 8796093022208 then ((some (x9_1 ++ [rdOf ByteArray.empty l1 x38_1] : List ByteArray)).bind fun y469 => ((journal_Texts.f k1 t458 t461 (wrap64 (1 + (wrap64 (Int.tmod a0 2147483646))))).bind fun bt472 => (if bt472.2.2 = 0 then (if bt472.2.1 = t464 then ((weirkeeperref01_Same.f k1 bt472.1 y469).bind fun t477 => (if t477 = true then (weirkeeperlaw08_JournalBack.l0 k1 (wrap64 (1 + (wrap64 (Int.tmod a0 2147483646)))) t464 y469 l1 (l1.length : Int) (wrap64 (x38_1 + 1)) t458 t461) else (some false))) else (some false)) else (some false)))) else (none)) else (if t465 = 6 then (if t464 = x8_1 then ((journal_Need.f ((rdOf ByteArray.empty l1 x38_1).size : Int)).bind fun t467 => (if (wrap64 (x8_1 + t467)) > 128 then ((weirkeeperlaw08_awake.f k1).bind fun t468 => (some t468)) else (some false))) else (some false)) else (some false))) = some true := H
                have A18 := Aside0.mk A180
                clear A180
                by_cases c19 : t465 = 0
                · rw [if_pos c19] at H
                  have c19b0 : (t465 == 0) = true := beq_iff_eq.mpr c19
                  have c19b1 : (t465 != 0) = false := bne_eq_false_iff_eq.mpr c19
                  clear c19
                  by_cases c20 : x9_1.length < 8796093022208
                  · rw [if_pos c20] at H
                    have LMc20 := Aside0.mk c20
                    clear c20
                    obtain ⟨y469, hy469⟩ : ∃ y_ : List ByteArray, y_ = (x9_1 ++ [rdOf ByteArray.empty l1 x38_1]) := ⟨_, rfl⟩
                    replace H : ((journal_Texts.f k1 t458 t461 (wrap64 (1 + (wrap64 (Int.tmod a0 2147483646))))).bind fun bt472 => (if bt472.2.2 = 0 then (if bt472.2.1 = t464 then ((weirkeeperref01_Same.f k1 bt472.1 y469).bind fun t477 => (if t477 = true then (weirkeeperlaw08_JournalBack.l0 k1 (wrap64 (1 + (wrap64 (Int.tmod a0 2147483646)))) t464 y469 l1 (l1.length : Int) (wrap64 (x38_1 + 1)) t458 t461) else (some false))) else (some false)) else (some false))) = some true := by first | (rw [hy469]; with_reducible exact H) | (have H2_ := (Option.bind_some _ _).symm.trans H; rw [hy469]; with_reducible exact H2_) | (have H2_ := (Option.bind_some _ _).symm.trans H; with_reducible exact H2_) | with_reducible exact H | (rw [hy469]; exact H) | exact H
                    have Ny469 := Aside0.mk hy469
                    clear hy469
                    replace H := Option.bind_eq_some_iff.mp H
                    obtain ⟨⟨t472, t475, t476⟩, A210, H⟩ := H
                    replace H : (if t476 = 0 then (if t475 = t464 then ((weirkeeperref01_Same.f k1 t472 y469).bind fun t477 => (if t477 = true then (weirkeeperlaw08_JournalBack.l0 k1 (wrap64 (1 + (wrap64 (Int.tmod a0 2147483646)))) t464 y469 l1 (l1.length : Int) (wrap64 (x38_1 + 1)) t458 t461) else (some false))) else (some false)) else (some false)) = some true := H
                    have A21 := Aside0.mk A210
                    clear A210
                    by_cases c22 : t476 = 0
                    · rw [if_pos c22] at H
                      have c22b0 : (t476 == 0) = true := beq_iff_eq.mpr c22
                      have c22b1 : (t476 != 0) = false := bne_eq_false_iff_eq.mpr c22
                      clear c22
                      by_cases c23 : t475 = t464
                      · rw [if_pos c23] at H
                        have c23b0 : (t475 == t464) = true := beq_iff_eq.mpr c23
                        have c23b1 : (t475 != t464) = false := bne_eq_false_iff_eq.mpr c23
                        clear c23
                        replace H := Option.bind_eq_some_iff.mp H
                        obtain ⟨t477, A240, H⟩ := H
                        replace H : (if t477 = true then (weirkeeperlaw08_JournalBack.l0 k1 (wrap64 (1 + (wrap64 (Int.tmod a0 2147483646)))) t464 y469 l1 (l1.length : Int) (wrap64 (x38_1 + 1)) t458 t461) else (some false)) = some true := H
                        have A24 := Aside0.mk A240
                        clear A240
                        by_cases c25 : t477 = true
                        · subst c25
                          have H1 : (weirkeeperlaw08_JournalBack.l0 k1 (wrap64 (1 + (wrap64 (Int.tmod a0 2147483646)))) t464 y469 l1 (l1.length : Int) (wrap64 (x38_1 + 1)) t458 t461) = some true := by rw [if_pos rfl] at H; exact H
                          clear H
                          have H := H1
                          clear H1
                          have H' := Aside0.mk H
                          clear H
                          have p453 : 0 ≤ (x38_1 : Int) := of_decide_eq_true (by first | (with_reducible assumption) | assumption)
                          have q453 : x38_1 < (l1.length : Int) := of_decide_eq_true (by first | (with_reducible assumption) | assumption)
                          obtain ⟨ad453, e453, hx453_0⟩ := Kd.at_string HR1.out x38_1 p453 q453
                          cases e453
                          replace hx453_0 := (HB.out.cell (World.block_lt_of_cell? w _ hx453_0)).trans hx453_0
                          replace p453 := eq_true p453
                          replace q453 := eq_true q453
                          have hcz26_0 : wr.cell? ⟨gb452, 0, none⟩ = some (u453000) := (blk_cell BK452.out 0).trans rfl
                          have hcz26_1 : wr.cell? ⟨gb452, 1, none⟩ = some (u453001) := (blk_cell BK452.out 1).trans rfl
                          have hfz26_0 := blk_frozen BK452.out 0
                          have hfz26_1 := blk_frozen BK452.out 1
                          try go_wp2_with (first | ((with_reducible refine gate_dst (N := 51) rfl ?_); (try (refine gate_guard (by rfl) ?_; dsimp only)); refine Kd.R_lit Kd.string _ 9 ?hg (N := 51) ?hd (xs := ([rdOf ByteArray.empty l1 x38_1] : List ByteArray)) (inner := [.string (rdOf ByteArray.empty l1 x38_1)]) (ok := fun _ => True) (okp := fun _ => True) ?hr ?hp (fun _ hk => hk) trivial (Below.refl _ _) (Nat.le_refl _) (by simp) ?_; (case hd => rfl); (case hg => rfl); (case hr => first | (go_simp; done) | (go_simp; rfl)); (case hp => exact (Reps.one (show Kd.M Kd.string _ _ _ (rdOf ByteArray.empty l1 x38_1) [.string (rdOf ByteArray.empty l1 x38_1)] from rfl) (Reps.none _ _))); intro v456 w27 ho28 hb hg_ hnew_; clear hg_ hnew_; (first | rw [← Ny455.out] at ho28 | (simp only [Int.reduceToNat] at ho28; rw [← Ny455.out] at ho28)); have n0_ := Aside0.mk (Kd.R_elder' (by (with_reducible repeat (first | apply Kd.R_alloc | apply Kd.R_drewN | apply Kd.R_drew)); exact HO_9.out) (Kd.R_base ho28) hb); have n1_ := Aside0.mk (Kd.R_elder' (by (with_reducible repeat (first | apply Kd.R_alloc | apply Kd.R_drewN | apply Kd.R_drew)); exact HO_453000.out) (Kd.R_base ho28) hb); have n2_ := Aside0.mk (Kd.R_below (by (with_reducible repeat (first | apply Kd.R_alloc | apply Kd.R_drewN | apply Kd.R_drew)); exact HO_453001.out) hb); have n3_ := Aside0.mk (Kd.R_lower (Kd.R_new' (Kd.R_new' ho28 (Kd.R_lt (by (with_reducible repeat (first | apply Kd.R_alloc | apply Kd.R_drewN | apply Kd.R_drew)); exact HO_9.out))) (Kd.R_lt (by (with_reducible repeat (first | apply Kd.R_alloc | apply Kd.R_drewN | apply Kd.R_drew)); exact HO_453000.out))) (below_size (by repeat (first | (with_reducible first | exact HB.out | apply below_alloc | apply pw_below_drewN | apply below_drew1 | refine below_set ?_ GE452.out) | exact HB.out)))); have n4_ := Aside0.mk (blk_below (g := gb452) (o := .cells #[u453000, u453001] 25 (0, 0)) (by (with_reducible repeat (first | refine blk_drewN ?_ _ | refine blk_drew ?_ | refine blk_alloc ?_ _)); exact BK452.out) hb); have n5_ := Aside0.mk (below_step (by repeat (first | (with_reducible first | exact HB.out | apply below_alloc | apply pw_below_drewN | apply below_drew1 | refine below_set ?_ GE452.out) | exact HB.out)) hb); clear HO_9; clear HO_453000; clear HO_453001; clear BK452; clear HB; have HO_9 := n0_; have HO_453000 := n1_; have HO_453001 := n2_; have HO457 := n3_; have BK452 := n4_; have HB := n5_; clear n0_ n1_ n2_ n3_ n4_ n5_; clear hb ho28; obtain ⟨Ao29, co29, eo29⟩ := Kd.R_slice HO_453000.out; subst eo29; obtain ⟨Ao30, co30, eo30⟩ := Kd.R_slice HO_453001.out; subst eo30; obtain ⟨Ao31, co31, eo31⟩ := Kd.R_slice HO457.out; subst eo31) | ((with_reducible refine gate_callee (f := 37) rfl ?_); refine goesL_ (some 52) rfl rfl Try.func37 (by kernel_rfl) rfl #[.agg #[.slice Ao29 x453000_1.length co29, .slice Ao30 x453001_1.length co30], .int .i64 (wrap64 (1 + (wrap64 (Int.tmod a0 2147483646)))), .int .i64 x8_1, .slice Ao31 y455.length co31] rfl (by (try simp only [List.map_toArray, List.map_cons, List.map_nil]); first | done | rfl | (simp only [List.length_drop, List.length_take]; rfl)) ?_; (with_reducible refine (journal_Append.calls k1 (fun k_ => some k_ = (.slice Ao29 x453000_1.length co29 : Value).ownBlock) (.slice Ao29 x453000_1.length co29) x453000_1 (fun k_ => some k_ = (.slice Ao30 x453001_1.length co30 : Value).ownBlock) (.slice Ao30 x453001_1.length co30) x453001_1 (wrap64 (1 + (wrap64 (Int.tmod a0 2147483646)))) x8_1 _ _ y455 t458 t461 t464 t465 w _ ?side1 ?side2 ?side3 ?side4 ?side5 A18.out).mono ?_); (case side1 => repeat (first | (with_reducible first | exact HB.out | apply below_alloc | apply pw_below_drewN | apply below_drew1 | refine below_set ?_ GE452.out) | exact HB.out)); (case side2 => exact Kd.R_tight rfl HO_453000.out); (case side3 => exact Kd.R_tight rfl HO_453001.out); (case side4 => exact Kd.C_kept_own ((Kd.R_apart' HO457.out (Kd.R_typed HO_453001.out) (by decide))) (fun k_ hk_ hs_ => Or.elim hs_ (fun e_ => (hk_.1.2) e_) (fun e_ => (hk_.2) e_))); (case side5 => exact (Kd.R_reads' HO457.out).2.1); rintro e w32 ⟨v459, v462, rfl, ho0, ho1, hb, hkp⟩; refine ⟨_, rfl, ?_⟩; have n0_ := Aside0.mk (Kd.R_mono (ok' := fun k_ => some k_ ≠ (.slice Ao31 y455.length co31 : Value).ownBlock ∧ some k_ ≠ (v459 : Value).ownBlock) (Kd.R_keptB ((Kd.R_apart' HO_9.out (Kd.R_typed HO_453001.out) (by decide))) hkp (fun k_ hk_ hs_ => Or.elim hs_ (fun e_ => (hk_.1.1) e_) (fun e_ => (hk_.2) e_))) (fun k_ hk_ => ⟨hk_.1.1.2, fun e_ => Or.elim (ho0.1 k_ e_.symm) (fun hs_ => hk_.2.1 hs_) (fun hn_ => Nat.not_le.2 hk_.2.2 hn_)⟩)); have n1_ := Aside0.mk (blk_kept (by (with_reducible repeat (first | refine blk_drewN ?_ _ | refine blk_drew ?_ | refine blk_alloc ?_ _)); exact BK452.out) hkp (fun hs_ => Or.elim hs_ (fun e_ => (fun e_ => (Kd.R_ne HO_453000.out BK452.out (by decide)) e_) e_) (fun e_ => (fun e_ => (Kd.R_ne HO_453001.out BK452.out (by decide)) e_) e_))); have n2_ := Aside0.mk (Kd.R_mono (ok' := fun k_ => some k_ ≠ (u9 : Value).ownBlock ∧ some k_ ≠ (v459 : Value).ownBlock) (Kd.R_keptB ((Kd.R_apart' HO457.out (Kd.R_typed HO_453001.out) (by decide))) hkp (fun k_ hk_ hs_ => Or.elim hs_ (fun e_ => (hk_.1.2) e_) (fun e_ => (hk_.2) e_))) (fun k_ hk_ => ⟨hk_.1.1.1.2, fun e_ => Or.elim (ho0.1 k_ e_.symm) (fun hs_ => hk_.2.1 hs_) (fun hn_ => Nat.not_le.2 hk_.2.2 hn_)⟩)); have n3_ := Aside0.mk (Kd.R_mono (ok' := fun k_ => some k_ ≠ (u9 : Value).ownBlock ∧ some k_ ≠ (.slice Ao31 y455.length co31 : Value).ownBlock) ho0 (fun k_ hk_ => ⟨Or.elim hk_ (fun hs_ => Or.elim hs_ (fun hs_ => fun e_ => ((((Kd.R_apart' HO_9.out (Kd.R_typed HO_453001.out) (by decide))).1 k_ e_.symm).1.1) hs_) (fun hs_ => fun e_ => ((((Kd.R_apart' HO_9.out (Kd.R_typed HO_453001.out) (by decide))).1 k_ e_.symm).2) hs_)) (fun hn_ => (Kd.fresh' (Kd.R_lt (by (with_reducible repeat (first | apply Kd.R_alloc | apply Kd.R_drewN | apply Kd.R_drew)); exact HO_9.out)) k_ hn_)), Or.elim hk_ (fun hs_ => Or.elim hs_ (fun hs_ => fun e_ => ((((Kd.R_apart' HO457.out (Kd.R_typed HO_453001.out) (by decide))).1 k_ e_.symm).1.2) hs_) (fun hs_ => fun e_ => ((((Kd.R_apart' HO457.out (Kd.R_typed HO_453001.out) (by decide))).1 k_ e_.symm).2) hs_)) (fun hn_ => (Kd.fresh' (Kd.R_lt (by (with_reducible repeat (first | apply Kd.R_alloc | apply Kd.R_drewN | apply Kd.R_drew)); exact HO457.out)) k_ hn_))⟩)); have n4_ := Aside0.mk (Kd.R_mono (ok' := fun k_ => True) ho1 (fun k_ hk_ => trivial)); have n5_ := Aside0.mk (hb); clear HO_9; clear BK452; clear HO457; clear HB; clear HO_453000; clear HO_453001; have HO_9 := n0_; have BK452 := n1_; have HO457 := n2_; have HO460 := n3_; have HO463 := n4_; have HB := n5_; clear n0_ n1_ n2_ n3_ n4_ n5_; (try clear hb); (try clear hkp); (try clear ho0); (try clear ho1)) | ((with_reducible refine gate_dst (N := 12) rfl ?_); (try (refine gate_guard (by rfl) ?_; dsimp only)); refine box_event ?hg (N := 12) ?hd (cs := #[.slice none 0 0, .slice none 0 0]) (t := 25) ?hr ?_; (case hd => rfl); (case hg => rfl); (case hr => first | (go_simp; done) | (go_simp; rfl)); intro gb466 hg w33 hbox hb; have n0_ := Aside0.mk (Kd.R_below (by (with_reducible repeat (first | apply Kd.R_alloc | apply Kd.R_drewN | apply Kd.R_drew)); exact HO_9.out) hb); have n1_ := Aside0.mk (Kd.R_below (by (with_reducible repeat (first | apply Kd.R_alloc | apply Kd.R_drewN | apply Kd.R_drew)); exact HO457.out) hb); have n2_ := Aside0.mk (Kd.R_below (by (with_reducible repeat (first | apply Kd.R_alloc | apply Kd.R_drewN | apply Kd.R_drew)); exact HO460.out) hb); have n3_ := Aside0.mk (Kd.R_below (by (with_reducible repeat (first | apply Kd.R_alloc | apply Kd.R_drewN | apply Kd.R_drew)); exact HO463.out) hb); have n4_ := Aside0.mk (blk_below (g := gb452) (o := .cells #[.slice Ao29 x453000_1.length co29, .slice Ao30 x453001_1.length co30] 25 (0, 0)) (by (with_reducible repeat (first | refine blk_drewN ?_ _ | refine blk_drew ?_ | refine blk_alloc ?_ _)); exact BK452.out) hb); have n5_ := Aside0.mk (below_step (by repeat (first | (with_reducible first | exact HB.out | apply below_alloc | apply pw_below_drewN | apply below_drew1 | refine below_set ?_ GE452.out) | exact HB.out)) hb); have n6_ := Aside0.mk (hbox); have n7_ := Aside0.mk ((by rw [hg]; exact (below_size (by repeat (first | (with_reducible first | exact HB.out | apply below_alloc | apply pw_below_drewN | apply below_drew1 | refine below_set ?_ GE452.out) | exact HB.out))) : w.heap.size ≤ gb466)); have n8_ := Aside0.mk ((by rw [hg]; exact (below_size (by repeat (first | (with_reducible first | exact HB.out | apply below_alloc | apply pw_below_drewN | apply below_drew1 | refine below_set ?_ GE452.out) | exact HB.out))) : w.heap.size ≤ gb466)); have n9_ := Aside0.mk ((by rw [hg]; exact Nat.ne_of_lt (blk_lt (g := gb452) (o := .cells #[.slice Ao29 x453000_1.length co29, .slice Ao30 x453001_1.length co30] 25 (0, 0)) (by (with_reducible repeat (first | refine blk_drewN ?_ _ | refine blk_drew ?_ | refine blk_alloc ?_ _)); exact BK452.out)) : gb452 ≠ gb466)); have n10_ := Aside0.mk ((by rw [hg]; exact Nat.ne_of_gt (blk_lt (g := gb452) (o := .cells #[.slice Ao29 x453000_1.length co29, .slice Ao30 x453001_1.length co30] 25 (0, 0)) (by (with_reducible repeat (first | refine blk_drewN ?_ _ | refine blk_drew ?_ | refine blk_alloc ?_ _)); exact BK452.out)) : gb466 ≠ gb452)); clear HO_9; clear HO457; clear HO460; clear HO463; clear BK452; clear HB; have HO_9 := n0_; have HO457 := n1_; have HO460 := n2_; have HO463 := n3_; have BK452 := n4_; have HB := n5_; have BK466 := n6_; have GW466 := n7_; have GE466 := n8_; have NB452_466 := n9_; have NB466_452 := n10_; clear n0_ n1_ n2_ n3_ n4_ n5_ n6_ n7_ n8_ n9_ n10_; clear hb hbox hg; obtain ⟨Ao34, co34, eo34⟩ := Kd.R_slice HO460.out; subst eo34; have hnb35 := NB466_452.out; have hnc35 := NB452_466.out; have hcz36_0 : w33.cell? ⟨gb466, 0, none⟩ = some (.slice none 0 0) := (blk_cell BK466.out 0).trans rfl; have hcz36_1 : w33.cell? ⟨gb466, 1, none⟩ = some (.slice none 0 0) := (blk_cell BK466.out 1).trans rfl; have hfz36_0 := blk_frozen BK466.out 0; have hfz36_1 := blk_frozen BK466.out 1; obtain ⟨Ao37, co37, eo37⟩ := Kd.R_slice HO463.out; subst eo37))
                          have n0_ : Aside0 (Kd.R Kd.string 9 ((w33.setCell ⟨gb466, 0, none⟩ (.slice Ao34 t458.length co34)).setCell ⟨gb466, 1, none⟩ (.slice Ao37 t461.length co37)) w.heap.size (fun k_ => some k_ ≠ (.slice Ao31 y455.length co31 : Value).ownBlock ∧ some k_ ≠ (.slice Ao34 t458.length co34 : Value).ownBlock) u9 x9_1) := ⟨by (with_reducible repeat (first | apply Kd.R_alloc | apply Kd.R_drewN | apply Kd.R_drew)); exact Kd.R_mono (Kd.R_far (p := ⟨gb466, 1, none⟩) (Kd.R_far (p := ⟨gb466, 0, none⟩) (Kd.R_types HO_9.out BK466.out (by decide)) (fun _ hk => hk.2) (.slice Ao34 t458.length co34)) (fun _ hk => hk.2) (.slice Ao37 t461.length co37)) (fun _ hk => ⟨hk.1.1, hk.1.2⟩)⟩
                          have n1_ : Aside0 (Kd.R Kd.string 9 ((w33.setCell ⟨gb466, 0, none⟩ (.slice Ao34 t458.length co34)).setCell ⟨gb466, 1, none⟩ (.slice Ao37 t461.length co37)) w.heap.size (fun k_ => some k_ ≠ (u9 : Value).ownBlock ∧ some k_ ≠ (.slice Ao34 t458.length co34 : Value).ownBlock) (.slice Ao31 y455.length co31) y455) := ⟨by (with_reducible repeat (first | apply Kd.R_alloc | apply Kd.R_drewN | apply Kd.R_drew)); exact Kd.R_mono (Kd.R_far (p := ⟨gb466, 1, none⟩) (Kd.R_far (p := ⟨gb466, 0, none⟩) (Kd.R_types HO457.out BK466.out (by decide)) (fun _ hk => hk.2) (.slice Ao34 t458.length co34)) (fun _ hk => hk.2) (.slice Ao37 t461.length co37)) (fun _ hk => ⟨hk.1.1, hk.1.2⟩)⟩
                          have n2_ : Aside0 (Kd.R Kd.string 9 ((w33.setCell ⟨gb466, 0, none⟩ (.slice Ao34 t458.length co34)).setCell ⟨gb466, 1, none⟩ (.slice Ao37 t461.length co37)) w.heap.size (fun k_ => some k_ ≠ (u9 : Value).ownBlock ∧ some k_ ≠ (.slice Ao31 y455.length co31 : Value).ownBlock) (.slice Ao34 t458.length co34) t458) := ⟨by (with_reducible repeat (first | apply Kd.R_alloc | apply Kd.R_drewN | apply Kd.R_drew)); exact Kd.R_mono (Kd.R_far (p := ⟨gb466, 1, none⟩) (Kd.R_far (p := ⟨gb466, 0, none⟩) (Kd.R_types HO460.out BK466.out (by decide)) (fun _ hk => hk.2) (.slice Ao34 t458.length co34)) (fun _ hk => hk.2) (.slice Ao37 t461.length co37)) (fun _ hk => ⟨hk.1.1, hk.1.2⟩)⟩
                          have n3_ : Aside0 (Kd.R k76 76 ((w33.setCell ⟨gb466, 0, none⟩ (.slice Ao34 t458.length co34)).setCell ⟨gb466, 1, none⟩ (.slice Ao37 t461.length co37)) w.heap.size (fun _ => True) (.slice Ao37 t461.length co37) t461) := ⟨by (with_reducible repeat (first | apply Kd.R_alloc | apply Kd.R_drewN | apply Kd.R_drew)); exact Kd.R_mono (Kd.R_far (p := ⟨gb466, 1, none⟩) (Kd.R_far (p := ⟨gb466, 0, none⟩) (Kd.R_types HO463.out BK466.out (by decide)) (fun _ hk => hk.2) (.slice Ao34 t458.length co34)) (fun _ hk => hk.2) (.slice Ao37 t461.length co37)) (fun _ hk => trivial)⟩
                          have n4_ : Aside0 (((w33.setCell ⟨gb466, 0, none⟩ (.slice Ao34 t458.length co34)).setCell ⟨gb466, 1, none⟩ (.slice Ao37 t461.length co37)).heap[gb452]? = some (.cells #[.slice Ao29 x453000_1.length co29, .slice Ao30 x453001_1.length co30] 25 (0, 0))) := ⟨by (with_reducible repeat (first | refine blk_drewN ?_ _ | refine blk_drew ?_ | refine blk_alloc ?_ _)); refine blk_far ?_ NB452_466.out _; (with_reducible repeat (first | refine blk_drewN ?_ _ | refine blk_drew ?_ | refine blk_alloc ?_ _)); refine blk_far ?_ NB452_466.out _; (with_reducible repeat (first | refine blk_drewN ?_ _ | refine blk_drew ?_ | refine blk_alloc ?_ _)); exact BK452.out⟩
                          have n5_ : Aside0 (((w33.setCell ⟨gb466, 0, none⟩ (.slice Ao34 t458.length co34)).setCell ⟨gb466, 1, none⟩ (.slice Ao37 t461.length co37)).heap[gb466]? = some (.cells #[.slice Ao34 t458.length co34, .slice Ao37 t461.length co37] 25 (0, 0))) := ⟨by (with_reducible repeat (first | refine blk_drewN ?_ _ | refine blk_drew ?_ | refine blk_alloc ?_ _)); refine blk_put (cs := #[.slice Ao34 t458.length co34, .slice none 0 0]) ?_ 1 _ rfl; (with_reducible repeat (first | refine blk_drewN ?_ _ | refine blk_drew ?_ | refine blk_alloc ?_ _)); refine blk_put (cs := #[.slice none 0 0, .slice none 0 0]) ?_ 0 _ rfl; (with_reducible repeat (first | refine blk_drewN ?_ _ | refine blk_drew ?_ | refine blk_alloc ?_ _)); exact BK466.out⟩
                          have n6_ : Aside0 (Below w.heap.size w ((w33.setCell ⟨gb466, 0, none⟩ (.slice Ao34 t458.length co34)).setCell ⟨gb466, 1, none⟩ (.slice Ao37 t461.length co37))) := ⟨by repeat (first | (with_reducible first | exact HB.out | apply below_alloc | apply pw_below_drewN | apply below_drew1 | refine below_set ?_ GE452.out | refine below_set ?_ GE466.out) | exact HB.out)⟩
                          (try clear HO_9)
                          (try clear HO457)
                          (try clear HO460)
                          (try clear HO463)
                          (try clear BK452)
                          (try clear BK466)
                          (try clear HB)
                          generalize ((w33.setCell ⟨gb466, 0, none⟩ (.slice Ao34 t458.length co34)).setCell ⟨gb466, 1, none⟩ (.slice Ao37 t461.length co37)) = w38 at n0_ n1_ n2_ n3_ n4_ n5_ n6_ ⊢
                          have HO_9 := n0_
                          have HO457 := n1_
                          have HO460 := n2_
                          have HO463 := n3_
                          have BK452 := n4_
                          have BK466 := n5_
                          have HB := n6_
                          clear n0_ n1_ n2_ n3_ n4_ n5_ n6_
                          have n0_ := Aside0.mk (Kd.R_drew HO_9.out)
                          have n1_ := Aside0.mk (Kd.R_drew HO457.out)
                          have n2_ := Aside0.mk (Kd.R_drew HO460.out)
                          have n3_ := Aside0.mk (Kd.R_drew HO463.out)
                          have n4_ := Aside0.mk (blk_drew BK452.out)
                          have n5_ := Aside0.mk (blk_drew BK466.out)
                          have n6_ := Aside0.mk (below_drew1 HB.out)
                          clear HO_9
                          clear HO457
                          clear HO460
                          clear HO463
                          clear BK452
                          clear BK466
                          clear HB
                          have HO_9 := n0_
                          have HO457 := n1_
                          have HO460 := n2_
                          have HO463 := n3_
                          have BK452 := n4_
                          have BK466 := n5_
                          have HB := n6_
                          clear n0_ n1_ n2_ n3_ n4_ n5_ n6_
                          refine start_ (n := 9) (S := fun w' => w'.cell? ⟨gb466, 0, none⟩ = some (.slice Ao34 t458.length co34) ∧ w'.cell? ⟨gb466, 1, none⟩ = some (.slice Ao37 t461.length co37)) (ds := []) #[false, false, false, false, false, false, false, false, false] (by kernel_rfl) rfl rfl ⟨(blk_cell BK466.out 0).trans rfl, (blk_cell BK466.out 1).trans rfl⟩ (fun hHeld => ?_); refine with_tabW weirkeeperlaw08_JournalBack.tab15 weirkeeperlaw08_JournalBack.bits15 (fun HT_ HW_ => ?_)
                          generalize w38.drew = w39 at HO_9 HO457 HO460 HO463 BK452 BK466 HB hHeld ⊢
                          refine pure_ (i := 1) (N := some 77) (v := ?_) (a' := ?_) #[false, true, false, false, false, false, false, false, false] rfl rfl (any_of HT_.out (by kernel_rfl)) (fun _ _ _ h => h) (Or.inl ⟨by rfl, ?_⟩) ?_ ?_
                          rotate_left
                          · intro w'
                            go_simp
                            with_reducible rfl
                          rotate_left
                          · simp only [Act.put, List.setIfInBounds_toArray, List.set_cons_zero, List.set_cons_succ, i64_w, i32_w]
                            rfl
                          refine pure_ (i := 2) (N := some 78) (v := ?_) (a' := ?_) #[false, true, true, false, false, false, false, false, false] rfl rfl (any_of HT_.out (by kernel_rfl)) (fun _ _ _ h => h) (Or.inl ⟨by rfl, ?_⟩) ?_ ?_
                          rotate_left
                          · intro w'
                            go_simp
                            with_reducible rfl
                          rotate_left
                          · simp only [Act.put, List.setIfInBounds_toArray, List.set_cons_zero, List.set_cons_succ, i64_w, i32_w]
                            rfl
                          refine pure_ (i := 3) (N := some 79) (v := ?_) (a' := ?_) #[false, true, true, true, false, false, false, false, false] rfl rfl (any_of HT_.out (by kernel_rfl)) (fun _ _ _ h => h) (Or.inl ⟨by rfl, ?_⟩) ?_ ?_
                          rotate_left
                          · intro w'
                            go_simp
                            with_reducible rfl
                          rotate_left
                          · simp only [Act.put, List.setIfInBounds_toArray, List.set_cons_zero, List.set_cons_succ, i64_w, i32_w]
                            rfl
                          refine take_ (i := 0) (N := some 76) (v := ?_) (a' := ?_) #[true, true, true, true, false, false, false, false, false] rfl rfl (take_ofW HT_.out HW_.out (by kernel_rfl)) (fun _ _ _ h => h) (Or.inl ⟨by rfl, ?_⟩) hHeld ?_ ?_
                          rotate_left
                          · rintro w' ⟨s0, s1⟩
                            go_simp
                            with_reducible rfl
                          rotate_left
                          · simp only [Act.put, List.setIfInBounds_toArray, List.set_cons_zero, List.set_cons_succ, i64_w, i32_w]
                            rfl
                          refine one_ (i := 4) (N := some 80) #[true, true, true, true, true, false, false, false, false] rfl rfl (one_of HT_.out (by kernel_rfl)) (by decide) (fun K hK => ?_)
                          refine value_ (w1 := ?_) (v := ?_) (by rfl) rfl ?_ ?_
                          rotate_left 2
                          · go_simp
                            constructor
                            · rfl
                            · rfl
                          refine hK.out _ _ ⟨(blk_cell (blk_alloc BK466.out _) 0).trans rfl, (blk_cell (blk_alloc BK466.out _) 1).trans rfl⟩ (fun hHeld => ?_)
                          clear hK K
                          refine norm_ (a' := ?_) ?_ ?_
                          rotate_left
                          · show Act.put _ (some 80) _ = _
                            simp only [Act.put, List.setIfInBounds_toArray, List.set_cons_zero, List.set_cons_succ, i64_w, i32_w]
                            rfl
                          refine one_ (i := 5) (N := some 81) #[true, true, true, true, true, true, false, false, false] rfl rfl (one_of HT_.out (by kernel_rfl)) (by decide) (fun K hK => ?_)
                          refine Kd.R_append_step Kd.string (w0 := w) w.heap.size (by rfl) (.tmp 78) (.tmp 80) 22 9 (.string ⟨#[]⟩) 16 rfl Try.underlying22 info9 rfl (by decide) (by omega) u9 x9_1 (rdOf ByteArray.empty l1 x38_1) [.string (rdOf ByteArray.empty l1 x38_1)] (fun k_ => some k_ ≠ (.slice Ao31 y455.length co31 : Value).ownBlock ∧ some k_ ≠ (.slice Ao34 t458.length co34 : Value).ownBlock) (fun _ => False) rfl rfl ?aP (fun _ hk => hk.elim) ?aF ?aO ?aB ?aS ?aL ?_
                          (case aP => exact rfl)
                          (case aB => exact (by repeat (first | (with_reducible first | exact HB.out | apply below_alloc | apply pw_below_drewN | apply below_drew1 | refine below_set ?_ GE452.out | refine below_set ?_ GE466.out) | exact HB.out)))
                          (case aF => exact (fun k_ hk => ⟨Kd.fresh' (Kd.R_lt (by (with_reducible repeat (first | apply Kd.R_alloc | apply Kd.R_drewN | apply Kd.R_drew)); exact HO457.out)) k_ hk, Kd.fresh' (Kd.R_lt (by (with_reducible repeat (first | apply Kd.R_alloc | apply Kd.R_drewN | apply Kd.R_drew)); exact HO460.out)) k_ hk⟩))
                          (case aO => exact (by (with_reducible repeat (first | apply Kd.R_alloc | apply Kd.R_drewN | apply Kd.R_drew)); exact HO_9.out))
                          (case aS => exact (below_size (by repeat (first | (with_reducible first | exact HB.out | apply below_alloc | apply pw_below_drewN | apply below_drew1 | refine below_set ?_ GE452.out | refine below_set ?_ GE466.out) | exact HB.out))))
                          (case aL => have := LMc20.out; omega)
                          intro v470 w40 ho hb hg hat
                          rw [← Ny469.out] at ho
                          have n0_ := Aside0.mk (blk_grown (g := gb452) (o := .cells #[.slice Ao29 x453000_1.length co29, .slice Ao30 x453001_1.length co30] 25 (0, 0)) (by (with_reducible repeat (first | refine blk_drewN ?_ _ | refine blk_drew ?_ | refine blk_alloc ?_ _)); exact BK452.out) hg (Kd.R_ne HO_9.out BK452.out (by decide)))
                          have n1_ := Aside0.mk (Kd.R_after (ok := (fun k_ => some k_ ≠ (.slice Ao34 t458.length co34 : Value).ownBlock)) (by (with_reducible repeat (first | apply Kd.R_alloc | apply Kd.R_drewN | apply Kd.R_drew)); exact Kd.R_mono HO457.out (fun _ hk => ⟨hk.2, hk.1⟩)) hg hat)
                          have n2_ := Aside0.mk (Kd.R_after (ok := (fun k_ => some k_ ≠ (.slice Ao31 y455.length co31 : Value).ownBlock)) (by (with_reducible repeat (first | apply Kd.R_alloc | apply Kd.R_drewN | apply Kd.R_drew)); exact Kd.R_mono HO460.out (fun _ hk => ⟨hk.2, hk.1⟩)) hg hat)
                          have n3_ := Aside0.mk (Kd.R_over' (by (with_reducible repeat (first | apply Kd.R_alloc | apply Kd.R_drewN | apply Kd.R_drew)); exact HO463.out) (Kd.R_typed (by (with_reducible repeat (first | apply Kd.R_alloc | apply Kd.R_drewN | apply Kd.R_drew)); exact HO_9.out)) (by decide) hg)
                          have n4_ := Aside0.mk (blk_grown (g := gb466) (o := .cells #[.slice Ao34 t458.length co34, .slice Ao37 t461.length co37] 25 (0, 0)) (by (with_reducible repeat (first | refine blk_drewN ?_ _ | refine blk_drew ?_ | refine blk_alloc ?_ _)); exact BK466.out) hg (Kd.R_ne HO_9.out BK466.out (by decide)))
                          have n5_ := Aside0.mk (hb)
                          have n6_ := Aside0.mk (ho)
                          clear BK452
                          clear HO457
                          clear HO460
                          clear HO463
                          clear BK466
                          clear HB
                          clear HO_9
                          have BK452 := n0_
                          have HO457 := n1_
                          have HO460 := n2_
                          have HO463 := n3_
                          have BK466 := n4_
                          have HB := n5_
                          have HO471 := n6_
                          clear n0_ n1_ n2_ n3_ n4_ n5_ n6_
                          clear ho hb hg hat
                          refine hK.out _ _ ⟨(blk_cell BK466.out 0).trans rfl, (blk_cell BK466.out 1).trans rfl⟩ (fun hHeld => ?_)
                          clear hK K
                          refine norm_ (a' := ?_) ?_ ?_
                          rotate_left
                          · show Act.put _ (some 81) _ = _
                            simp only [Act.put, List.setIfInBounds_toArray, List.set_cons_zero, List.set_cons_succ, i64_w, i32_w]
                            rfl
                          refine one_ (i := 6) (N := none) #[true, true, true, true, true, true, true, false, false] rfl rfl (one_of HT_.out (by kernel_rfl)) (by decide) (fun K hK => ?_)
                          have hs41 : w40.cell? ⟨gb452, 0, none⟩ = some (.slice Ao29 x453000_1.length co29) := (blk_cell BK452.out 0).trans rfl
                          have hfs41 := blk_frozen BK452.out 0
                          have hns41_1 := NB466_452.out
                          have hms41_1 := NB452_466.out
                          have hs42 : w40.cell? ⟨gb452, 1, none⟩ = some (.slice Ao30 x453001_1.length co30) := (blk_cell BK452.out 1).trans rfl
                          have hfs42 := blk_frozen BK452.out 1
                          have hns42_1 := NB466_452.out
                          have hms42_1 := NB452_466.out
                          refine skip_ (w1 := ?_) (by rfl) rfl ?_ ?_
                          rotate_left
                          · go_simp
                            rfl
                          refine hK.out _ _ ⟨((cell_far (p := ⟨gb452, _, none⟩) NB466_452.out _).trans (((cell_far (p := ⟨gb452, _, none⟩) NB466_452.out _).trans (hHeld.1)))), ((cell_far (p := ⟨gb452, _, none⟩) NB466_452.out _).trans (((cell_far (p := ⟨gb452, _, none⟩) NB466_452.out _).trans (hHeld.2))))⟩ (fun hHeld => ?_)
                          clear hK K
                          refine pure_ (i := 7) (N := some 8) (v := ?_) (a' := ?_) #[true, true, true, true, true, true, true, true, false] rfl rfl (any_of HT_.out (by kernel_rfl)) (fun _ _ _ h => h) (Or.inl ⟨by rfl, ?_⟩) ?_ ?_
                          rotate_left
                          · intro w'
                            go_simp
                            with_reducible rfl
                          rotate_left
                          · simp only [Act.put, List.setIfInBounds_toArray, List.set_cons_zero, List.set_cons_succ, i64_w, i32_w]
                            rfl
                          refine pure_ (i := 8) (N := some 9) (v := ?_) (a' := ?_) #[true, true, true, true, true, true, true, true, true] rfl rfl (any_of HT_.out (by kernel_rfl)) (fun _ _ _ h => h) (Or.inl ⟨by rfl, ?_⟩) ?_ ?_
                          rotate_left
                          · intro w'
                            go_simp
                            with_reducible rfl
                          rotate_left
                          · simp only [Act.put, List.setIfInBounds_toArray, List.set_cons_zero, List.set_cons_succ, i64_w, i32_w]
                            rfl
                          refine done_ (done_of HT_.out (by kernel_rfl)) ?_
                          have hcz43_0 : w40.cell? ⟨gb452, 0, none⟩ = some (.slice Ao29 x453000_1.length co29) := (blk_cell BK452.out 0).trans rfl
                          have hcz43_1 : w40.cell? ⟨gb452, 1, none⟩ = some (.slice Ao30 x453001_1.length co30) := (blk_cell BK452.out 1).trans rfl
                          have hfz43_0 := blk_frozen BK452.out 0
                          have hfz43_1 := blk_frozen BK452.out 1
                          try go_wp2_with (first | ((with_reducible refine gate_callee (f := 35) rfl ?_); refine goesL_ (some 85) rfl rfl Try.func35 (by kernel_rfl) rfl #[.agg #[.slice Ao34 t458.length co34, .slice Ao37 t461.length co37], .int .i64 (wrap64 (1 + (wrap64 (Int.tmod a0 2147483646))))] rfl (by (try simp only [List.map_toArray, List.map_cons, List.map_nil]); first | done | rfl | (simp only [List.length_drop, List.length_take]; rfl)) ?_; (with_reducible refine (journal_Texts.calls k1 _ _ t458 _ _ t461 (wrap64 (1 + (wrap64 (Int.tmod a0 2147483646)))) t472 t475 t476 _ ?side1 ?side2 ?side3 ?side4 A21.out).mono ?_); (case side1 => refine (Kd.R_reads' (e := 9) (base := w.heap.size) (ok := fun k_ => (some k_ ≠ (.slice Ao31 y455.length co31 : Value).ownBlock ∧ some k_ ≠ (v470 : Value).ownBlock)) (n := t458.length) (c := co34) ?_).2.2; exact (by (with_reducible repeat (first | apply Kd.R_alloc | apply Kd.R_drewN | apply Kd.R_drew)); exact (Kd.R_mono (Kd.R_far (p := ⟨gb452, 1, none⟩) (Kd.R_far (p := ⟨gb452, 0, none⟩) (Kd.R_types HO460.out BK452.out (by decide)) (fun _ hk => hk.2) (.slice Ao34 t458.length co34)) (fun _ hk => hk.2) (.slice Ao37 t461.length co37)) (fun _ h_ => h_.1)))); (case side2 => exact (Kd.R_reads' HO460.out).2.1); (case side3 => refine (Kd.R_reads' (e := 76) (base := w.heap.size) (ok := fun k_ => True) (n := t461.length) (c := co37) ?_).2.2; exact (by (with_reducible repeat (first | apply Kd.R_alloc | apply Kd.R_drewN | apply Kd.R_drew)); exact (Kd.R_mono (Kd.R_far (p := ⟨gb452, 1, none⟩) (Kd.R_far (p := ⟨gb452, 0, none⟩) (Kd.R_types HO463.out BK452.out (by decide)) (fun _ hk => hk.2) (.slice Ao34 t458.length co34)) (fun _ hk => hk.2) (.slice Ao37 t461.length co37)) (fun _ h_ => h_.1)))); (case side4 => exact (Kd.R_reads' HO463.out).2.1); rintro e w44 ⟨v473, rfl, ho0, hb⟩; refine ⟨_, rfl, ?_⟩; have n0_ := Aside0.mk (Kd.R_elder' (by (with_reducible repeat (first | apply Kd.R_alloc | apply Kd.R_drewN | apply Kd.R_drew)); exact (Kd.R_mono (Kd.R_far (p := ⟨gb452, 1, none⟩) (Kd.R_far (p := ⟨gb452, 0, none⟩) (Kd.R_types HO457.out BK452.out (by decide)) (fun _ hk => hk.2) (.slice Ao34 t458.length co34)) (fun _ hk => hk.2) (.slice Ao37 t461.length co37)) (fun _ h_ => h_.1))) (Kd.R_base ho0) hb); have n1_ := Aside0.mk (Kd.R_elder' (by (with_reducible repeat (first | apply Kd.R_alloc | apply Kd.R_drewN | apply Kd.R_drew)); exact (Kd.R_mono (Kd.R_far (p := ⟨gb452, 1, none⟩) (Kd.R_far (p := ⟨gb452, 0, none⟩) (Kd.R_types HO460.out BK452.out (by decide)) (fun _ hk => hk.2) (.slice Ao34 t458.length co34)) (fun _ hk => hk.2) (.slice Ao37 t461.length co37)) (fun _ h_ => h_.1))) (Kd.R_base ho0) hb); have n2_ := Aside0.mk (Kd.R_below (by (with_reducible repeat (first | apply Kd.R_alloc | apply Kd.R_drewN | apply Kd.R_drew)); exact (Kd.R_mono (Kd.R_far (p := ⟨gb452, 1, none⟩) (Kd.R_far (p := ⟨gb452, 0, none⟩) (Kd.R_types HO463.out BK452.out (by decide)) (fun _ hk => hk.2) (.slice Ao34 t458.length co34)) (fun _ hk => hk.2) (.slice Ao37 t461.length co37)) (fun _ h_ => h_.1))) hb); have n3_ := Aside0.mk (Kd.R_elder' (by (with_reducible repeat (first | apply Kd.R_alloc | apply Kd.R_drewN | apply Kd.R_drew)); exact (Kd.R_mono (Kd.R_far (p := ⟨gb452, 1, none⟩) (Kd.R_far (p := ⟨gb452, 0, none⟩) (Kd.R_types HO471.out BK452.out (by decide)) (fun _ hk => hk.2) (.slice Ao34 t458.length co34)) (fun _ hk => hk.2) (.slice Ao37 t461.length co37)) (fun _ h_ => h_.1))) (Kd.R_base ho0) hb); have n4_ := Aside0.mk (Kd.R_lower (Kd.R_new' (Kd.R_new' (Kd.R_new' ho0 (Kd.R_lt (by (with_reducible repeat (first | apply Kd.R_alloc | apply Kd.R_drewN | apply Kd.R_drew)); exact (Kd.R_mono (Kd.R_far (p := ⟨gb452, 1, none⟩) (Kd.R_far (p := ⟨gb452, 0, none⟩) (Kd.R_types HO457.out BK452.out (by decide)) (fun _ hk => hk.2) (.slice Ao34 t458.length co34)) (fun _ hk => hk.2) (.slice Ao37 t461.length co37)) (fun _ h_ => h_.1))))) (Kd.R_lt (by (with_reducible repeat (first | apply Kd.R_alloc | apply Kd.R_drewN | apply Kd.R_drew)); exact (Kd.R_mono (Kd.R_far (p := ⟨gb452, 1, none⟩) (Kd.R_far (p := ⟨gb452, 0, none⟩) (Kd.R_types HO460.out BK452.out (by decide)) (fun _ hk => hk.2) (.slice Ao34 t458.length co34)) (fun _ hk => hk.2) (.slice Ao37 t461.length co37)) (fun _ h_ => h_.1))))) (Kd.R_lt (by (with_reducible repeat (first | apply Kd.R_alloc | apply Kd.R_drewN | apply Kd.R_drew)); exact (Kd.R_mono (Kd.R_far (p := ⟨gb452, 1, none⟩) (Kd.R_far (p := ⟨gb452, 0, none⟩) (Kd.R_types HO471.out BK452.out (by decide)) (fun _ hk => hk.2) (.slice Ao34 t458.length co34)) (fun _ hk => hk.2) (.slice Ao37 t461.length co37)) (fun _ h_ => h_.1))))) (below_size (by repeat (first | (with_reducible first | exact HB.out | apply below_alloc | apply pw_below_drewN | apply below_drew1 | refine below_set ?_ GE452.out | refine below_set ?_ GE466.out) | exact HB.out)))); have n5_ := Aside0.mk (blk_below (g := gb452) (o := .cells #[.slice Ao34 t458.length co34, .slice Ao37 t461.length co37] 25 (0, 0)) (by (with_reducible repeat (first | refine blk_drewN ?_ _ | refine blk_drew ?_ | refine blk_alloc ?_ _)); refine blk_put (cs := #[.slice Ao34 t458.length co34, .slice Ao30 x453001_1.length co30]) ?_ 1 _ rfl; (with_reducible repeat (first | refine blk_drewN ?_ _ | refine blk_drew ?_ | refine blk_alloc ?_ _)); refine blk_put (cs := #[.slice Ao29 x453000_1.length co29, .slice Ao30 x453001_1.length co30]) ?_ 0 _ rfl; (with_reducible repeat (first | refine blk_drewN ?_ _ | refine blk_drew ?_ | refine blk_alloc ?_ _)); exact BK452.out) hb); have n6_ := Aside0.mk (blk_below (g := gb466) (o := .cells #[.slice Ao34 t458.length co34, .slice Ao37 t461.length co37] 25 (0, 0)) (by (with_reducible repeat (first | refine blk_drewN ?_ _ | refine blk_drew ?_ | refine blk_alloc ?_ _)); refine blk_far ?_ NB466_452.out _; (with_reducible repeat (first | refine blk_drewN ?_ _ | refine blk_drew ?_ | refine blk_alloc ?_ _)); refine blk_far ?_ NB466_452.out _; (with_reducible repeat (first | refine blk_drewN ?_ _ | refine blk_drew ?_ | refine blk_alloc ?_ _)); exact BK466.out) hb); have n7_ := Aside0.mk (below_step (by repeat (first | (with_reducible first | exact HB.out | apply below_alloc | apply pw_below_drewN | apply below_drew1 | refine below_set ?_ GE452.out | refine below_set ?_ GE466.out) | exact HB.out)) hb); clear HO457; clear HO460; clear HO463; clear HO471; clear BK452; clear BK466; clear HB; have HO457 := n0_; have HO460 := n1_; have HO463 := n2_; have HO471 := n3_; have HO474 := n4_; have BK452 := n5_; have BK466 := n6_; have HB := n7_; clear n0_ n1_ n2_ n3_ n4_ n5_ n6_ n7_; (try clear hb); (try clear hb2); (try clear hk); (try clear hi); (try clear ho0); obtain ⟨Ao45, co45, eo45⟩ := Kd.R_slice HO474.out; subst eo45; obtain ⟨Ao46, co46, eo46⟩ := Kd.R_slice HO471.out; subst eo46) | (go_at_call 32; (with_reducible refine (weirkeeperref01_Same.calls k1 _ _ t472 _ _ y469 true _ ?side1 ?side2 ?side3 ?side4 A24.out).mono ?_); (case side1 => repeat (first | exact (Kd.R_reads' HO474.out).2.2 | (with_reducible refine Kd.C_alloc ?_ _) | (with_reducible refine Kd.C_drewN ?_ _) | (with_reducible refine Kd.C_drew ?_))); (case side2 => exact (Kd.R_reads' HO474.out).2.1); (case side3 => repeat (first | exact (Kd.R_reads' HO471.out).2.2 | (with_reducible refine Kd.C_alloc ?_ _) | (with_reducible refine Kd.C_drewN ?_ _) | (with_reducible refine Kd.C_drew ?_))); (case side4 => exact (Kd.R_reads' HO471.out).2.1); rintro e w' ⟨rfl, ⟨nd, rfl⟩⟩))
                          go_roundg k1
                          case measure => have := HK1.out; omega
                          case rel => exact ⟨(t464), (y469), (wrap64 (x38_1 + 1)), (t458), (t461), (.slice Ao34 t458.length co34), (.slice Ao37 t461.length co37), (by first | rfl | (simp; done) | (simp [*]; done)), (by first | rfl | (simp; done) | (simp [*]; done)), H', ⟨by have := HK1.out; omega⟩, ⟨by (with_reducible repeat (first | apply Kd.R_alloc | apply Kd.R_drewN | apply Kd.R_drew)); exact Kd.R_mono HO471.out (fun _ hk => hk.1.2)⟩, ⟨by (with_reducible repeat (first | apply Kd.R_alloc | apply Kd.R_drewN | apply Kd.R_drew)); exact Kd.R_mono HO460.out (fun _ hk => hk.1.2)⟩, ⟨by (with_reducible repeat (first | apply Kd.R_alloc | apply Kd.R_drewN | apply Kd.R_drew)); exact HO463.out⟩, ⟨by (with_reducible repeat (first | refine blk_drewN ?_ _ | refine blk_drew ?_ | refine blk_alloc ?_ _)); exact BK452.out⟩, ⟨by repeat (first | (with_reducible first | exact HB.out | apply below_alloc | apply pw_below_drewN | apply below_drew1 | refine below_set ?_ GE452.out | refine below_set ?_ GE466.out) | exact HB.out)⟩⟩
                        · replace c25 := Bool.eq_false_iff.mpr c25
                          subst c25
                          have H1 : (some false) = some true := by rw [if_neg (show ¬ (false = true) by decide)] at H; exact H
                          clear H
                          have H := H1
                          clear H1
                          exact absurd H (by simp)
                      · rw [if_neg c23] at H
                        have c23b0 : (t475 == t464) = false := beq_eq_false_iff_ne.mpr c23
                        have c23b1 : (t475 != t464) = true := bne_iff_ne.mpr c23
                        exact absurd H (by simp)
                    · rw [if_neg c22] at H
                      have c22b0 : (t476 == 0) = false := beq_eq_false_iff_ne.mpr c22
                      have c22b1 : (t476 != 0) = true := bne_iff_ne.mpr c22
                      exact absurd H (by simp)
                  · rw [if_neg c20] at H
                    exact absurd H (by simp)
                · rw [if_neg c19] at H
                  have c19b0 : (t465 == 0) = false := beq_eq_false_iff_ne.mpr c19
                  have c19b1 : (t465 != 0) = true := bne_iff_ne.mpr c19
                  by_cases c47 : t465 = 6
                  · rw [if_pos c47] at H
                    have c47b0 : (t465 == 6) = true := beq_iff_eq.mpr c47
                    have c47b1 : (t465 != 6) = false := bne_eq_false_iff_eq.mpr c47
                    clear c47
                    by_cases c48 : t464 = x8_1
                    · rw [if_pos c48] at H
                      have c48b0 : (t464 == x8_1) = true := beq_iff_eq.mpr c48
                      have c48b1 : (t464 != x8_1) = false := bne_eq_false_iff_eq.mpr c48
                      clear c48
                      replace H := Option.bind_eq_some_iff.mp H
                      obtain ⟨t467, A490, H⟩ := H
                      replace H : (if (wrap64 (x8_1 + t467)) > 128 then ((weirkeeperlaw08_awake.f k1).bind fun t468 => (some t468)) else (some false)) = some true := H
                      have A49 := Aside0.mk A490
                      clear A490
                      by_cases c50 : (wrap64 (x8_1 + t467)) > 128
                      · rw [if_pos c50] at H
                        have c50b0 : decide (128 < (wrap64 (x8_1 + t467))) = true := decide_eq_true c50
                        clear c50
                        replace H := Option.bind_eq_some_iff.mp H
                        obtain ⟨t468, A510, H⟩ := H
                        replace H : (some t468) = some true := H
                        have A51 := Aside0.mk A510
                        clear A510
                        (have H9_ := Option.some.inj H; first | subst H9_ | (have h9_ := Aside0.mk H9_; clear H9_))
                        have p453 : 0 ≤ (x38_1 : Int) := of_decide_eq_true (by first | (with_reducible assumption) | assumption)
                        have q453 : x38_1 < (l1.length : Int) := of_decide_eq_true (by first | (with_reducible assumption) | assumption)
                        obtain ⟨ad453, e453, hx453_0⟩ := Kd.at_string HR1.out x38_1 p453 q453
                        cases e453
                        replace hx453_0 := (HB.out.cell (World.block_lt_of_cell? w _ hx453_0)).trans hx453_0
                        replace p453 := eq_true p453
                        replace q453 := eq_true q453
                        have hcz52_0 : wr.cell? ⟨gb452, 0, none⟩ = some (u453000) := (blk_cell BK452.out 0).trans rfl
                        have hcz52_1 : wr.cell? ⟨gb452, 1, none⟩ = some (u453001) := (blk_cell BK452.out 1).trans rfl
                        have hfz52_0 := blk_frozen BK452.out 0
                        have hfz52_1 := blk_frozen BK452.out 1
                        go_wp2_with (first | ((with_reducible refine gate_dst (N := 51) rfl ?_); (try (refine gate_guard (by rfl) ?_; dsimp only)); refine Kd.R_lit Kd.string _ 9 ?hg (N := 51) ?hd (xs := ([rdOf ByteArray.empty l1 x38_1] : List ByteArray)) (inner := [.string (rdOf ByteArray.empty l1 x38_1)]) (ok := fun _ => True) (okp := fun _ => True) ?hr ?hp (fun _ hk => hk) trivial (Below.refl _ _) (Nat.le_refl _) (by simp) ?_; (case hd => rfl); (case hg => rfl); (case hr => first | (go_simp; done) | (go_simp; rfl)); (case hp => exact (Reps.one (show Kd.M Kd.string _ _ _ (rdOf ByteArray.empty l1 x38_1) [.string (rdOf ByteArray.empty l1 x38_1)] from rfl) (Reps.none _ _))); intro v456 w53 ho54 hb hg_ hnew_; clear hg_ hnew_; (first | rw [← Ny455.out] at ho54 | (simp only [Int.reduceToNat] at ho54; rw [← Ny455.out] at ho54)); have n0_ := Aside0.mk (Kd.R_elder' (by (with_reducible repeat (first | apply Kd.R_alloc | apply Kd.R_drewN | apply Kd.R_drew)); exact HO_9.out) (Kd.R_base ho54) hb); have n1_ := Aside0.mk (Kd.R_elder' (by (with_reducible repeat (first | apply Kd.R_alloc | apply Kd.R_drewN | apply Kd.R_drew)); exact HO_453000.out) (Kd.R_base ho54) hb); have n2_ := Aside0.mk (Kd.R_below (by (with_reducible repeat (first | apply Kd.R_alloc | apply Kd.R_drewN | apply Kd.R_drew)); exact HO_453001.out) hb); have n3_ := Aside0.mk (Kd.R_lower (Kd.R_new' (Kd.R_new' ho54 (Kd.R_lt (by (with_reducible repeat (first | apply Kd.R_alloc | apply Kd.R_drewN | apply Kd.R_drew)); exact HO_9.out))) (Kd.R_lt (by (with_reducible repeat (first | apply Kd.R_alloc | apply Kd.R_drewN | apply Kd.R_drew)); exact HO_453000.out))) (below_size (by repeat (first | (with_reducible first | exact HB.out | apply below_alloc | apply pw_below_drewN | apply below_drew1 | refine below_set ?_ GE452.out) | exact HB.out)))); have n4_ := Aside0.mk (blk_below (g := gb452) (o := .cells #[u453000, u453001] 25 (0, 0)) (by (with_reducible repeat (first | refine blk_drewN ?_ _ | refine blk_drew ?_ | refine blk_alloc ?_ _)); exact BK452.out) hb); have n5_ := Aside0.mk (below_step (by repeat (first | (with_reducible first | exact HB.out | apply below_alloc | apply pw_below_drewN | apply below_drew1 | refine below_set ?_ GE452.out) | exact HB.out)) hb); clear HO_9; clear HO_453000; clear HO_453001; clear BK452; clear HB; have HO_9 := n0_; have HO_453000 := n1_; have HO_453001 := n2_; have HO457 := n3_; have BK452 := n4_; have HB := n5_; clear n0_ n1_ n2_ n3_ n4_ n5_; clear hb ho54; obtain ⟨Ao55, co55, eo55⟩ := Kd.R_slice HO_453000.out; subst eo55; obtain ⟨Ao56, co56, eo56⟩ := Kd.R_slice HO_453001.out; subst eo56; obtain ⟨Ao57, co57, eo57⟩ := Kd.R_slice HO457.out; subst eo57) | ((with_reducible refine gate_callee (f := 37) rfl ?_); refine goesL_ (some 52) rfl rfl Try.func37 (by kernel_rfl) rfl #[.agg #[.slice Ao55 x453000_1.length co55, .slice Ao56 x453001_1.length co56], .int .i64 (wrap64 (1 + (wrap64 (Int.tmod a0 2147483646)))), .int .i64 x8_1, .slice Ao57 y455.length co57] rfl (by (try simp only [List.map_toArray, List.map_cons, List.map_nil]); first | done | rfl | (simp only [List.length_drop, List.length_take]; rfl)) ?_; (with_reducible refine (journal_Append.calls k1 (fun k_ => some k_ = (.slice Ao55 x453000_1.length co55 : Value).ownBlock) (.slice Ao55 x453000_1.length co55) x453000_1 (fun k_ => some k_ = (.slice Ao56 x453001_1.length co56 : Value).ownBlock) (.slice Ao56 x453001_1.length co56) x453001_1 (wrap64 (1 + (wrap64 (Int.tmod a0 2147483646)))) x8_1 _ _ y455 t458 t461 t464 t465 w _ ?side1 ?side2 ?side3 ?side4 ?side5 A18.out).mono ?_); (case side1 => repeat (first | (with_reducible first | exact HB.out | apply below_alloc | apply pw_below_drewN | apply below_drew1 | refine below_set ?_ GE452.out) | exact HB.out)); (case side2 => exact Kd.R_tight rfl HO_453000.out); (case side3 => exact Kd.R_tight rfl HO_453001.out); (case side4 => exact Kd.C_kept_own ((Kd.R_apart' HO457.out (Kd.R_typed HO_453001.out) (by decide))) (fun k_ hk_ hs_ => Or.elim hs_ (fun e_ => (hk_.1.2) e_) (fun e_ => (hk_.2) e_))); (case side5 => exact (Kd.R_reads' HO457.out).2.1); rintro e w58 ⟨v459, v462, rfl, ho0, ho1, hb, hkp⟩; refine ⟨_, rfl, ?_⟩; have n0_ := Aside0.mk (Kd.R_mono (ok' := fun k_ => some k_ ≠ (.slice Ao57 y455.length co57 : Value).ownBlock ∧ some k_ ≠ (v459 : Value).ownBlock) (Kd.R_keptB ((Kd.R_apart' HO_9.out (Kd.R_typed HO_453001.out) (by decide))) hkp (fun k_ hk_ hs_ => Or.elim hs_ (fun e_ => (hk_.1.1) e_) (fun e_ => (hk_.2) e_))) (fun k_ hk_ => ⟨hk_.1.1.2, fun e_ => Or.elim (ho0.1 k_ e_.symm) (fun hs_ => hk_.2.1 hs_) (fun hn_ => Nat.not_le.2 hk_.2.2 hn_)⟩)); have n1_ := Aside0.mk (blk_kept (by (with_reducible repeat (first | refine blk_drewN ?_ _ | refine blk_drew ?_ | refine blk_alloc ?_ _)); exact BK452.out) hkp (fun hs_ => Or.elim hs_ (fun e_ => (fun e_ => (Kd.R_ne HO_453000.out BK452.out (by decide)) e_) e_) (fun e_ => (fun e_ => (Kd.R_ne HO_453001.out BK452.out (by decide)) e_) e_))); have n2_ := Aside0.mk (Kd.R_mono (ok' := fun k_ => some k_ ≠ (u9 : Value).ownBlock ∧ some k_ ≠ (v459 : Value).ownBlock) (Kd.R_keptB ((Kd.R_apart' HO457.out (Kd.R_typed HO_453001.out) (by decide))) hkp (fun k_ hk_ hs_ => Or.elim hs_ (fun e_ => (hk_.1.2) e_) (fun e_ => (hk_.2) e_))) (fun k_ hk_ => ⟨hk_.1.1.1.2, fun e_ => Or.elim (ho0.1 k_ e_.symm) (fun hs_ => hk_.2.1 hs_) (fun hn_ => Nat.not_le.2 hk_.2.2 hn_)⟩)); have n3_ := Aside0.mk (Kd.R_mono (ok' := fun k_ => some k_ ≠ (u9 : Value).ownBlock ∧ some k_ ≠ (.slice Ao57 y455.length co57 : Value).ownBlock) ho0 (fun k_ hk_ => ⟨Or.elim hk_ (fun hs_ => Or.elim hs_ (fun hs_ => fun e_ => ((((Kd.R_apart' HO_9.out (Kd.R_typed HO_453001.out) (by decide))).1 k_ e_.symm).1.1) hs_) (fun hs_ => fun e_ => ((((Kd.R_apart' HO_9.out (Kd.R_typed HO_453001.out) (by decide))).1 k_ e_.symm).2) hs_)) (fun hn_ => (Kd.fresh' (Kd.R_lt (by (with_reducible repeat (first | apply Kd.R_alloc | apply Kd.R_drewN | apply Kd.R_drew)); exact HO_9.out)) k_ hn_)), Or.elim hk_ (fun hs_ => Or.elim hs_ (fun hs_ => fun e_ => ((((Kd.R_apart' HO457.out (Kd.R_typed HO_453001.out) (by decide))).1 k_ e_.symm).1.2) hs_) (fun hs_ => fun e_ => ((((Kd.R_apart' HO457.out (Kd.R_typed HO_453001.out) (by decide))).1 k_ e_.symm).2) hs_)) (fun hn_ => (Kd.fresh' (Kd.R_lt (by (with_reducible repeat (first | apply Kd.R_alloc | apply Kd.R_drewN | apply Kd.R_drew)); exact HO457.out)) k_ hn_))⟩)); have n4_ := Aside0.mk (Kd.R_mono (ok' := fun k_ => True) ho1 (fun k_ hk_ => trivial)); have n5_ := Aside0.mk (hb); clear HO_9; clear BK452; clear HO457; clear HB; clear HO_453000; clear HO_453001; have HO_9 := n0_; have BK452 := n1_; have HO457 := n2_; have HO460 := n3_; have HO463 := n4_; have HB := n5_; clear n0_ n1_ n2_ n3_ n4_ n5_; (try clear hb); (try clear hkp); (try clear ho0); (try clear ho1)) | ((with_reducible refine gate_dst (N := 12) rfl ?_); (try (refine gate_guard (by rfl) ?_; dsimp only)); refine box_event ?hg (N := 12) ?hd (cs := #[.slice none 0 0, .slice none 0 0]) (t := 25) ?hr ?_; (case hd => rfl); (case hg => rfl); (case hr => first | (go_simp; done) | (go_simp; rfl)); intro gb466 hg w59 hbox hb; have n0_ := Aside0.mk (Kd.R_below (by (with_reducible repeat (first | apply Kd.R_alloc | apply Kd.R_drewN | apply Kd.R_drew)); exact HO_9.out) hb); have n1_ := Aside0.mk (Kd.R_below (by (with_reducible repeat (first | apply Kd.R_alloc | apply Kd.R_drewN | apply Kd.R_drew)); exact HO457.out) hb); have n2_ := Aside0.mk (Kd.R_below (by (with_reducible repeat (first | apply Kd.R_alloc | apply Kd.R_drewN | apply Kd.R_drew)); exact HO460.out) hb); have n3_ := Aside0.mk (Kd.R_below (by (with_reducible repeat (first | apply Kd.R_alloc | apply Kd.R_drewN | apply Kd.R_drew)); exact HO463.out) hb); have n4_ := Aside0.mk (blk_below (g := gb452) (o := .cells #[.slice Ao55 x453000_1.length co55, .slice Ao56 x453001_1.length co56] 25 (0, 0)) (by (with_reducible repeat (first | refine blk_drewN ?_ _ | refine blk_drew ?_ | refine blk_alloc ?_ _)); exact BK452.out) hb); have n5_ := Aside0.mk (below_step (by repeat (first | (with_reducible first | exact HB.out | apply below_alloc | apply pw_below_drewN | apply below_drew1 | refine below_set ?_ GE452.out) | exact HB.out)) hb); have n6_ := Aside0.mk (hbox); have n7_ := Aside0.mk ((by rw [hg]; exact (below_size (by repeat (first | (with_reducible first | exact HB.out | apply below_alloc | apply pw_below_drewN | apply below_drew1 | refine below_set ?_ GE452.out) | exact HB.out))) : w.heap.size ≤ gb466)); have n8_ := Aside0.mk ((by rw [hg]; exact (below_size (by repeat (first | (with_reducible first | exact HB.out | apply below_alloc | apply pw_below_drewN | apply below_drew1 | refine below_set ?_ GE452.out) | exact HB.out))) : w.heap.size ≤ gb466)); have n9_ := Aside0.mk ((by rw [hg]; exact Nat.ne_of_lt (blk_lt (g := gb452) (o := .cells #[.slice Ao55 x453000_1.length co55, .slice Ao56 x453001_1.length co56] 25 (0, 0)) (by (with_reducible repeat (first | refine blk_drewN ?_ _ | refine blk_drew ?_ | refine blk_alloc ?_ _)); exact BK452.out)) : gb452 ≠ gb466)); have n10_ := Aside0.mk ((by rw [hg]; exact Nat.ne_of_gt (blk_lt (g := gb452) (o := .cells #[.slice Ao55 x453000_1.length co55, .slice Ao56 x453001_1.length co56] 25 (0, 0)) (by (with_reducible repeat (first | refine blk_drewN ?_ _ | refine blk_drew ?_ | refine blk_alloc ?_ _)); exact BK452.out)) : gb466 ≠ gb452)); clear HO_9; clear HO457; clear HO460; clear HO463; clear BK452; clear HB; have HO_9 := n0_; have HO457 := n1_; have HO460 := n2_; have HO463 := n3_; have BK452 := n4_; have HB := n5_; have BK466 := n6_; have GW466 := n7_; have GE466 := n8_; have NB452_466 := n9_; have NB466_452 := n10_; clear n0_ n1_ n2_ n3_ n4_ n5_ n6_ n7_ n8_ n9_ n10_; clear hb hbox hg; obtain ⟨Ao60, co60, eo60⟩ := Kd.R_slice HO460.out; subst eo60; have hnb61 := NB466_452.out; have hnc61 := NB452_466.out; have hcz62_0 : w59.cell? ⟨gb466, 0, none⟩ = some (.slice none 0 0) := (blk_cell BK466.out 0).trans rfl; have hcz62_1 : w59.cell? ⟨gb466, 1, none⟩ = some (.slice none 0 0) := (blk_cell BK466.out 1).trans rfl; have hfz62_0 := blk_frozen BK466.out 0; have hfz62_1 := blk_frozen BK466.out 1; obtain ⟨Ao63, co63, eo63⟩ := Kd.R_slice HO463.out; subst eo63) | (go_at_call 33; (with_reducible refine (journal_Need.calls ((rdOf ByteArray.empty l1 x38_1).size : Int) t467 _ A49.out).mono ?_); rintro e w64 ⟨rfl, hb⟩; have n0_ := Aside0.mk (Kd.R_below (by (with_reducible repeat (first | apply Kd.R_alloc | apply Kd.R_drewN | apply Kd.R_drew)); exact (Kd.R_mono (Kd.R_far (p := ⟨gb466, 1, none⟩) (Kd.R_far (p := ⟨gb466, 0, none⟩) (Kd.R_types HO_9.out BK466.out (by decide)) (fun _ hk => hk.2) (.slice Ao60 t458.length co60)) (fun _ hk => hk.2) (.slice Ao63 t461.length co63)) (fun _ h_ => h_.1))) hb); have n1_ := Aside0.mk (Kd.R_below (by (with_reducible repeat (first | apply Kd.R_alloc | apply Kd.R_drewN | apply Kd.R_drew)); exact (Kd.R_mono (Kd.R_far (p := ⟨gb466, 1, none⟩) (Kd.R_far (p := ⟨gb466, 0, none⟩) (Kd.R_types HO457.out BK466.out (by decide)) (fun _ hk => hk.2) (.slice Ao60 t458.length co60)) (fun _ hk => hk.2) (.slice Ao63 t461.length co63)) (fun _ h_ => h_.1))) hb); have n2_ := Aside0.mk (Kd.R_below (by (with_reducible repeat (first | apply Kd.R_alloc | apply Kd.R_drewN | apply Kd.R_drew)); exact (Kd.R_mono (Kd.R_far (p := ⟨gb466, 1, none⟩) (Kd.R_far (p := ⟨gb466, 0, none⟩) (Kd.R_types HO460.out BK466.out (by decide)) (fun _ hk => hk.2) (.slice Ao60 t458.length co60)) (fun _ hk => hk.2) (.slice Ao63 t461.length co63)) (fun _ h_ => h_.1))) hb); have n3_ := Aside0.mk (Kd.R_below (by (with_reducible repeat (first | apply Kd.R_alloc | apply Kd.R_drewN | apply Kd.R_drew)); exact (Kd.R_mono (Kd.R_far (p := ⟨gb466, 1, none⟩) (Kd.R_far (p := ⟨gb466, 0, none⟩) (Kd.R_types HO463.out BK466.out (by decide)) (fun _ hk => hk.2) (.slice Ao60 t458.length co60)) (fun _ hk => hk.2) (.slice Ao63 t461.length co63)) (fun _ h_ => h_.1))) hb); have n4_ := Aside0.mk (blk_below (g := gb452) (o := .cells #[.slice Ao55 x453000_1.length co55, .slice Ao56 x453001_1.length co56] 25 (0, 0)) (by (with_reducible repeat (first | refine blk_drewN ?_ _ | refine blk_drew ?_ | refine blk_alloc ?_ _)); refine blk_far ?_ NB452_466.out _; (with_reducible repeat (first | refine blk_drewN ?_ _ | refine blk_drew ?_ | refine blk_alloc ?_ _)); refine blk_far ?_ NB452_466.out _; (with_reducible repeat (first | refine blk_drewN ?_ _ | refine blk_drew ?_ | refine blk_alloc ?_ _)); exact BK452.out) hb); have n5_ := Aside0.mk (blk_below (g := gb466) (o := .cells #[.slice Ao60 t458.length co60, .slice Ao63 t461.length co63] 25 (0, 0)) (by (with_reducible repeat (first | refine blk_drewN ?_ _ | refine blk_drew ?_ | refine blk_alloc ?_ _)); refine blk_put (cs := #[.slice Ao60 t458.length co60, .slice none 0 0]) ?_ 1 _ rfl; (with_reducible repeat (first | refine blk_drewN ?_ _ | refine blk_drew ?_ | refine blk_alloc ?_ _)); refine blk_put (cs := #[.slice none 0 0, .slice none 0 0]) ?_ 0 _ rfl; (with_reducible repeat (first | refine blk_drewN ?_ _ | refine blk_drew ?_ | refine blk_alloc ?_ _)); exact BK466.out) hb); have n6_ := Aside0.mk (below_step (by repeat (first | (with_reducible first | exact HB.out | apply below_alloc | apply pw_below_drewN | apply below_drew1 | refine below_set ?_ GE452.out | refine below_set ?_ GE466.out) | exact HB.out)) hb); clear HO_9; clear HO457; clear HO460; clear HO463; clear BK452; clear BK466; clear HB; have HO_9 := n0_; have HO457 := n1_; have HO460 := n2_; have HO463 := n3_; have BK452 := n4_; have BK466 := n5_; have HB := n6_; clear n0_ n1_ n2_ n3_ n4_ n5_ n6_; (try clear hb); (try clear hb2); (try clear hk); (try clear hi)) | (go_at_call 27; (with_reducible refine (weirkeeperlaw08_awake.calls k1 _ A51.out).mono ?_); rintro e w65 ⟨rfl, hb⟩; have n0_ := Aside0.mk (Kd.R_below (by (with_reducible repeat (first | apply Kd.R_alloc | apply Kd.R_drewN | apply Kd.R_drew)); exact HO_9.out) hb); have n1_ := Aside0.mk (Kd.R_below (by (with_reducible repeat (first | apply Kd.R_alloc | apply Kd.R_drewN | apply Kd.R_drew)); exact HO457.out) hb); have n2_ := Aside0.mk (Kd.R_below (by (with_reducible repeat (first | apply Kd.R_alloc | apply Kd.R_drewN | apply Kd.R_drew)); exact HO460.out) hb); have n3_ := Aside0.mk (Kd.R_below (by (with_reducible repeat (first | apply Kd.R_alloc | apply Kd.R_drewN | apply Kd.R_drew)); exact HO463.out) hb); have n4_ := Aside0.mk (blk_below (g := gb452) (o := .cells #[.slice Ao55 x453000_1.length co55, .slice Ao56 x453001_1.length co56] 25 (0, 0)) (by (with_reducible repeat (first | refine blk_drewN ?_ _ | refine blk_drew ?_ | refine blk_alloc ?_ _)); exact BK452.out) hb); have n5_ := Aside0.mk (blk_below (g := gb466) (o := .cells #[.slice Ao60 t458.length co60, .slice Ao63 t461.length co63] 25 (0, 0)) (by (with_reducible repeat (first | refine blk_drewN ?_ _ | refine blk_drew ?_ | refine blk_alloc ?_ _)); exact BK466.out) hb); have n6_ := Aside0.mk (below_step (by repeat (first | (with_reducible first | exact HB.out | apply below_alloc | apply pw_below_drewN | apply below_drew1 | refine below_set ?_ GE452.out | refine below_set ?_ GE466.out) | exact HB.out)) hb); clear HO_9; clear HO457; clear HO460; clear HO463; clear BK452; clear BK466; clear HB; have HO_9 := n0_; have HO457 := n1_; have HO460 := n2_; have HO463 := n3_; have BK452 := n4_; have BK466 := n5_; have HB := n6_; clear n0_ n1_ n2_ n3_ n4_ n5_ n6_; (try clear hb); (try clear hb2); (try clear hk); (try clear hi)))
                        go_ret
                        exact ⟨by first | rfl | (simp only [h9_.out]; done) | (have h8_ := h9_.out; simp [h8_]; done) | (simp [errW_none, errW_some] <;> rfl) | (simp [*, errW_none, errW_some] <;> rfl), by repeat (first | (with_reducible first | exact HB.out | apply below_alloc | apply pw_below_drewN | apply below_drew1 | refine below_set ?_ GE452.out | refine below_set ?_ GE466.out) | exact HB.out)⟩
                      · rw [if_neg c50] at H
                        have c50b0 : decide (128 < (wrap64 (x8_1 + t467))) = false := decide_eq_false c50
                        clear c50
                        exact absurd H (by simp)
                    · rw [if_neg c48] at H
                      have c48b0 : (t464 == x8_1) = false := beq_eq_false_iff_ne.mpr c48
                      have c48b1 : (t464 != x8_1) = true := bne_iff_ne.mpr c48
                      exact absurd H (by simp)
                  · rw [if_neg c47] at H
                    have c47b0 : (t465 == 6) = false := beq_eq_false_iff_ne.mpr c47
                    have c47b1 : (t465 != 6) = true := bne_iff_ne.mpr c47
                    exact absurd H (by simp)
            · rw [if_neg c14] at H
              exact absurd H (by simp)
          · rw [if_neg c13] at H
            exact absurd H (by simp)
        · rw [if_neg c12] at H
          have c12b0 : decide (x38_1 < (l1.length : Int)) = false := decide_eq_false c12
          clear c12
          replace H := Option.bind_eq_some_iff.mp H
          obtain ⟨⟨t478, t481⟩, A660, H⟩ := H
          replace H : ((journal_Texts.f k1 t478 t481 (wrap64 (1 + (wrap64 (Int.tmod a0 2147483646))))).bind fun bt484 => ((journal_Texts.f k1 x453000_1 x453001_1 (wrap64 ((wrap64 (1 + (wrap64 (Int.tmod a0 2147483646)))) + 1))).bind fun bt489 => (if bt484.2.2 = 0 then (if bt484.2.1 = x8_1 then ((weirkeeperref01_Same.f k1 bt484.1 x9_1).bind fun t494 => (if t494 = true then (if bt489.2.2 = 0 then (if (bt489.1.length : Int) = 0 then (if bt489.2.1 = 0 then ((weirkeeperlaw08_awake.f k1).bind fun t495 => (some t495)) else (some false)) else (some false)) else (some false)) else (some false))) else (some false)) else (some false)))) = some true := H
          have A66 := Aside0.mk A660
          clear A660
          replace H := Option.bind_eq_some_iff.mp H
          obtain ⟨⟨t484, t487, t488⟩, A670, H⟩ := H
          replace H : ((journal_Texts.f k1 x453000_1 x453001_1 (wrap64 ((wrap64 (1 + (wrap64 (Int.tmod a0 2147483646)))) + 1))).bind fun bt489 => (if t488 = 0 then (if t487 = x8_1 then ((weirkeeperref01_Same.f k1 t484 x9_1).bind fun t494 => (if t494 = true then (if bt489.2.2 = 0 then (if (bt489.1.length : Int) = 0 then (if bt489.2.1 = 0 then ((weirkeeperlaw08_awake.f k1).bind fun t495 => (some t495)) else (some false)) else (some false)) else (some false)) else (some false))) else (some false)) else (some false))) = some true := H
          have A67 := Aside0.mk A670
          clear A670
          replace H := Option.bind_eq_some_iff.mp H
          obtain ⟨⟨t489, t492, t493⟩, A680, H⟩ := H
          replace H : (if t488 = 0 then (if t487 = x8_1 then ((weirkeeperref01_Same.f k1 t484 x9_1).bind fun t494 => (if t494 = true then (if t493 = 0 then (if (t489.length : Int) = 0 then (if t492 = 0 then ((weirkeeperlaw08_awake.f k1).bind fun t495 => (some t495)) else (some false)) else (some false)) else (some false)) else (some false))) else (some false)) else (some false)) = some true := H
          have A68 := Aside0.mk A680
          clear A680
          by_cases c69 : t488 = 0
          · rw [if_pos c69] at H
            have c69b0 : (t488 == 0) = true := beq_iff_eq.mpr c69
            have c69b1 : (t488 != 0) = false := bne_eq_false_iff_eq.mpr c69
            clear c69
            by_cases c70 : t487 = x8_1
            · rw [if_pos c70] at H
              have c70b0 : (t487 == x8_1) = true := beq_iff_eq.mpr c70
              have c70b1 : (t487 != x8_1) = false := bne_eq_false_iff_eq.mpr c70
              clear c70
              replace H := Option.bind_eq_some_iff.mp H
              obtain ⟨t494, A710, H⟩ := H
              replace H : (if t494 = true then (if t493 = 0 then (if (t489.length : Int) = 0 then (if t492 = 0 then ((weirkeeperlaw08_awake.f k1).bind fun t495 => (some t495)) else (some false)) else (some false)) else (some false)) else (some false)) = some true := H
              have A71 := Aside0.mk A710
              clear A710
              by_cases c72 : t494 = true
              · subst c72
                have H1 : (if t493 = 0 then (if (t489.length : Int) = 0 then (if t492 = 0 then ((weirkeeperlaw08_awake.f k1).bind fun t495 => (some t495)) else (some false)) else (some false)) else (some false)) = some true := by rw [if_pos rfl] at H; exact H
                clear H
                have H := H1
                clear H1
                by_cases c73 : t493 = 0
                · rw [if_pos c73] at H
                  have c73b0 : (t493 == 0) = true := beq_iff_eq.mpr c73
                  have c73b1 : (t493 != 0) = false := bne_eq_false_iff_eq.mpr c73
                  clear c73
                  by_cases c74 : (t489.length : Int) = 0
                  · rw [if_pos c74] at H
                    have c74b0 : ((t489.length : Int) == 0) = true := beq_iff_eq.mpr c74
                    have c74b1 : ((t489.length : Int) != 0) = false := bne_eq_false_iff_eq.mpr c74
                    clear c74
                    by_cases c75 : t492 = 0
                    · rw [if_pos c75] at H
                      have c75b0 : (t492 == 0) = true := beq_iff_eq.mpr c75
                      have c75b1 : (t492 != 0) = false := bne_eq_false_iff_eq.mpr c75
                      clear c75
                      replace H := Option.bind_eq_some_iff.mp H
                      obtain ⟨t495, A760, H⟩ := H
                      replace H : (some t495) = some true := H
                      have A76 := Aside0.mk A760
                      clear A760
                      (have H9_ := Option.some.inj H; first | subst H9_ | (have h9_ := Aside0.mk H9_; clear H9_))
                      have hcz77_0 : wr.cell? ⟨gb452, 0, none⟩ = some (u453000) := (blk_cell BK452.out 0).trans rfl
                      have hcz77_1 : wr.cell? ⟨gb452, 1, none⟩ = some (u453001) := (blk_cell BK452.out 1).trans rfl
                      have hfz77_0 := blk_frozen BK452.out 0
                      have hfz77_1 := blk_frozen BK452.out 1
                      obtain ⟨Ao78, co78, eo78⟩ := Kd.R_slice HO_453000.out
                      subst eo78
                      obtain ⟨Ao79, co79, eo79⟩ := Kd.R_slice HO_453001.out
                      subst eo79
                      go_wp2_with (first | ((with_reducible refine gate_callee (f := 22) rfl ?_); refine goesL_ (some 105) rfl rfl Try.func22 (by kernel_rfl) rfl #[.agg #[.slice Ao78 x453000_1.length co78, .slice Ao79 x453001_1.length co79]] rfl (by (try simp only [List.map_toArray, List.map_cons, List.map_nil]); first | done | rfl | (simp only [List.length_drop, List.length_take]; rfl)) ?_; (with_reducible refine (disk_Flush.calls _ _ x453000_1 _ _ x453001_1 t478 t481 _ ?side1 ?side2 ?side3 ?side4 A66.out).mono ?_); (case side1 => repeat (first | exact (Kd.R_reads' HO_453000.out).2.2 | (with_reducible refine Kd.C_alloc ?_ _) | (with_reducible refine Kd.C_drewN ?_ _) | (with_reducible refine Kd.C_drew ?_))); (case side2 => exact (Kd.R_reads' HO_453000.out).2.1); (case side3 => repeat (first | exact (Kd.R_reads' HO_453001.out).2.2 | (with_reducible refine Kd.C_alloc ?_ _) | (with_reducible refine Kd.C_drewN ?_ _) | (with_reducible refine Kd.C_drew ?_))); (case side4 => exact (Kd.R_reads' HO_453001.out).2.1); rintro e w80 ⟨v479, v482, rfl, ho0, ho1, hb⟩; refine ⟨_, rfl, ?_⟩; have n0_ := Aside0.mk (Kd.R_elder' (by (with_reducible repeat (first | apply Kd.R_alloc | apply Kd.R_drewN | apply Kd.R_drew)); exact HO_9.out) (Kd.R_base ho0) hb); have n1_ := Aside0.mk (Kd.R_elder' (by (with_reducible repeat (first | apply Kd.R_alloc | apply Kd.R_drewN | apply Kd.R_drew)); exact HO_453000.out) (Kd.R_base ho0) hb); have n2_ := Aside0.mk (Kd.R_elder' (by (with_reducible repeat (first | apply Kd.R_alloc | apply Kd.R_drewN | apply Kd.R_drew)); exact HO_453001.out) (Kd.R_base ho1) hb); have n3_ := Aside0.mk (Kd.R_lower (Kd.R_new' (Kd.R_new' ho0 (Kd.R_lt (by (with_reducible repeat (first | apply Kd.R_alloc | apply Kd.R_drewN | apply Kd.R_drew)); exact HO_9.out))) (Kd.R_lt (by (with_reducible repeat (first | apply Kd.R_alloc | apply Kd.R_drewN | apply Kd.R_drew)); exact HO_453000.out))) (below_size (by repeat (first | (with_reducible first | exact HB.out | apply below_alloc | apply pw_below_drewN | apply below_drew1 | refine below_set ?_ GE452.out) | exact HB.out)))); have n4_ := Aside0.mk (Kd.R_lower (Kd.R_new' ho1 (Kd.R_lt (by (with_reducible repeat (first | apply Kd.R_alloc | apply Kd.R_drewN | apply Kd.R_drew)); exact HO_453001.out))) (below_size (by repeat (first | (with_reducible first | exact HB.out | apply below_alloc | apply pw_below_drewN | apply below_drew1 | refine below_set ?_ GE452.out) | exact HB.out)))); have n5_ := Aside0.mk (blk_below (g := gb452) (o := .cells #[.slice Ao78 x453000_1.length co78, .slice Ao79 x453001_1.length co79] 25 (0, 0)) (by (with_reducible repeat (first | refine blk_drewN ?_ _ | refine blk_drew ?_ | refine blk_alloc ?_ _)); exact BK452.out) hb); have n6_ := Aside0.mk (below_step (by repeat (first | (with_reducible first | exact HB.out | apply below_alloc | apply pw_below_drewN | apply below_drew1 | refine below_set ?_ GE452.out) | exact HB.out)) hb); clear HO_9; clear HO_453000; clear HO_453001; clear BK452; clear HB; have HO_9 := n0_; have HO_453000 := n1_; have HO_453001 := n2_; have HO480 := n3_; have HO483 := n4_; have BK452 := n5_; have HB := n6_; clear n0_ n1_ n2_ n3_ n4_ n5_ n6_; (try clear hb); (try clear hb2); (try clear hk); (try clear hi); (try clear ho0); (try clear ho1); obtain ⟨Ao81, co81, eo81⟩ := Kd.R_slice HO480.out; subst eo81; obtain ⟨Ao82, co82, eo82⟩ := Kd.R_slice HO483.out; subst eo82) | ((with_reducible refine gate_callee (f := 35) rfl ?_); refine goesL_ (some 107) rfl rfl Try.func35 (by kernel_rfl) rfl #[.agg #[.slice Ao81 t478.length co81, .slice Ao82 t481.length co82], .int .i64 (wrap64 (1 + (wrap64 (Int.tmod a0 2147483646))))] rfl (by (try simp only [List.map_toArray, List.map_cons, List.map_nil]); first | done | rfl | (simp only [List.length_drop, List.length_take]; rfl)) ?_; (with_reducible refine (journal_Texts.calls k1 _ _ t478 _ _ t481 (wrap64 (1 + (wrap64 (Int.tmod a0 2147483646)))) t484 t487 t488 _ ?side1 ?side2 ?side3 ?side4 A67.out).mono ?_); (case side1 => repeat (first | exact (Kd.R_reads' HO480.out).2.2 | (with_reducible refine Kd.C_alloc ?_ _) | (with_reducible refine Kd.C_drewN ?_ _) | (with_reducible refine Kd.C_drew ?_))); (case side2 => exact (Kd.R_reads' HO480.out).2.1); (case side3 => repeat (first | exact (Kd.R_reads' HO483.out).2.2 | (with_reducible refine Kd.C_alloc ?_ _) | (with_reducible refine Kd.C_drewN ?_ _) | (with_reducible refine Kd.C_drew ?_))); (case side4 => exact (Kd.R_reads' HO483.out).2.1); rintro e w83 ⟨v485, rfl, ho0, hb⟩; refine ⟨_, rfl, ?_⟩; have n0_ := Aside0.mk (Kd.R_elder' (by (with_reducible repeat (first | apply Kd.R_alloc | apply Kd.R_drewN | apply Kd.R_drew)); exact HO_9.out) (Kd.R_base ho0) hb); have n1_ := Aside0.mk (Kd.R_elder' (by (with_reducible repeat (first | apply Kd.R_alloc | apply Kd.R_drewN | apply Kd.R_drew)); exact HO_453000.out) (Kd.R_base ho0) hb); have n2_ := Aside0.mk (Kd.R_below (by (with_reducible repeat (first | apply Kd.R_alloc | apply Kd.R_drewN | apply Kd.R_drew)); exact HO_453001.out) hb); have n3_ := Aside0.mk (Kd.R_elder' (by (with_reducible repeat (first | apply Kd.R_alloc | apply Kd.R_drewN | apply Kd.R_drew)); exact HO480.out) (Kd.R_base ho0) hb); have n4_ := Aside0.mk (Kd.R_below (by (with_reducible repeat (first | apply Kd.R_alloc | apply Kd.R_drewN | apply Kd.R_drew)); exact HO483.out) hb); have n5_ := Aside0.mk (Kd.R_lower (Kd.R_new' (Kd.R_new' (Kd.R_new' ho0 (Kd.R_lt (by (with_reducible repeat (first | apply Kd.R_alloc | apply Kd.R_drewN | apply Kd.R_drew)); exact HO_9.out))) (Kd.R_lt (by (with_reducible repeat (first | apply Kd.R_alloc | apply Kd.R_drewN | apply Kd.R_drew)); exact HO_453000.out))) (Kd.R_lt (by (with_reducible repeat (first | apply Kd.R_alloc | apply Kd.R_drewN | apply Kd.R_drew)); exact HO480.out))) (below_size (by repeat (first | (with_reducible first | exact HB.out | apply below_alloc | apply pw_below_drewN | apply below_drew1 | refine below_set ?_ GE452.out) | exact HB.out)))); have n6_ := Aside0.mk (blk_below (g := gb452) (o := .cells #[.slice Ao78 x453000_1.length co78, .slice Ao79 x453001_1.length co79] 25 (0, 0)) (by (with_reducible repeat (first | refine blk_drewN ?_ _ | refine blk_drew ?_ | refine blk_alloc ?_ _)); exact BK452.out) hb); have n7_ := Aside0.mk (below_step (by repeat (first | (with_reducible first | exact HB.out | apply below_alloc | apply pw_below_drewN | apply below_drew1 | refine below_set ?_ GE452.out) | exact HB.out)) hb); clear HO_9; clear HO_453000; clear HO_453001; clear HO480; clear HO483; clear BK452; clear HB; have HO_9 := n0_; have HO_453000 := n1_; have HO_453001 := n2_; have HO480 := n3_; have HO483 := n4_; have HO486 := n5_; have BK452 := n6_; have HB := n7_; clear n0_ n1_ n2_ n3_ n4_ n5_ n6_ n7_; (try clear hb); (try clear hb2); (try clear hk); (try clear hi); (try clear ho0); have hcz84_0 : w83.cell? ⟨gb452, 0, none⟩ = some (.slice Ao78 x453000_1.length co78) := (blk_cell BK452.out 0).trans rfl; have hcz84_1 : w83.cell? ⟨gb452, 1, none⟩ = some (.slice Ao79 x453001_1.length co79) := (blk_cell BK452.out 1).trans rfl; have hfz84_0 := blk_frozen BK452.out 0; have hfz84_1 := blk_frozen BK452.out 1) | ((with_reducible refine gate_callee (f := 35) rfl ?_); refine goesL_ (some 115) rfl rfl Try.func35 (by kernel_rfl) rfl #[.agg #[.slice Ao78 x453000_1.length co78, .slice Ao79 x453001_1.length co79], .int .i64 (wrap64 ((wrap64 (1 + (wrap64 (Int.tmod a0 2147483646)))) + 1))] rfl (by (try simp only [List.map_toArray, List.map_cons, List.map_nil]); first | done | rfl | (simp only [List.length_drop, List.length_take]; rfl)) ?_; (with_reducible refine (journal_Texts.calls k1 _ _ x453000_1 _ _ x453001_1 (wrap64 ((wrap64 (1 + (wrap64 (Int.tmod a0 2147483646)))) + 1)) t489 t492 t493 _ ?side1 ?side2 ?side3 ?side4 A68.out).mono ?_); (case side1 => repeat (first | exact (Kd.R_reads' HO_453000.out).2.2 | (with_reducible refine Kd.C_alloc ?_ _) | (with_reducible refine Kd.C_drewN ?_ _) | (with_reducible refine Kd.C_drew ?_))); (case side2 => exact (Kd.R_reads' HO_453000.out).2.1); (case side3 => repeat (first | exact (Kd.R_reads' HO_453001.out).2.2 | (with_reducible refine Kd.C_alloc ?_ _) | (with_reducible refine Kd.C_drewN ?_ _) | (with_reducible refine Kd.C_drew ?_))); (case side4 => exact (Kd.R_reads' HO_453001.out).2.1); rintro e w85 ⟨v490, rfl, ho0, hb⟩; refine ⟨_, rfl, ?_⟩; have n0_ := Aside0.mk (Kd.R_elder' (by (with_reducible repeat (first | apply Kd.R_alloc | apply Kd.R_drewN | apply Kd.R_drew)); exact HO_9.out) (Kd.R_base ho0) hb); have n1_ := Aside0.mk (Kd.R_elder' (by (with_reducible repeat (first | apply Kd.R_alloc | apply Kd.R_drewN | apply Kd.R_drew)); exact HO_453000.out) (Kd.R_base ho0) hb); have n2_ := Aside0.mk (Kd.R_below (by (with_reducible repeat (first | apply Kd.R_alloc | apply Kd.R_drewN | apply Kd.R_drew)); exact HO_453001.out) hb); have n3_ := Aside0.mk (Kd.R_elder' (by (with_reducible repeat (first | apply Kd.R_alloc | apply Kd.R_drewN | apply Kd.R_drew)); exact HO480.out) (Kd.R_base ho0) hb); have n4_ := Aside0.mk (Kd.R_below (by (with_reducible repeat (first | apply Kd.R_alloc | apply Kd.R_drewN | apply Kd.R_drew)); exact HO483.out) hb); have n5_ := Aside0.mk (Kd.R_elder' (by (with_reducible repeat (first | apply Kd.R_alloc | apply Kd.R_drewN | apply Kd.R_drew)); exact HO486.out) (Kd.R_base ho0) hb); have n6_ := Aside0.mk (Kd.R_lower (Kd.R_new' (Kd.R_new' (Kd.R_new' (Kd.R_new' ho0 (Kd.R_lt (by (with_reducible repeat (first | apply Kd.R_alloc | apply Kd.R_drewN | apply Kd.R_drew)); exact HO_9.out))) (Kd.R_lt (by (with_reducible repeat (first | apply Kd.R_alloc | apply Kd.R_drewN | apply Kd.R_drew)); exact HO_453000.out))) (Kd.R_lt (by (with_reducible repeat (first | apply Kd.R_alloc | apply Kd.R_drewN | apply Kd.R_drew)); exact HO480.out))) (Kd.R_lt (by (with_reducible repeat (first | apply Kd.R_alloc | apply Kd.R_drewN | apply Kd.R_drew)); exact HO486.out))) (below_size (by repeat (first | (with_reducible first | exact HB.out | apply below_alloc | apply pw_below_drewN | apply below_drew1 | refine below_set ?_ GE452.out) | exact HB.out)))); have n7_ := Aside0.mk (blk_below (g := gb452) (o := .cells #[.slice Ao78 x453000_1.length co78, .slice Ao79 x453001_1.length co79] 25 (0, 0)) (by (with_reducible repeat (first | refine blk_drewN ?_ _ | refine blk_drew ?_ | refine blk_alloc ?_ _)); exact BK452.out) hb); have n8_ := Aside0.mk (below_step (by repeat (first | (with_reducible first | exact HB.out | apply below_alloc | apply pw_below_drewN | apply below_drew1 | refine below_set ?_ GE452.out) | exact HB.out)) hb); clear HO_9; clear HO_453000; clear HO_453001; clear HO480; clear HO483; clear HO486; clear BK452; clear HB; have HO_9 := n0_; have HO_453000 := n1_; have HO_453001 := n2_; have HO480 := n3_; have HO483 := n4_; have HO486 := n5_; have HO491 := n6_; have BK452 := n7_; have HB := n8_; clear n0_ n1_ n2_ n3_ n4_ n5_ n6_ n7_ n8_; (try clear hb); (try clear hb2); (try clear hk); (try clear hi); (try clear ho0); obtain ⟨Ao86, co86, eo86⟩ := Kd.R_slice HO486.out; subst eo86; obtain ⟨Ao87, co87, eo87⟩ := Kd.R_slice HO_9.out; subst eo87) | (go_at_call 32; (with_reducible refine (weirkeeperref01_Same.calls k1 _ _ t484 _ _ x9_1 true _ ?side1 ?side2 ?side3 ?side4 A71.out).mono ?_); (case side1 => repeat (first | exact (Kd.R_reads' HO486.out).2.2 | (with_reducible refine Kd.C_alloc ?_ _) | (with_reducible refine Kd.C_drewN ?_ _) | (with_reducible refine Kd.C_drew ?_))); (case side2 => exact (Kd.R_reads' HO486.out).2.1); (case side3 => repeat (first | exact (Kd.R_reads' HO_9.out).2.2 | (with_reducible refine Kd.C_alloc ?_ _) | (with_reducible refine Kd.C_drewN ?_ _) | (with_reducible refine Kd.C_drew ?_))); (case side4 => exact (Kd.R_reads' HO_9.out).2.1); rintro e w' ⟨rfl, ⟨nd, rfl⟩⟩; obtain ⟨Ao88, co88, eo88⟩ := Kd.R_slice HO491.out; subst eo88) | (go_at_call 27; (with_reducible refine (weirkeeperlaw08_awake.calls k1 _ A76.out).mono ?_); rintro e w89 ⟨rfl, hb⟩; have n0_ := Aside0.mk (Kd.R_below (by (with_reducible repeat (first | apply Kd.R_alloc | apply Kd.R_drewN | apply Kd.R_drew)); exact HO_9.out) hb); have n1_ := Aside0.mk (Kd.R_below (by (with_reducible repeat (first | apply Kd.R_alloc | apply Kd.R_drewN | apply Kd.R_drew)); exact HO_453000.out) hb); have n2_ := Aside0.mk (Kd.R_below (by (with_reducible repeat (first | apply Kd.R_alloc | apply Kd.R_drewN | apply Kd.R_drew)); exact HO_453001.out) hb); have n3_ := Aside0.mk (Kd.R_below (by (with_reducible repeat (first | apply Kd.R_alloc | apply Kd.R_drewN | apply Kd.R_drew)); exact HO480.out) hb); have n4_ := Aside0.mk (Kd.R_below (by (with_reducible repeat (first | apply Kd.R_alloc | apply Kd.R_drewN | apply Kd.R_drew)); exact HO483.out) hb); have n5_ := Aside0.mk (Kd.R_below (by (with_reducible repeat (first | apply Kd.R_alloc | apply Kd.R_drewN | apply Kd.R_drew)); exact HO486.out) hb); have n6_ := Aside0.mk (Kd.R_below (by (with_reducible repeat (first | apply Kd.R_alloc | apply Kd.R_drewN | apply Kd.R_drew)); exact HO491.out) hb); have n7_ := Aside0.mk (blk_below (g := gb452) (o := .cells #[.slice Ao78 x453000_1.length co78, .slice Ao79 x453001_1.length co79] 25 (0, 0)) (by (with_reducible repeat (first | refine blk_drewN ?_ _ | refine blk_drew ?_ | refine blk_alloc ?_ _)); exact BK452.out) hb); have n8_ := Aside0.mk (below_step (by repeat (first | (with_reducible first | exact HB.out | apply below_alloc | apply pw_below_drewN | apply below_drew1 | refine below_set ?_ GE452.out) | exact HB.out)) hb); clear HO_9; clear HO_453000; clear HO_453001; clear HO480; clear HO483; clear HO486; clear HO491; clear BK452; clear HB; have HO_9 := n0_; have HO_453000 := n1_; have HO_453001 := n2_; have HO480 := n3_; have HO483 := n4_; have HO486 := n5_; have HO491 := n6_; have BK452 := n7_; have HB := n8_; clear n0_ n1_ n2_ n3_ n4_ n5_ n6_ n7_ n8_; (try clear hb); (try clear hb2); (try clear hk); (try clear hi)))
                      go_ret
                      exact ⟨by first | rfl | (simp only [h9_.out]; done) | (have h8_ := h9_.out; simp [h8_]; done) | (simp [errW_none, errW_some] <;> rfl) | (simp [*, errW_none, errW_some] <;> rfl), by repeat (first | (with_reducible first | exact HB.out | apply below_alloc | apply pw_below_drewN | apply below_drew1 | refine below_set ?_ GE452.out) | exact HB.out)⟩
                    · rw [if_neg c75] at H
                      have c75b0 : (t492 == 0) = false := beq_eq_false_iff_ne.mpr c75
                      have c75b1 : (t492 != 0) = true := bne_iff_ne.mpr c75
                      exact absurd H (by simp)
                  · rw [if_neg c74] at H
                    have c74b0 : ((t489.length : Int) == 0) = false := beq_eq_false_iff_ne.mpr c74
                    have c74b1 : ((t489.length : Int) != 0) = true := bne_iff_ne.mpr c74
                    have c74b2 : ¬ (t489 = []) := fun h_ => c74 (by rw [h_]; rfl)
                    exact absurd H (by simp)
                · rw [if_neg c73] at H
                  have c73b0 : (t493 == 0) = false := beq_eq_false_iff_ne.mpr c73
                  have c73b1 : (t493 != 0) = true := bne_iff_ne.mpr c73
                  exact absurd H (by simp)
              · replace c72 := Bool.eq_false_iff.mpr c72
                subst c72
                have H1 : (some false) = some true := by rw [if_neg (show ¬ (false = true) by decide)] at H; exact H
                clear H
                have H := H1
                clear H1
                exact absurd H (by simp)
            · rw [if_neg c70] at H
              have c70b0 : (t487 == x8_1) = false := beq_eq_false_iff_ne.mpr c70
              have c70b1 : (t487 != x8_1) = true := bne_iff_ne.mpr c70
              exact absurd H (by simp)
          · rw [if_neg c69] at H
            have c69b0 : (t488 == 0) = false := beq_eq_false_iff_ne.mpr c69
            have c69b1 : (t488 != 0) = true := bne_iff_ne.mpr c69
            exact absurd H (by simp)

end Go.Proofs.Ytpkapldkmleppaa.F
