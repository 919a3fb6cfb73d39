/- Contracts of Go functions of the seat Ythidkdlmpkeogaa: what a call comes to; no condition but those that each theorem names. -/
import Derived.Test.YthidkdlmpkeogaaFPre
import Derived.Test.YthidkdlmpkeogaaFdiskN
import Derived.Test.YthidkdlmpkeogaaFdiskD
import Derived.Test.YthidkdlmpkeogaaFdiskB
import Derived.Test.YthidkdlmpkeogaaFlaw04awake
namespace Go.Proofs.Ythidkdlmpkeogaa.F
open Go.RowKit Go.Proofs.YthidkdlmpkeogaaW.PrintWords Go.Proofs.YthidkdlmpkeogaaW.PrintLast Go.Proofs.YthidkdlmpkeogaaW.PrintMore
attribute [local go_sem] max2_int min2_int max_two min_two max_three min_three max_four min_four   -- for this text's walks alone
set_option linter.unusedVariables false
set_option linter.unusedSimpArgs false

attribute [local go_sem] fieldD86_0 fieldD86_1
/-! ### weirkeeperlaw04_DiskNew: function 9 -/
mutual
def weirkeeperlaw04_DiskNew.j0 : Nat → Int → Int → Bool → List ByteArray → List (S104) → Option (Bool)
  | 0, _, _, _, _, _ => none
  | k + 1, x0, x4, x18, x713000, x713001 => if x18 = true then (if (x713000.length : Int) = 0 then (if x4 = 1 then ((weirkeeperlaw04_awake.f).bind fun t713 => (some t713)) else (some false)) else (some false)) else ((disk_Read.f x713000 x713001 0 x0).bind fun bt714 => (weirkeeperlaw04_DiskNew.l0 k x0 x4 bt714.1 bt714.2 (bt714.1.size : Int) 0 x713000 x713001))
def weirkeeperlaw04_DiskNew.l0 : Nat → Int → Int → ByteArray → Int → Int → Int → List ByteArray → List (S104) → Option (Bool)
  | 0, _, _, _, _, _, _, _, _ => none
  | k + 1, x0, x4, x5, x6, x37, x38, x713000, x713001 => if x38 < x37 then (if 0 ≤ x38 then (if x38 < (x5.size : Int) then (if (bt x5 x38) = 0 then (weirkeeperlaw04_DiskNew.l0 k x0 x4 x5 x6 x37 (wrap64 (x38 + 1)) x713000 x713001) else (some false)) else (none)) else (none)) else (if x4 = 0 then (if x6 = 0 then (if (x5.size : Int) = (wrap64 (32 * x0)) then (if (x713001.length : Int) = 0 then ((disk_Right.f x713000 x713001).bind fun t716 => (if t716 = true then ((weirkeeperlaw04_awake.f).bind fun t717 => (some t717)) else (some false))) else (some false)) else (some false)) else (some false)) else (some false))
end
def weirkeeperlaw04_DiskNew.f (k : Nat) (a0 : Int) : Option (Bool) := (disk_New.f a0).bind fun bt705 => (if a0 < 1 then (weirkeeperlaw04_DiskNew.j0 k a0 bt705.2.2 true bt705.1 bt705.2.1) else (weirkeeperlaw04_DiskNew.j0 k a0 bt705.2.2 (decide (a0 > 512)) bt705.1 bt705.2.1))
theorem weirkeeperlaw04_DiskNew.mono_l : ∀ k, (∀ y0 y1 y2 y3 y4, LeO (weirkeeperlaw04_DiskNew.j0 k y0 y1 y2 y3 y4) (weirkeeperlaw04_DiskNew.j0 (k + 1) y0 y1 y2 y3 y4)) ∧ (∀ y0 y1 y2 y3 y4 y5 y6 y7, LeO (weirkeeperlaw04_DiskNew.l0 k y0 y1 y2 y3 y4 y5 y6 y7) (weirkeeperlaw04_DiskNew.l0 (k + 1) y0 y1 y2 y3 y4 y5 y6 y7))
  | 0 => ⟨fun _ _ _ _ _ r h => by simp [weirkeeperlaw04_DiskNew.j0] at h, fun _ _ _ _ _ _ _ _ r h => by simp [weirkeeperlaw04_DiskNew.l0] at h⟩
  | k + 1 => by
    obtain ⟨ih0, ih1⟩ := weirkeeperlaw04_DiskNew.mono_l k
    refine ⟨?_, ?_⟩
    · intro y0 y1 y2 y3 y4
      unfold weirkeeperlaw04_DiskNew.j0
      repeat' first
      | (with_reducible exact ih0 _ _ _ _ _)
      | (with_reducible exact ih1 _ _ _ _ _ _ _ _)
      | (with_reducible exact LeO.refl _)
      | (with_reducible exact LeO.none _)
      | (with_reducible refine LeO.ite ?_ ?_)
      | (with_reducible refine LeO.bind ?_ (fun _ => ?_))
      | exact ih0 _ _ _ _ _
      | exact ih1 _ _ _ _ _ _ _ _
      | exact LeO.none _
      | refine LeO.ite ?_ ?_
      | refine LeO.bind ?_ (fun _ => ?_)
    · intro y0 y1 y2 y3 y4 y5 y6 y7
      unfold weirkeeperlaw04_DiskNew.l0
      repeat' first
      | (with_reducible exact ih0 _ _ _ _ _)
      | (with_reducible exact ih1 _ _ _ _ _ _ _ _)
      | (with_reducible exact LeO.refl _)
      | (with_reducible exact LeO.none _)
      | (with_reducible refine LeO.ite ?_ ?_)
      | (with_reducible refine LeO.bind ?_ (fun _ => ?_))
      | exact ih0 _ _ _ _ _
      | exact ih1 _ _ _ _ _ _ _ _
      | exact LeO.none _
      | refine LeO.ite ?_ ?_
      | refine LeO.bind ?_ (fun _ => ?_)
theorem weirkeeperlaw04_DiskNew.mono : ∀ a0 k, LeO (weirkeeperlaw04_DiskNew.f k a0) (weirkeeperlaw04_DiskNew.f (k + 1) a0) := by
  intro a0 k
  obtain ⟨ih0, ih1⟩ := weirkeeperlaw04_DiskNew.mono_l k
  unfold weirkeeperlaw04_DiskNew.f
  repeat' first
      | (with_reducible exact ih0 _ _ _ _ _)
      | (with_reducible exact ih1 _ _ _ _ _ _ _ _)
      | (with_reducible exact LeO.refl _)
      | (with_reducible exact LeO.none _)
      | (with_reducible refine LeO.ite ?_ ?_)
      | (with_reducible refine LeO.bind ?_ (fun _ => ?_))
      | exact ih0 _ _ _ _ _
      | exact ih1 _ _ _ _ _ _ _ _
      | exact LeO.none _
      | refine LeO.ite ?_ ?_
      | refine LeO.bind ?_ (fun _ => ?_)
set_option maxHeartbeats 8000000 in
set_option maxRecDepth 100000 in
theorem weirkeeperlaw04_DiskNew.calls (k : Nat) (a0 : Int) (w : World) (h : weirkeeperlaw04_DiskNew.f k a0 = some true) :
    Calls Try.prog 9 #[.int .i64 a0] w fun e w' => e = .returned (.bool true) ∧ Below w.heap.size w w' := by
  have hu86 := Try.underlying86
  have HB := Aside0.mk (Below.refl w.heap.size w)
  have H : ((disk_New.f a0).bind fun bt705 => (if a0 < 1 then (weirkeeperlaw04_DiskNew.j0 k a0 bt705.2.2 true bt705.1 bt705.2.1) else (weirkeeperlaw04_DiskNew.j0 k a0 bt705.2.2 (decide (a0 > 512)) bt705.1 bt705.2.1))) = some true := h
  clear h
  replace H := Option.bind_eq_some_iff.mp H
  obtain ⟨⟨t705, t708, t711⟩, A20, H⟩ := H
  replace H : (if a0 < 1 then (weirkeeperlaw04_DiskNew.j0 k a0 t711 true t705 t708) else (weirkeeperlaw04_DiskNew.j0 k a0 t711 (decide (a0 > 512)) t705 t708)) = some true := H
  have A2 := Aside0.mk A20
  clear A20
  have HC3 := Aside0.mk H
  clear H
  go_enter Try.func9, Try.ntmps9
  go_upto_region 2 with (first | ((with_reducible refine gate_callee (f := 42) rfl ?_); refine goesL_ (some 10) rfl rfl Try.func42 (by kernel_rfl) rfl #[.int .i64 a0] rfl (by (try simp only [List.map_toArray, List.map_cons, List.map_nil]); first | done | rfl | (simp only [List.length_drop, List.length_take]; rfl)) ?_; (with_reducible refine (disk_New.calls a0 t705 t708 t711 _ A2.out).mono ?_); rintro e w4 ⟨v706, v709, rfl, ho0, ho1, hb⟩; refine ⟨_, rfl, ?_⟩; have n0_ := Aside0.mk (Kd.R_lower ho0 (below_size (by repeat (first | (with_reducible first | exact HB.out | apply below_alloc | apply pw_below_drewN | apply below_drew1) | exact HB.out)))); have n1_ := Aside0.mk (Kd.R_lower ho1 (below_size (by repeat (first | (with_reducible first | exact HB.out | apply below_alloc | apply pw_below_drewN | apply below_drew1) | exact HB.out)))); have n2_ := Aside0.mk (below_step (by repeat (first | (with_reducible first | exact HB.out | apply below_alloc | apply pw_below_drewN | apply below_drew1) | exact HB.out)) hb); clear HB; have HO707 := n0_; have HO710 := n1_; have HB := n2_; clear n0_ n1_ n2_; (try clear hb); (try clear hb2); (try clear hk); (try clear hi); (try clear ho0); (try clear ho1)) | ((with_reducible refine gate_dst (N := 3) rfl ?_); (try (refine gate_guard (by rfl) ?_; dsimp only)); refine box_event ?hg (N := 3) ?hd (cs := #[.slice none 0 0, .slice none 0 0]) (t := 86) ?hr ?_; (case hd => rfl); (case hg => rfl); (case hr => first | (go_simp; done) | (go_simp; rfl)); intro gb712 hg w5 hbox hb; have n0_ := Aside0.mk (Kd.R_below (by (with_reducible repeat (first | apply Kd.R_alloc | apply Kd.R_drewN | apply Kd.R_drew)); exact HO707.out) hb); have n1_ := Aside0.mk (Kd.R_below (by (with_reducible repeat (first | apply Kd.R_alloc | apply Kd.R_drewN | apply Kd.R_drew)); exact HO710.out) hb); have n2_ := Aside0.mk (below_step (by repeat (first | (with_reducible first | exact HB.out | apply below_alloc | apply pw_below_drewN | apply below_drew1) | exact HB.out)) hb); have n3_ := Aside0.mk (hbox); have n4_ := Aside0.mk ((by rw [hg]; exact (below_size (by repeat (first | (with_reducible first | exact HB.out | apply below_alloc | apply pw_below_drewN | apply below_drew1) | exact HB.out))) : w.heap.size ≤ gb712)); have n5_ := Aside0.mk ((by rw [hg]; exact (below_size (by repeat (first | (with_reducible first | exact HB.out | apply below_alloc | apply pw_below_drewN | apply below_drew1) | exact HB.out))) : w.heap.size ≤ gb712)); clear HO707; clear HO710; clear HB; have HO707 := n0_; have HO710 := n1_; have HB := n2_; have BK712 := n3_; have GW712 := n4_; have GE712 := n5_; clear n0_ n1_ n2_ n3_ n4_ n5_; clear hb hbox hg; obtain ⟨Ao6, co6, eo6⟩ := Kd.R_slice HO707.out; subst eo6; have hcz7_0 : w5.cell? ⟨gb712, 0, none⟩ = some (.slice none 0 0) := (blk_cell BK712.out 0).trans rfl; have hcz7_1 : w5.cell? ⟨gb712, 1, none⟩ = some (.slice none 0 0) := (blk_cell BK712.out 1).trans rfl; have hfz7_0 := blk_frozen BK712.out 0; have hfz7_1 := blk_frozen BK712.out 1; obtain ⟨Ao8, co8, eo8⟩ := Kd.R_slice HO710.out; subst eo8))
  (try simp only [Act.put, List.setIfInBounds_toArray, List.set_cons_zero, List.set_cons_succ])
  go_cut [18] (fun v18 wc => ∃ (kq : Nat) (x18_2 : Bool), v18 = .bool x18_2 ∧ Aside0 (weirkeeperlaw04_DiskNew.j0 kq a0 t711 x18_2 t705 t708 = some true) ∧ Aside0 (kq ≤ k) ∧ Aside0 (Kd.R Kd.string 9 wc w.heap.size (fun _ => True) (.slice Ao6 t705.length co6) t705) ∧ Aside0 (Kd.R k104 104 wc w.heap.size (fun _ => True) (.slice Ao8 t708.length co8) t708) ∧ Aside0 (wc.heap[gb712]? = some (.cells #[(.slice Ao6 t705.length co6), (.slice Ao8 t708.length co8)] 86 (0, 0))) ∧ Aside0 (Below w.heap.size w wc))
  case first =>
    have H := HC3.out
    clear HC3
    by_cases c9 : a0 < 1
    · rw [if_pos c9] at H
      have c9b0 : decide (a0 < 1) = true := decide_eq_true c9
      clear c9
      (first | rw [c9b0] | (simp only [i64_w, i32_w]; rw [c9b0]) | skip)
      have H' := Aside0.mk H
      clear H
      go_wp2
      go_meet
      case rel => exact ⟨_, (true), (by first | rfl | (simp; done) | (simp [*]; done)), H', ⟨by first | omega | exact Nat.le_refl _⟩, ⟨by (with_reducible repeat (first | apply Kd.R_alloc | apply Kd.R_drewN | apply Kd.R_drew)); exact Kd.R_mono (Kd.R_far (p := ⟨gb712, 1, none⟩) (Kd.R_far (p := ⟨gb712, 0, none⟩) (Kd.R_types HO707.out BK712.out (by decide)) (fun _ hk => hk.2) (.slice Ao6 t705.length co6)) (fun _ hk => hk.2) (.slice Ao8 t708.length co8)) (fun _ hk => trivial)⟩, ⟨by (with_reducible repeat (first | apply Kd.R_alloc | apply Kd.R_drewN | apply Kd.R_drew)); exact Kd.R_mono (Kd.R_far (p := ⟨gb712, 1, none⟩) (Kd.R_far (p := ⟨gb712, 0, none⟩) (Kd.R_types HO710.out BK712.out (by decide)) (fun _ hk => hk.2) (.slice Ao6 t705.length co6)) (fun _ hk => hk.2) (.slice Ao8 t708.length co8)) (fun _ hk => trivial)⟩, ⟨by (with_reducible repeat (first | refine blk_drewN ?_ _ | refine blk_drew ?_ | refine blk_alloc ?_ _)); refine blk_put (cs := #[.slice Ao6 t705.length co6, .slice none 0 0]) ?_ 1 _ rfl; (with_reducible repeat (first | refine blk_drewN ?_ _ | refine blk_drew ?_ | refine blk_alloc ?_ _)); refine blk_put (cs := #[.slice none 0 0, .slice none 0 0]) ?_ 0 _ rfl; (with_reducible repeat (first | refine blk_drewN ?_ _ | refine blk_drew ?_ | refine blk_alloc ?_ _)); exact BK712.out⟩, ⟨by repeat (first | (with_reducible first | exact HB.out | apply below_alloc | apply pw_below_drewN | apply below_drew1 | refine below_set ?_ GE712.out) | exact HB.out)⟩⟩
    · rw [if_neg c9] at H
      have c9b0 : decide (a0 < 1) = false := decide_eq_false c9
      clear c9
      (first | rw [c9b0] | (simp only [i64_w, i32_w]; rw [c9b0]) | skip)
      have H' := Aside0.mk H
      clear H
      go_wp2
      go_meet
      case rel => exact ⟨_, (decide (a0 > 512)), (by first | rfl | (simp; done) | (simp [*]; done)), H', ⟨by first | omega | exact Nat.le_refl _⟩, ⟨by (with_reducible repeat (first | apply Kd.R_alloc | apply Kd.R_drewN | apply Kd.R_drew)); exact Kd.R_mono (Kd.R_far (p := ⟨gb712, 1, none⟩) (Kd.R_far (p := ⟨gb712, 0, none⟩) (Kd.R_types HO707.out BK712.out (by decide)) (fun _ hk => hk.2) (.slice Ao6 t705.length co6)) (fun _ hk => hk.2) (.slice Ao8 t708.length co8)) (fun _ hk => trivial)⟩, ⟨by (with_reducible repeat (first | apply Kd.R_alloc | apply Kd.R_drewN | apply Kd.R_drew)); exact Kd.R_mono (Kd.R_far (p := ⟨gb712, 1, none⟩) (Kd.R_far (p := ⟨gb712, 0, none⟩) (Kd.R_types HO710.out BK712.out (by decide)) (fun _ hk => hk.2) (.slice Ao6 t705.length co6)) (fun _ hk => hk.2) (.slice Ao8 t708.length co8)) (fun _ hk => trivial)⟩, ⟨by (with_reducible repeat (first | refine blk_drewN ?_ _ | refine blk_drew ?_ | refine blk_alloc ?_ _)); refine blk_put (cs := #[.slice Ao6 t705.length co6, .slice none 0 0]) ?_ 1 _ rfl; (with_reducible repeat (first | refine blk_drewN ?_ _ | refine blk_drew ?_ | refine blk_alloc ?_ _)); refine blk_put (cs := #[.slice none 0 0, .slice none 0 0]) ?_ 0 _ rfl; (with_reducible repeat (first | refine blk_drewN ?_ _ | refine blk_drew ?_ | refine blk_alloc ?_ _)); exact BK712.out⟩, ⟨by repeat (first | (with_reducible first | exact HB.out | apply below_alloc | apply pw_below_drewN | apply below_drew1 | refine below_set ?_ GE712.out) | exact HB.out)⟩⟩
  case rest =>
    clear HC3
    try clear p2
    try clear c4
    try clear c9
    try clear c9b0
    try clear hcz7_0
    try clear hcz7_1
    try clear hfz7_0
    try clear hfz7_1
    obtain ⟨kq, x18_2, rfl, HA, HJ2, HO_713000, HO_713001, BK712, HB⟩ := hcut
    cases kq with
    | zero => exact absurd HA.out (by simp [weirkeeperlaw04_DiskNew.j0])
    | succ kj2 =>
      have H := HA.out
      clear HA
      simp only [weirkeeperlaw04_DiskNew.j0] at H
      by_cases c10 : x18_2 = true
      · subst c10
        have H1 : (if (t705.length : Int) = 0 then (if t711 = 1 then ((weirkeeperlaw04_awake.f).bind fun t713 => (some t713)) else (some false)) else (some false)) = some true := by rw [if_pos rfl] at H; exact H
        clear H
        have H := H1
        clear H1
        by_cases c11 : (t705.length : Int) = 0
        · rw [if_pos c11] at H
          have c11b0 : ((t705.length : Int) == 0) = true := beq_iff_eq.mpr c11
          have c11b1 : ((t705.length : Int) != 0) = false := bne_eq_false_iff_eq.mpr c11
          clear c11
          by_cases c12 : t711 = 1
          · rw [if_pos c12] at H
            have c12b0 : (t711 == 1) = true := beq_iff_eq.mpr c12
            have c12b1 : (t711 != 1) = false := bne_eq_false_iff_eq.mpr c12
            clear c12
            replace H := Option.bind_eq_some_iff.mp H
            obtain ⟨t713, A130, H⟩ := H
            replace H : (some t713) = some true := H
            have A13 := Aside0.mk A130
            clear A130
            (have H9_ := Option.some.inj H; first | subst H9_ | (have h9_ := Aside0.mk H9_; clear H9_))
            have hcz14_0 : wc.cell? ⟨gb712, 0, none⟩ = some (.slice Ao6 t705.length co6) := (blk_cell BK712.out 0).trans rfl
            have hcz14_1 : wc.cell? ⟨gb712, 1, none⟩ = some (.slice Ao8 t708.length co8) := (blk_cell BK712.out 1).trans rfl
            have hfz14_0 := blk_frozen BK712.out 0
            have hfz14_1 := blk_frozen BK712.out 1
            go_wp2_with (first | (go_at_call 43; (with_reducible refine (weirkeeperlaw04_awake.calls _ A13.out).mono ?_); rintro e w15 ⟨rfl, hb⟩; have n0_ := Aside0.mk (Kd.R_below (by (with_reducible repeat (first | apply Kd.R_alloc | apply Kd.R_drewN | apply Kd.R_drew)); exact HO_713000.out) hb); have n1_ := Aside0.mk (Kd.R_below (by (with_reducible repeat (first | apply Kd.R_alloc | apply Kd.R_drewN | apply Kd.R_drew)); exact HO_713001.out) hb); have n2_ := Aside0.mk (blk_below (g := gb712) (o := .cells #[.slice Ao6 t705.length co6, .slice Ao8 t708.length co8] 86 (0, 0)) (by (with_reducible repeat (first | refine blk_drewN ?_ _ | refine blk_drew ?_ | refine blk_alloc ?_ _)); exact BK712.out) hb); have n3_ := Aside0.mk (below_step (by repeat (first | (with_reducible first | exact HB.out | apply below_alloc | apply pw_below_drewN | apply below_drew1 | refine below_set ?_ GE712.out) | exact HB.out)) hb); clear HO_713000; clear HO_713001; clear BK712; clear HB; have HO_713000 := n0_; have HO_713001 := n1_; have BK712 := n2_; have HB := n3_; clear n0_ n1_ n2_ n3_; (try clear hb); (try clear hb2); (try clear hk); (try clear hi)))
            go_ret
            exact ⟨by first | rfl | (simp only [h9_.out]; done) | (have h8_ := h9_.out; simp [h8_]; done) | (simp [errW_none, errW_some] <;> rfl) | (simp [*, errW_none, errW_some] <;> rfl), by repeat (first | (with_reducible first | exact HB.out | apply below_alloc | apply pw_below_drewN | apply below_drew1 | refine below_set ?_ GE712.out) | exact HB.out)⟩
          · rw [if_neg c12] at H
            have c12b0 : (t711 == 1) = false := beq_eq_false_iff_ne.mpr c12
            have c12b1 : (t711 != 1) = true := bne_iff_ne.mpr c12
            exact absurd H (by simp)
        · rw [if_neg c11] at H
          have c11b0 : ((t705.length : Int) == 0) = false := beq_eq_false_iff_ne.mpr c11
          have c11b1 : ((t705.length : Int) != 0) = true := bne_iff_ne.mpr c11
          have c11b2 : ¬ (t705 = []) := fun h_ => c11 (by rw [h_]; rfl)
          exact absurd H (by simp)
      · replace c10 := Bool.eq_false_iff.mpr c10
        subst c10
        have H1 : ((disk_Read.f t705 t708 0 a0).bind fun bt714 => (weirkeeperlaw04_DiskNew.l0 kj2 a0 t711 bt714.1 bt714.2 (bt714.1.size : Int) 0 t705 t708)) = some true := by rw [if_neg (show ¬ (false = true) by decide)] at H; exact H
        clear H
        have H := H1
        clear H1
        replace H := Option.bind_eq_some_iff.mp H
        obtain ⟨⟨t714, t715⟩, A160, H⟩ := H
        replace H : (weirkeeperlaw04_DiskNew.l0 kj2 a0 t711 t714 t715 (t714.size : Int) 0 t705 t708) = some true := H
        have A16 := Aside0.mk A160
        clear A160
        have H' := Aside0.mk H
        clear H
        have hcz17_0 : wc.cell? ⟨gb712, 0, none⟩ = some (.slice Ao6 t705.length co6) := (blk_cell BK712.out 0).trans rfl
        have hcz17_1 : wc.cell? ⟨gb712, 1, none⟩ = some (.slice Ao8 t708.length co8) := (blk_cell BK712.out 1).trans rfl
        have hfz17_0 := blk_frozen BK712.out 0
        have hfz17_1 := blk_frozen BK712.out 1
        go_wp2_with (first | ((with_reducible refine gate_callee (f := 44) rfl ?_); refine goesL_ (some 33) rfl rfl Try.func44 (by kernel_rfl) rfl #[.agg #[.slice Ao6 t705.length co6, .slice Ao8 t708.length co8], .int .i64 0, .int .i64 a0] rfl (by (try simp only [List.map_toArray, List.map_cons, List.map_nil]); first | done | rfl | (simp only [List.length_drop, List.length_take]; rfl)) ?_; (with_reducible refine (disk_Read.calls _ _ t705 _ _ t708 0 a0 t714 t715 _ ?side1 ?side2 ?side3 ?side4 A16.out).mono ?_); (case side1 => repeat (first | exact (Kd.R_reads' HO_713000.out).2.2 | (with_reducible refine Kd.C_alloc ?_ _) | (with_reducible refine Kd.C_drewN ?_ _) | (with_reducible refine Kd.C_drew ?_))); (case side2 => exact (Kd.R_reads' HO_713000.out).2.1); (case side3 => repeat (first | exact (Kd.R_reads' HO_713001.out).2.2 | (with_reducible refine Kd.C_alloc ?_ _) | (with_reducible refine Kd.C_drewN ?_ _) | (with_reducible refine Kd.C_drew ?_))); (case side4 => exact (Kd.R_reads' HO_713001.out).2.1); rintro e w18 ⟨rfl, hb⟩; refine ⟨_, rfl, ?_⟩; have n0_ := Aside0.mk (Kd.R_below (by (with_reducible repeat (first | apply Kd.R_alloc | apply Kd.R_drewN | apply Kd.R_drew)); exact HO_713000.out) hb); have n1_ := Aside0.mk (Kd.R_below (by (with_reducible repeat (first | apply Kd.R_alloc | apply Kd.R_drewN | apply Kd.R_drew)); exact HO_713001.out) hb); have n2_ := Aside0.mk (blk_below (g := gb712) (o := .cells #[.slice Ao6 t705.length co6, .slice Ao8 t708.length co8] 86 (0, 0)) (by (with_reducible repeat (first | refine blk_drewN ?_ _ | refine blk_drew ?_ | refine blk_alloc ?_ _)); exact BK712.out) hb); have n3_ := Aside0.mk (below_step (by repeat (first | (with_reducible first | exact HB.out | apply below_alloc | apply pw_below_drewN | apply below_drew1 | refine below_set ?_ GE712.out) | exact HB.out)) hb); clear HO_713000; clear HO_713001; clear BK712; clear HB; have HO_713000 := n0_; have HO_713001 := n1_; have BK712 := n2_; have HB := n3_; clear n0_ n1_ n2_ n3_; (try clear hb); (try clear hb2); (try clear hk); (try clear hi)))
        go_loopg [38] kj2 (fun kq v38 w' => ∃ (x38_2 : Int), v38 = .int .i64 x38_2 ∧ Aside0 (weirkeeperlaw04_DiskNew.l0 kq a0 t711 t714 t715 (t714.size : Int) x38_2 t705 t708 = some true) ∧ Aside0 (kq ≤ kj2) ∧ Aside0 (Kd.R Kd.string 9 w' w.heap.size (fun _ => True) (.slice Ao6 t705.length co6) t705) ∧ Aside0 (Kd.R k104 104 w' w.heap.size (fun _ => True) (.slice Ao8 t708.length co8) t708) ∧ Aside0 (w'.heap[gb712]? = some (.cells #[(.slice Ao6 t705.length co6), (.slice Ao8 t708.length co8)] 86 (0, 0))) ∧ Aside0 (Below w.heap.size w w'))
        case atStart => exact ⟨(0), (by first | rfl | (simp; done) | (simp [*]; done)), H', ⟨Nat.le_refl _⟩, ⟨by (with_reducible repeat (first | apply Kd.R_alloc | apply Kd.R_drewN | apply Kd.R_drew)); exact HO_713000.out⟩, ⟨by (with_reducible repeat (first | apply Kd.R_alloc | apply Kd.R_drewN | apply Kd.R_drew)); exact HO_713001.out⟩, ⟨by (with_reducible repeat (first | refine blk_drewN ?_ _ | refine blk_drew ?_ | refine blk_alloc ?_ _)); exact BK712.out⟩, ⟨by repeat (first | (with_reducible first | exact HB.out | apply below_alloc | apply pw_below_drewN | apply below_drew1 | refine below_set ?_ GE712.out) | exact HB.out)⟩⟩
        case round =>
          clear H'
          try clear c1
          try clear p2
          try clear c4
          try clear c9
          try clear c9b0
          try clear c10
          try clear c11
          try clear c11b0
          try clear c11b1
          try clear c11b2
          try clear c12
          try clear c12b0
          try clear c12b1
          try clear hcz14_0
          try clear hcz14_1
          try clear hcz17_0
          try clear hcz17_1
          try clear hcz7_0
          try clear hcz7_1
          try clear hfz14_0
          try clear hfz14_1
          try clear hfz17_0
          try clear hfz17_1
          try clear hfz7_0
          try clear hfz7_1
          try clear p2
          obtain ⟨x38_2, rfl, HA, HK2, HO_713000, HO_713001, BK712, HB⟩ := hrel
          cases gk with
          | zero => exact absurd HA.out (by simp [weirkeeperlaw04_DiskNew.l0])
          | succ k2 =>
            have H := HA.out
            clear HA
            simp only [weirkeeperlaw04_DiskNew.l0] at H
            by_cases c19 : x38_2 < (t714.size : Int)
            · rw [if_pos c19] at H
              have c19b0 : decide (x38_2 < (t714.size : Int)) = true := decide_eq_true c19
              clear c19
              by_cases c20 : 0 ≤ x38_2
              · rw [if_pos c20] at H
                have c20b0 : decide (0 ≤ x38_2) = true := decide_eq_true c20
                clear c20
                by_cases c21 : x38_2 < (t714.size : Int)
                · rw [if_pos c21] at H
                  have c21b0 : decide (x38_2 < (t714.size : Int)) = true := decide_eq_true c21
                  clear c21
                  by_cases c23 : (bt t714 x38_2) = 0
                  · rw [if_pos c23] at H
                    have c23b0 : ((bt t714 x38_2) == 0) = true := beq_iff_eq.mpr c23
                    have c23b1 : ((bt t714 x38_2) != 0) = false := bne_eq_false_iff_eq.mpr c23
                    clear c23
                    have H' := Aside0.mk H
                    clear H
                    have p22 : 0 ≤ (x38_2 : Int) := of_decide_eq_true (by first | (with_reducible assumption) | assumption)
                    have q22 : x38_2 < (t714.size : Int) := of_decide_eq_true (by first | (with_reducible assumption) | assumption)
                    have hx22 := bt_at t714 x38_2
                    replace p22 := eq_true p22
                    replace q22 := eq_true q22
                    go_wp2
                    go_roundg k2
                    case measure => have := HJ2.out; have := HK2.out; omega
                    case rel => exact ⟨(wrap64 (x38_2 + 1)), (by first | rfl | (simp; done) | (simp [*]; done)), H', ⟨by have := HJ2.out; have := HK2.out; omega⟩, ⟨by (with_reducible repeat (first | apply Kd.R_alloc | apply Kd.R_drewN | apply Kd.R_drew)); exact HO_713000.out⟩, ⟨by (with_reducible repeat (first | apply Kd.R_alloc | apply Kd.R_drewN | apply Kd.R_drew)); exact HO_713001.out⟩, ⟨by (with_reducible repeat (first | refine blk_drewN ?_ _ | refine blk_drew ?_ | refine blk_alloc ?_ _)); exact BK712.out⟩, ⟨by repeat (first | (with_reducible first | exact HB.out | apply below_alloc | apply pw_below_drewN | apply below_drew1 | refine below_set ?_ GE712.out) | exact HB.out)⟩⟩
                  · rw [if_neg c23] at H
                    have c23b0 : ((bt t714 x38_2) == 0) = false := beq_eq_false_iff_ne.mpr c23
                    have c23b1 : ((bt t714 x38_2) != 0) = true := bne_iff_ne.mpr c23
                    exact absurd H (by simp)
                · rw [if_neg c21] at H
                  exact absurd H (by simp)
              · rw [if_neg c20] at H
                exact absurd H (by simp)
            · rw [if_neg c19] at H
              have c19b0 : decide (x38_2 < (t714.size : Int)) = false := decide_eq_false c19
              clear c19
              by_cases c24 : t711 = 0
              · rw [if_pos c24] at H
                have c24b0 : (t711 == 0) = true := beq_iff_eq.mpr c24
                have c24b1 : (t711 != 0) = false := bne_eq_false_iff_eq.mpr c24
                clear c24
                by_cases c25 : t715 = 0
                · rw [if_pos c25] at H
                  have c25b0 : (t715 == 0) = true := beq_iff_eq.mpr c25
                  have c25b1 : (t715 != 0) = false := bne_eq_false_iff_eq.mpr c25
                  clear c25
                  by_cases c26 : (t714.size : Int) = (wrap64 (32 * a0))
                  · rw [if_pos c26] at H
                    have c26b0 : ((t714.size : Int) == (wrap64 (32 * a0))) = true := beq_iff_eq.mpr c26
                    have c26b1 : ((t714.size : Int) != (wrap64 (32 * a0))) = false := bne_eq_false_iff_eq.mpr c26
                    clear c26
                    by_cases c27 : (t708.length : Int) = 0
                    · rw [if_pos c27] at H
                      have c27b0 : ((t708.length : Int) == 0) = true := beq_iff_eq.mpr c27
                      have c27b1 : ((t708.length : Int) != 0) = false := bne_eq_false_iff_eq.mpr c27
                      clear c27
                      replace H := Option.bind_eq_some_iff.mp H
                      obtain ⟨t716, A280, H⟩ := H
                      replace H : (if t716 = true then ((weirkeeperlaw04_awake.f).bind fun t717 => (some t717)) else (some false)) = some true := H
                      have A28 := Aside0.mk A280
                      clear A280
                      by_cases c29 : t716 = true
                      · subst c29
                        have H1 : ((weirkeeperlaw04_awake.f).bind fun t717 => (some t717)) = some true := by rw [if_pos rfl] at H; exact H
                        clear H
                        have H := H1
                        clear H1
                        replace H := Option.bind_eq_some_iff.mp H
                        obtain ⟨t717, A300, H⟩ := H
                        replace H : (some t717) = some true := H
                        have A30 := Aside0.mk A300
                        clear A300
                        (have H9_ := Option.some.inj H; first | subst H9_ | (have h9_ := Aside0.mk H9_; clear H9_))
                        have hcz31_0 : wr.cell? ⟨gb712, 0, none⟩ = some (.slice Ao6 t705.length co6) := (blk_cell BK712.out 0).trans rfl
                        have hcz31_1 : wr.cell? ⟨gb712, 1, none⟩ = some (.slice Ao8 t708.length co8) := (blk_cell BK712.out 1).trans rfl
                        have hfz31_0 := blk_frozen BK712.out 0
                        have hfz31_1 := blk_frozen BK712.out 1
                        go_wp2_with (first | (go_at_call 45; (with_reducible refine (disk_Right.calls _ _ t705 _ _ t708 true _ ?side1 ?side2 ?side3 ?side4 A28.out).mono ?_); (case side1 => repeat (first | exact (Kd.R_reads' HO_713000.out).2.2 | (with_reducible refine Kd.C_alloc ?_ _) | (with_reducible refine Kd.C_drewN ?_ _) | (with_reducible refine Kd.C_drew ?_))); (case side2 => exact (Kd.R_reads' HO_713000.out).2.1); (case side3 => repeat (first | exact (Kd.R_reads' HO_713001.out).2.2 | (with_reducible refine Kd.C_alloc ?_ _) | (with_reducible refine Kd.C_drewN ?_ _) | (with_reducible refine Kd.C_drew ?_))); (case side4 => exact (Kd.R_reads' HO_713001.out).2.1); rintro e w32 ⟨rfl, hb⟩; have n0_ := Aside0.mk (Kd.R_below (by (with_reducible repeat (first | apply Kd.R_alloc | apply Kd.R_drewN | apply Kd.R_drew)); exact HO_713000.out) hb); have n1_ := Aside0.mk (Kd.R_below (by (with_reducible repeat (first | apply Kd.R_alloc | apply Kd.R_drewN | apply Kd.R_drew)); exact HO_713001.out) hb); have n2_ := Aside0.mk (blk_below (g := gb712) (o := .cells #[.slice Ao6 t705.length co6, .slice Ao8 t708.length co8] 86 (0, 0)) (by (with_reducible repeat (first | refine blk_drewN ?_ _ | refine blk_drew ?_ | refine blk_alloc ?_ _)); exact BK712.out) hb); have n3_ := Aside0.mk (below_step (by repeat (first | (with_reducible first | exact HB.out | apply below_alloc | apply pw_below_drewN | apply below_drew1 | refine below_set ?_ GE712.out) | exact HB.out)) hb); clear HO_713000; clear HO_713001; clear BK712; clear HB; have HO_713000 := n0_; have HO_713001 := n1_; have BK712 := n2_; have HB := n3_; clear n0_ n1_ n2_ n3_; (try clear hb); (try clear hb2); (try clear hk); (try clear hi)) | (go_at_call 43; (with_reducible refine (weirkeeperlaw04_awake.calls _ A30.out).mono ?_); rintro e w33 ⟨rfl, hb⟩; have n0_ := Aside0.mk (Kd.R_below (by (with_reducible repeat (first | apply Kd.R_alloc | apply Kd.R_drewN | apply Kd.R_drew)); exact HO_713000.out) hb); have n1_ := Aside0.mk (Kd.R_below (by (with_reducible repeat (first | apply Kd.R_alloc | apply Kd.R_drewN | apply Kd.R_drew)); exact HO_713001.out) hb); have n2_ := Aside0.mk (blk_below (g := gb712) (o := .cells #[.slice Ao6 t705.length co6, .slice Ao8 t708.length co8] 86 (0, 0)) (by (with_reducible repeat (first | refine blk_drewN ?_ _ | refine blk_drew ?_ | refine blk_alloc ?_ _)); exact BK712.out) hb); have n3_ := Aside0.mk (below_step (by repeat (first | (with_reducible first | exact HB.out | apply below_alloc | apply pw_below_drewN | apply below_drew1 | refine below_set ?_ GE712.out) | exact HB.out)) hb); clear HO_713000; clear HO_713001; clear BK712; clear HB; have HO_713000 := n0_; have HO_713001 := n1_; have BK712 := n2_; have HB := n3_; clear n0_ n1_ n2_ n3_; (try clear hb); (try clear hb2); (try clear hk); (try clear hi)))
                        go_ret
                        exact ⟨by first | rfl | (simp only [h9_.out]; done) | (have h8_ := h9_.out; simp [h8_]; done) | (simp [errW_none, errW_some] <;> rfl) | (simp [*, errW_none, errW_some] <;> rfl), by repeat (first | (with_reducible first | exact HB.out | apply below_alloc | apply pw_below_drewN | apply below_drew1 | refine below_set ?_ GE712.out) | exact HB.out)⟩
                      · replace c29 := Bool.eq_false_iff.mpr c29
                        subst c29
                        have H1 : (some false) = some true := by rw [if_neg (show ¬ (false = true) by decide)] at H; exact H
                        clear H
                        have H := H1
                        clear H1
                        exact absurd H (by simp)
                    · rw [if_neg c27] at H
                      have c27b0 : ((t708.length : Int) == 0) = false := beq_eq_false_iff_ne.mpr c27
                      have c27b1 : ((t708.length : Int) != 0) = true := bne_iff_ne.mpr c27
                      have c27b2 : ¬ (t708 = []) := fun h_ => c27 (by rw [h_]; rfl)
                      exact absurd H (by simp)
                  · rw [if_neg c26] at H
                    have c26b0 : ((t714.size : Int) == (wrap64 (32 * a0))) = false := beq_eq_false_iff_ne.mpr c26
                    have c26b1 : ((t714.size : Int) != (wrap64 (32 * a0))) = true := bne_iff_ne.mpr c26
                    exact absurd H (by simp)
                · rw [if_neg c25] at H
                  have c25b0 : (t715 == 0) = false := beq_eq_false_iff_ne.mpr c25
                  have c25b1 : (t715 != 0) = true := bne_iff_ne.mpr c25
                  exact absurd H (by simp)
              · rw [if_neg c24] at H
                have c24b0 : (t711 == 0) = false := beq_eq_false_iff_ne.mpr c24
                have c24b1 : (t711 != 0) = true := bne_iff_ne.mpr c24
                exact absurd H (by simp)


end Go.Proofs.Ythidkdlmpkeogaa.F
