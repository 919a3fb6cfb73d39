/- Contracts of Go functions of the seat Ytpkapldkmleppaa: what a call comes to; no condition but those that each theorem names. -/
import Derived.Test.YtpkapldkmleppaaFPre
import Derived.Test.YtpkapldkmleppaaFref04x0
namespace Go.Proofs.Ytpkapldkmleppaa.F
open Go.RowKit Go.Proofs.YtpkapldkmleppaaW.PrintWords Go.Proofs.YtpkapldkmleppaaW.PrintLast Go.Proofs.YtpkapldkmleppaaW.PrintMore
attribute [local go_sem] max2_int min2_int max_two min_two max_three min_three max_four min_four   -- for this text's walks alone
set_option linter.unusedVariables false
set_option linter.unusedSimpArgs false

/-! ### weirkeeperref04_sector: function 79 -/
def weirkeeperref04_sector.l0 : Nat → Int → Int → List ByteArray → List (S77) → Option (ByteArray)
  | 0, _, _, _, _ => none
  | k + 1, x1, x5, x530000, x530001 => if x5 ≥ 0 then (if 0 ≤ x5 then (if x5 < (x530001.length : Int) then (if ((rd_T77 x530001 x5).f0) = x1 then (some ((rd_T77 x530001 x5).f1)) else (weirkeeperref04_sector.l0 k x1 (wrap64 (x5 - 1)) x530000 x530001)) else (none)) else (none)) else (if 0 ≤ x1 then (if x1 < (x530000.length : Int) then (some (rdOf ByteArray.empty x530000 x1)) else (none)) else (none))
def weirkeeperref04_sector.f (k : Nat) (l0_0 : List ByteArray) (l0_1 : List (S77)) (a1 : Int) : Option (ByteArray) := weirkeeperref04_sector.l0 k a1 (wrap64 ((l0_1.length : Int) - 1)) l0_0 l0_1
theorem weirkeeperref04_sector.mono_l : ∀ k, (∀ y0 y1 y2 y3, LeO (weirkeeperref04_sector.l0 k y0 y1 y2 y3) (weirkeeperref04_sector.l0 (k + 1) y0 y1 y2 y3))
  | 0 => fun _ _ _ _ r h => by simp [weirkeeperref04_sector.l0] at h
  | k + 1 => by
    have ih0 := weirkeeperref04_sector.mono_l k
    · intro y0 y1 y2 y3
      unfold weirkeeperref04_sector.l0
      repeat' first
      | (with_reducible exact ih0 _ _ _ _)
      | (with_reducible exact LeO.refl _)
      | (with_reducible exact LeO.none _)
      | (with_reducible refine LeO.ite ?_ ?_)
      | (with_reducible refine LeO.bind ?_ (fun _ => ?_))
      | exact ih0 _ _ _ _
      | exact LeO.none _
      | refine LeO.ite ?_ ?_
      | refine LeO.bind ?_ (fun _ => ?_)
theorem weirkeeperref04_sector.mono : ∀ a0 a1 a2 k, LeO (weirkeeperref04_sector.f k a0 a1 a2) (weirkeeperref04_sector.f (k + 1) a0 a1 a2) := by
  intro a0 a1 a2 k
  have ih0 := weirkeeperref04_sector.mono_l k
  unfold weirkeeperref04_sector.f
  repeat' first
      | (with_reducible exact ih0 _ _ _ _)
      | (with_reducible exact LeO.refl _)
      | (with_reducible exact LeO.none _)
      | (with_reducible refine LeO.ite ?_ ?_)
      | (with_reducible refine LeO.bind ?_ (fun _ => ?_))
      | exact ih0 _ _ _ _
      | exact LeO.none _
      | refine LeO.ite ?_ ?_
      | refine LeO.bind ?_ (fun _ => ?_)
set_option maxHeartbeats 8000000 in
set_option maxRecDepth 100000 in
theorem weirkeeperref04_sector.calls (k : Nat) (A0_0 : Option Addr) (c0_0 : Nat) (l0_0 : List ByteArray) (A0_1 : Option Addr) (c0_1 : Nat) (l0_1 : List (S77)) (a1 : Int) (r : ByteArray) (w : World) (hr0_0 : Kd.C Kd.string w A0_0 l0_0.length l0_0) (hc0_0 : l0_0.length ≤ c0_0) (hr0_1 : Kd.C k77 w A0_1 l0_1.length l0_1) (hc0_1 : l0_1.length ≤ c0_1) (h : weirkeeperref04_sector.f k l0_0 l0_1 a1 = some r) :
    Calls Try.prog 79 #[.agg #[.slice A0_0 l0_0.length c0_0, .slice A0_1 l0_1.length c0_1], .int .i64 a1] w fun e w' => e = .returned (.string r) ∧ Below w.heap.size w w' := by
  have hu29 := Try.underlying29
  have HR0_0 := Aside0.mk hr0_0
  have HC0_0 := Aside0.mk hc0_0
  clear hr0_0 hc0_0
  have HR0_1 := Aside0.mk hr0_1
  have HC0_1 := Aside0.mk hc0_1
  clear hr0_1 hc0_1
  have HB := Aside0.mk (Below.refl w.heap.size w)
  have H : (weirkeeperref04_sector.l0 k a1 (wrap64 ((l0_1.length : Int) - 1)) l0_0 l0_1) = some r := h
  clear h
  have H' := Aside0.mk H
  clear H
  go_enter Try.func79, Try.ntmps79
  go_wp2_with (first | ((with_reducible refine gate_dst (N := 2) rfl ?_); refine box_event ?hg (N := 2) ?hd (cs := #[.slice A0_0 l0_0.length c0_0, .slice A0_1 l0_1.length c0_1]) (t := 29) ?hr ?_; (case hd => rfl); (case hg => rfl); (case hr => first | (go_simp; done) | (go_simp; rfl)); intro gb529 hg w3 hbox hb; have n0_ := Aside0.mk (below_step (by repeat (first | (with_reducible first | exact HB.out | apply below_alloc | apply pw_below_drewN | apply below_drew1) | exact HB.out)) hb); have n1_ := Aside0.mk (hbox); have n2_ := Aside0.mk ((by rw [hg]; exact (below_size (by repeat (first | (with_reducible first | exact HB.out | apply below_alloc | apply pw_below_drewN | apply below_drew1) | exact HB.out))) : w.heap.size ≤ gb529)); have n3_ := Aside0.mk ((by rw [hg]; exact (below_size (by repeat (first | (with_reducible first | exact HB.out | apply below_alloc | apply pw_below_drewN | apply below_drew1) | exact HB.out))) : w.heap.size ≤ gb529)); clear HB; have HB := n0_; have BK529 := n1_; have GW529 := n2_; have GE529 := n3_; clear n0_ n1_ n2_ n3_; clear hb hbox hg; have hcz4_0 : w3.cell? ⟨gb529, 0, none⟩ = some (.slice A0_0 l0_0.length c0_0) := (blk_cell BK529.out 0).trans rfl; have hcz4_1 : w3.cell? ⟨gb529, 1, none⟩ = some (.slice A0_1 l0_1.length c0_1) := (blk_cell BK529.out 1).trans rfl; have hfz4_0 := blk_frozen BK529.out 0; have hfz4_1 := blk_frozen BK529.out 1))
  go_loopg [5] k (fun kq v5 w' => ∃ (x5_1 : Int), v5 = .int .i64 x5_1 ∧ Aside0 (weirkeeperref04_sector.l0 kq a1 x5_1 l0_0 l0_1 = some r) ∧ Aside0 (kq ≤ k) ∧ Aside0 (w'.heap[gb529]? = some (.cells #[(.slice A0_0 l0_0.length c0_0), (.slice A0_1 l0_1.length c0_1)] 29 (0, 0))) ∧ Aside0 (Below w.heap.size w w'))
  case atStart => exact ⟨(wrap64 ((l0_1.length : Int) - 1)), (by first | rfl | (simp; done) | (simp [*]; done)), H', ⟨Nat.le_refl _⟩, ⟨by (with_reducible repeat (first | refine blk_drewN ?_ _ | refine blk_drew ?_ | refine blk_alloc ?_ _)); exact BK529.out⟩, ⟨by repeat (first | (with_reducible first | exact HB.out | apply below_alloc | apply pw_below_drewN | apply below_drew1 | refine below_set ?_ GE529.out) | exact HB.out)⟩⟩
  case round =>
    clear H'
    try clear p2
    try clear hcz4_0
    try clear hcz4_1
    try clear hfz4_0
    try clear hfz4_1
    obtain ⟨x5_1, rfl, HA, HK1, BK529, HB⟩ := hrel
    cases gk with
    | zero => exact absurd HA.out (by simp [weirkeeperref04_sector.l0])
    | succ k1 =>
      have H := HA.out
      clear HA
      simp only [weirkeeperref04_sector.l0] at H
      by_cases c5 : x5_1 ≥ 0
      · rw [if_pos c5] at H
        have c5b0 : decide (0 ≤ x5_1) = true := decide_eq_true c5
        clear c5
        by_cases c6 : 0 ≤ x5_1
        · rw [if_pos c6] at H
          have c6b0 : decide (0 ≤ x5_1) = true := decide_eq_true c6
          clear c6
          by_cases c7 : x5_1 < (l0_1.length : Int)
          · rw [if_pos c7] at H
            have c7b0 : decide (x5_1 < (l0_1.length : Int)) = true := decide_eq_true c7
            clear c7
            by_cases c8 : ((rd_T77 l0_1 x5_1).f0) = a1
            · rw [if_pos c8] at H
              have c8b0 : (((rd_T77 l0_1 x5_1).f0) == a1) = true := beq_iff_eq.mpr c8
              have c8b1 : (((rd_T77 l0_1 x5_1).f0) != a1) = false := bne_eq_false_iff_eq.mpr c8
              clear c8
              obtain rfl := Option.some.inj H
              have hcz9_0 : wr.cell? ⟨gb529, 0, none⟩ = some (.slice A0_0 l0_0.length c0_0) := (blk_cell BK529.out 0).trans rfl
              have hcz9_1 : wr.cell? ⟨gb529, 1, none⟩ = some (.slice A0_1 l0_1.length c0_1) := (blk_cell BK529.out 1).trans rfl
              have hfz9_0 := blk_frozen BK529.out 0
              have hfz9_1 := blk_frozen BK529.out 1
              have p530 : 0 ≤ (x5_1 : Int) := of_decide_eq_true (by first | (with_reducible assumption) | assumption)
              have q530 : x5_1 < (l0_1.length : Int) := of_decide_eq_true (by first | (with_reducible assumption) | assumption)
              obtain ⟨ad530, e530, hx530_0, hx530_1⟩ := at_T77 HR0_1.out x5_1 p530 q530
              cases e530
              replace hx530_0 := (HB.out.cell (World.block_lt_of_cell? w _ hx530_0)).trans hx530_0
              replace hx530_1 := (HB.out.cell (World.block_lt_of_cell? w _ hx530_1)).trans hx530_1
              replace p530 := eq_true p530
              replace q530 := eq_true q530
              have p531 : 0 ≤ (x5_1 : Int) := of_decide_eq_true (by first | (with_reducible assumption) | assumption)
              have q531 : x5_1 < (l0_1.length : Int) := of_decide_eq_true (by first | (with_reducible assumption) | assumption)
              obtain ⟨ad531, e531, hx531_0, hx531_1⟩ := at_T77 HR0_1.out x5_1 p531 q531
              obtain rfl : ad530 = ad531 := (by injection e531)
              replace hx531_0 := (HB.out.cell (World.block_lt_of_cell? w _ hx531_0)).trans hx531_0
              replace hx531_1 := (HB.out.cell (World.block_lt_of_cell? w _ hx531_1)).trans hx531_1
              replace p531 := eq_true p531
              replace q531 := eq_true q531
              go_wp2
              go_ret
              exact ⟨by first | rfl | (simp [errW_none, errW_some] <;> rfl) | (simp [*, errW_none, errW_some] <;> rfl), by repeat (first | (with_reducible first | exact HB.out | apply below_alloc | apply pw_below_drewN | apply below_drew1 | refine below_set ?_ GE529.out) | exact HB.out)⟩
            · rw [if_neg c8] at H
              have c8b0 : (((rd_T77 l0_1 x5_1).f0) == a1) = false := beq_eq_false_iff_ne.mpr c8
              have c8b1 : (((rd_T77 l0_1 x5_1).f0) != a1) = true := bne_iff_ne.mpr c8
              have H' := Aside0.mk H
              clear H
              have hcz10_0 : wr.cell? ⟨gb529, 0, none⟩ = some (.slice A0_0 l0_0.length c0_0) := (blk_cell BK529.out 0).trans rfl
              have hcz10_1 : wr.cell? ⟨gb529, 1, none⟩ = some (.slice A0_1 l0_1.length c0_1) := (blk_cell BK529.out 1).trans rfl
              have hfz10_0 := blk_frozen BK529.out 0
              have hfz10_1 := blk_frozen BK529.out 1
              have p530 : 0 ≤ (x5_1 : Int) := of_decide_eq_true (by first | (with_reducible assumption) | assumption)
              have q530 : x5_1 < (l0_1.length : Int) := of_decide_eq_true (by first | (with_reducible assumption) | assumption)
              obtain ⟨ad530, e530, hx530_0, hx530_1⟩ := at_T77 HR0_1.out x5_1 p530 q530
              cases e530
              replace hx530_0 := (HB.out.cell (World.block_lt_of_cell? w _ hx530_0)).trans hx530_0
              replace hx530_1 := (HB.out.cell (World.block_lt_of_cell? w _ hx530_1)).trans hx530_1
              replace p530 := eq_true p530
              replace q530 := eq_true q530
              go_wp2
              go_roundg k1
              case measure => have := HK1.out; omega
              case rel => exact ⟨(wrap64 (x5_1 - 1)), (by first | rfl | (simp; done) | (simp [*]; done)), H', ⟨by have := HK1.out; omega⟩, ⟨by (with_reducible repeat (first | refine blk_drewN ?_ _ | refine blk_drew ?_ | refine blk_alloc ?_ _)); exact BK529.out⟩, ⟨by repeat (first | (with_reducible first | exact HB.out | apply below_alloc | apply pw_below_drewN | apply below_drew1 | refine below_set ?_ GE529.out) | exact HB.out)⟩⟩
          · rw [if_neg c7] at H
            exact absurd H (by simp)
        · rw [if_neg c6] at H
          exact absurd H (by simp)
      · rw [if_neg c5] at H
        have c5b0 : decide (0 ≤ x5_1) = false := decide_eq_false c5
        clear c5
        by_cases c11 : 0 ≤ a1
        · rw [if_pos c11] at H
          have c11b0 : decide (0 ≤ a1) = true := decide_eq_true c11
          clear c11
          by_cases c12 : a1 < (l0_0.length : Int)
          · rw [if_pos c12] at H
            have c12b0 : decide (a1 < (l0_0.length : Int)) = true := decide_eq_true c12
            clear c12
            obtain rfl := Option.some.inj H
            have hcz13_0 : wr.cell? ⟨gb529, 0, none⟩ = some (.slice A0_0 l0_0.length c0_0) := (blk_cell BK529.out 0).trans rfl
            have hcz13_1 : wr.cell? ⟨gb529, 1, none⟩ = some (.slice A0_1 l0_1.length c0_1) := (blk_cell BK529.out 1).trans rfl
            have hfz13_0 := blk_frozen BK529.out 0
            have hfz13_1 := blk_frozen BK529.out 1
            have p532 : 0 ≤ (a1 : Int) := of_decide_eq_true (by first | (with_reducible assumption) | assumption)
            have q532 : a1 < (l0_0.length : Int) := of_decide_eq_true (by first | (with_reducible assumption) | assumption)
            obtain ⟨ad532, e532, hx532_0⟩ := Kd.at_string HR0_0.out a1 p532 q532
            cases e532
            replace hx532_0 := (HB.out.cell (World.block_lt_of_cell? w _ hx532_0)).trans hx532_0
            replace p532 := eq_true p532
            replace q532 := eq_true q532
            go_wp2
            go_ret
            exact ⟨by first | rfl | (simp [errW_none, errW_some] <;> rfl) | (simp [*, errW_none, errW_some] <;> rfl), by repeat (first | (with_reducible first | exact HB.out | apply below_alloc | apply pw_below_drewN | apply below_drew1 | refine below_set ?_ GE529.out) | exact HB.out)⟩
          · rw [if_neg c12] at H
            exact absurd H (by simp)
        · rw [if_neg c11] at H
          exact absurd H (by simp)

/-! ### weirkeeperref04_Read: function 59 -/
mutual
def weirkeeperref04_Read.j0 : Nat → Int → Int → Bool → List ByteArray → List (S77) → Option (ByteArray × Int)
  | 0, _, _, _, _, _ => none
  | k + 1, x1, x2, x38, x534000, x534001 => if x38 = true then (some ((⟨#[]⟩ : ByteArray), 1)) else (weirkeeperref04_Read.l0 k x1 x2 (⟨#[]⟩ : ByteArray) 0 x534000 x534001)
def weirkeeperref04_Read.l0 : Nat → Int → Int → ByteArray → Int → List ByteArray → List (S77) → Option (ByteArray × Int)
  | 0, _, _, _, _, _, _ => none
  | k + 1, x1, x2, x9, x10, x534000, x534001 => if x10 < x2 then ((weirkeeperref04_sector.f k x534000 x534001 (wrap64 (x1 + x10))).bind fun t535 => (if x9.size + t535.size ≤ 9223372036854775807 then (weirkeeperref04_Read.l0 k x1 x2 (x9 ++ t535) (wrap64 (x10 + 1)) x534000 x534001) else (none))) else (some (x9, 0))
end
def weirkeeperref04_Read.f (k : Nat) (l0_0 : List ByteArray) (l0_1 : List (S77)) (a1 : Int) (a2 : Int) : Option (ByteArray × Int) := (weirkeeperref04_Right.f k l0_0 l0_1).bind fun t534 => (if t534 = true then (if a2 < 0 then (weirkeeperref04_Read.j0 k a1 a2 true l0_0 l0_1) else (if a1 < 0 then (weirkeeperref04_Read.j0 k a1 a2 true l0_0 l0_1) else (if a2 > (l0_0.length : Int) then (weirkeeperref04_Read.j0 k a1 a2 true l0_0 l0_1) else (weirkeeperref04_Read.j0 k a1 a2 (decide (a1 > (wrap64 ((l0_0.length : Int) - a2)))) l0_0 l0_1)))) else (weirkeeperref04_Read.j0 k a1 a2 true l0_0 l0_1))
theorem weirkeeperref04_Read.mono_l : ∀ k, (∀ y0 y1 y2 y3 y4, LeO (weirkeeperref04_Read.j0 k y0 y1 y2 y3 y4) (weirkeeperref04_Read.j0 (k + 1) y0 y1 y2 y3 y4)) ∧ (∀ y0 y1 y2 y3 y4 y5, LeO (weirkeeperref04_Read.l0 k y0 y1 y2 y3 y4 y5) (weirkeeperref04_Read.l0 (k + 1) y0 y1 y2 y3 y4 y5))
  | 0 => ⟨fun _ _ _ _ _ r h => by simp [weirkeeperref04_Read.j0] at h, fun _ _ _ _ _ _ r h => by simp [weirkeeperref04_Read.l0] at h⟩
  | k + 1 => by
    obtain ⟨ih0, ih1⟩ := weirkeeperref04_Read.mono_l k
    refine ⟨?_, ?_⟩
    · intro y0 y1 y2 y3 y4
      unfold weirkeeperref04_Read.j0
      repeat' first
      | (with_reducible exact ih0 _ _ _ _ _)
      | (with_reducible exact ih1 _ _ _ _ _ _)
      | (with_reducible exact weirkeeperref04_Right.mono _ _ _)
      | (with_reducible exact weirkeeperref04_sector.mono _ _ _ _)
      | (with_reducible exact LeO.refl _)
      | (with_reducible exact LeO.none _)
      | (with_reducible refine LeO.ite ?_ ?_)
      | (with_reducible refine LeO.bind ?_ (fun _ => ?_))
      | exact ih0 _ _ _ _ _
      | exact ih1 _ _ _ _ _ _
      | exact weirkeeperref04_Right.mono _ _ _
      | exact weirkeeperref04_sector.mono _ _ _ _
      | exact LeO.none _
      | refine LeO.ite ?_ ?_
      | refine LeO.bind ?_ (fun _ => ?_)
    · intro y0 y1 y2 y3 y4 y5
      unfold weirkeeperref04_Read.l0
      repeat' first
      | (with_reducible exact ih0 _ _ _ _ _)
      | (with_reducible exact ih1 _ _ _ _ _ _)
      | (with_reducible exact weirkeeperref04_Right.mono _ _ _)
      | (with_reducible exact weirkeeperref04_sector.mono _ _ _ _)
      | (with_reducible exact LeO.refl _)
      | (with_reducible exact LeO.none _)
      | (with_reducible refine LeO.ite ?_ ?_)
      | (with_reducible refine LeO.bind ?_ (fun _ => ?_))
      | exact ih0 _ _ _ _ _
      | exact ih1 _ _ _ _ _ _
      | exact weirkeeperref04_Right.mono _ _ _
      | exact weirkeeperref04_sector.mono _ _ _ _
      | exact LeO.none _
      | refine LeO.ite ?_ ?_
      | refine LeO.bind ?_ (fun _ => ?_)
theorem weirkeeperref04_Read.mono : ∀ a0 a1 a2 a3 k, LeO (weirkeeperref04_Read.f k a0 a1 a2 a3) (weirkeeperref04_Read.f (k + 1) a0 a1 a2 a3) := by
  intro a0 a1 a2 a3 k
  obtain ⟨ih0, ih1⟩ := weirkeeperref04_Read.mono_l k
  unfold weirkeeperref04_Read.f
  repeat' first
      | (with_reducible exact ih0 _ _ _ _ _)
      | (with_reducible exact ih1 _ _ _ _ _ _)
      | (with_reducible exact weirkeeperref04_Right.mono _ _ _)
      | (with_reducible exact weirkeeperref04_sector.mono _ _ _ _)
      | (with_reducible exact LeO.refl _)
      | (with_reducible exact LeO.none _)
      | (with_reducible refine LeO.ite ?_ ?_)
      | (with_reducible refine LeO.bind ?_ (fun _ => ?_))
      | exact ih0 _ _ _ _ _
      | exact ih1 _ _ _ _ _ _
      | exact weirkeeperref04_Right.mono _ _ _
      | exact weirkeeperref04_sector.mono _ _ _ _
      | exact LeO.none _
      | refine LeO.ite ?_ ?_
      | refine LeO.bind ?_ (fun _ => ?_)
set_option maxHeartbeats 8000000 in
set_option maxRecDepth 100000 in
theorem weirkeeperref04_Read.calls (k : Nat) (A0_0 : Option Addr) (c0_0 : Nat) (l0_0 : List ByteArray) (A0_1 : Option Addr) (c0_1 : Nat) (l0_1 : List (S77)) (a1 : Int) (a2 : Int) (r1 : ByteArray) (r2 : Int) (w : World) (hr0_0 : Kd.C Kd.string w A0_0 l0_0.length l0_0) (hc0_0 : l0_0.length ≤ c0_0) (hr0_1 : Kd.C k77 w A0_1 l0_1.length l0_1) (hc0_1 : l0_1.length ≤ c0_1) (h : weirkeeperref04_Read.f k l0_0 l0_1 a1 a2 = some (r1, r2)) :
    Calls Try.prog 59 #[.agg #[.slice A0_0 l0_0.length c0_0, .slice A0_1 l0_1.length c0_1], .int .i64 a1, .int .i64 a2] w fun e w' => e = .returned (.tuple #[.string r1, .int .i64 r2]) ∧ Below w.heap.size w w' := by
  have hu29 := Try.underlying29
  have HR0_0 := Aside0.mk hr0_0
  have HC0_0 := Aside0.mk hc0_0
  clear hr0_0 hc0_0
  have HR0_1 := Aside0.mk hr0_1
  have HC0_1 := Aside0.mk hc0_1
  clear hr0_1 hc0_1
  have HB := Aside0.mk (Below.refl w.heap.size w)
  have H : ((weirkeeperref04_Right.f k l0_0 l0_1).bind fun t534 => (if t534 = true then (if a2 < 0 then (weirkeeperref04_Read.j0 k a1 a2 true l0_0 l0_1) else (if a1 < 0 then (weirkeeperref04_Read.j0 k a1 a2 true l0_0 l0_1) else (if a2 > (l0_0.length : Int) then (weirkeeperref04_Read.j0 k a1 a2 true l0_0 l0_1) else (weirkeeperref04_Read.j0 k a1 a2 (decide (a1 > (wrap64 ((l0_0.length : Int) - a2)))) l0_0 l0_1)))) else (weirkeeperref04_Read.j0 k a1 a2 true l0_0 l0_1))) = some (r1, r2) := h
  clear h
  replace H := Option.bind_eq_some_iff.mp H
  obtain ⟨t534, A40, H⟩ := H
  replace H : (if t534 = true then (if a2 < 0 then (weirkeeperref04_Read.j0 k a1 a2 true l0_0 l0_1) else (if a1 < 0 then (weirkeeperref04_Read.j0 k a1 a2 true l0_0 l0_1) else (if a2 > (l0_0.length : Int) then (weirkeeperref04_Read.j0 k a1 a2 true l0_0 l0_1) else (weirkeeperref04_Read.j0 k a1 a2 (decide (a1 > (wrap64 ((l0_0.length : Int) - a2)))) l0_0 l0_1)))) else (weirkeeperref04_Read.j0 k a1 a2 true l0_0 l0_1)) = some (r1, r2) := H
  have A4 := Aside0.mk A40
  clear A40
  have HC5 := Aside0.mk H
  clear H
  go_enter Try.func59, Try.ntmps59
  go_upto_region 2 with (first | ((with_reducible refine gate_dst (N := 3) rfl ?_); (try (refine gate_guard (by rfl) ?_; dsimp only)); refine box_event ?hg (N := 3) ?hd (cs := #[.slice A0_0 l0_0.length c0_0, .slice A0_1 l0_1.length c0_1]) (t := 29) ?hr ?_; (case hd => rfl); (case hg => rfl); (case hr => first | (go_simp; done) | (go_simp; rfl)); intro gb533 hg w6 hbox hb; have n0_ := Aside0.mk (below_step (by repeat (first | (with_reducible first | exact HB.out | apply below_alloc | apply pw_below_drewN | apply below_drew1) | exact HB.out)) hb); have n1_ := Aside0.mk (hbox); have n2_ := Aside0.mk ((by rw [hg]; exact (below_size (by repeat (first | (with_reducible first | exact HB.out | apply below_alloc | apply pw_below_drewN | apply below_drew1) | exact HB.out))) : w.heap.size ≤ gb533)); have n3_ := Aside0.mk ((by rw [hg]; exact (below_size (by repeat (first | (with_reducible first | exact HB.out | apply below_alloc | apply pw_below_drewN | apply below_drew1) | exact HB.out))) : w.heap.size ≤ gb533)); clear HB; have HB := n0_; have BK533 := n1_; have GW533 := n2_; have GE533 := n3_; clear n0_ n1_ n2_ n3_; clear hb hbox hg; have hcz7_0 : w6.cell? ⟨gb533, 0, none⟩ = some (.slice A0_0 l0_0.length c0_0) := (blk_cell BK533.out 0).trans rfl; have hcz7_1 : w6.cell? ⟨gb533, 1, none⟩ = some (.slice A0_1 l0_1.length c0_1) := (blk_cell BK533.out 1).trans rfl; have hfz7_0 := blk_frozen BK533.out 0; have hfz7_1 := blk_frozen BK533.out 1) | ((with_reducible refine gate_callee (f := 78) rfl ?_); refine goesL_ (some 12) rfl rfl Try.func78 (by kernel_rfl) rfl #[.agg #[.slice A0_0 l0_0.length c0_0, .slice A0_1 l0_1.length c0_1]] rfl (by (try simp only [List.map_toArray, List.map_cons, List.map_nil]); first | done | rfl | (simp only [List.length_drop, List.length_take]; rfl)) ?_; (with_reducible refine (weirkeeperref04_Right.calls k _ _ l0_0 _ _ l0_1 t534 _ ?side1 ?side2 ?side3 ?side4 A4.out).mono ?_); (case side1 => repeat (first | exact (Kd.C_below HR0_0.out HB.out) | (with_reducible refine Kd.C_alloc ?_ _) | (with_reducible refine Kd.C_drewN ?_ _) | (with_reducible refine Kd.C_drew ?_))); (case side2 => exact HC0_0.out); (case side3 => repeat (first | exact (Kd.C_below HR0_1.out HB.out) | (with_reducible refine Kd.C_alloc ?_ _) | (with_reducible refine Kd.C_drewN ?_ _) | (with_reducible refine Kd.C_drew ?_))); (case side4 => exact HC0_1.out); rintro e w8 ⟨rfl, hb⟩; refine ⟨_, rfl, ?_⟩; have n0_ := Aside0.mk (blk_below (g := gb533) (o := .cells #[.slice A0_0 l0_0.length c0_0, .slice A0_1 l0_1.length c0_1] 29 (0, 0)) (by (with_reducible repeat (first | refine blk_drewN ?_ _ | refine blk_drew ?_ | refine blk_alloc ?_ _)); exact BK533.out) hb); have n1_ := Aside0.mk (below_step (by repeat (first | (with_reducible first | exact HB.out | apply below_alloc | apply pw_below_drewN | apply below_drew1 | refine below_set ?_ GE533.out) | exact HB.out)) hb); clear BK533; clear HB; have BK533 := n0_; have HB := n1_; clear n0_ n1_; (try clear hb); (try clear hb2); (try clear hk); (try clear hi)))
  (try simp only [Act.put, List.setIfInBounds_toArray, List.set_cons_zero, List.set_cons_succ])
  go_cut [38] (fun v38 wc => ∃ (kq : Nat) (x38_4 : Bool), v38 = .bool x38_4 ∧ Aside0 (weirkeeperref04_Read.j0 kq a1 a2 x38_4 l0_0 l0_1 = some (r1, r2)) ∧ Aside0 (kq ≤ k) ∧ Aside0 (wc.heap[gb533]? = some (.cells #[(.slice A0_0 l0_0.length c0_0), (.slice A0_1 l0_1.length c0_1)] 29 (0, 0))) ∧ Aside0 (Below w.heap.size w wc))
  case first =>
    have H := HC5.out
    clear HC5
    by_cases c9 : t534 = true
    · subst c9
      have H1 : (if a2 < 0 then (weirkeeperref04_Read.j0 k a1 a2 true l0_0 l0_1) else (if a1 < 0 then (weirkeeperref04_Read.j0 k a1 a2 true l0_0 l0_1) else (if a2 > (l0_0.length : Int) then (weirkeeperref04_Read.j0 k a1 a2 true l0_0 l0_1) else (weirkeeperref04_Read.j0 k a1 a2 (decide (a1 > (wrap64 ((l0_0.length : Int) - a2)))) l0_0 l0_1)))) = some (r1, r2) := by rw [if_pos rfl] at H; exact H
      clear H
      have H := H1
      clear H1
      by_cases c10 : a2 < 0
      · rw [if_pos c10] at H
        have c10b0 : decide (a2 < 0) = true := decide_eq_true c10
        clear c10
        (first | rw [c10b0] | (simp only [i64_w, i32_w]; rw [c10b0]) | skip)
        have H' := Aside0.mk H
        clear H
        go_wp2
        go_meet
        case rel => exact ⟨_, (true), (by first | rfl | (simp; done) | (simp [*]; done)), H', ⟨by first | omega | exact Nat.le_refl _⟩, ⟨by (with_reducible repeat (first | refine blk_drewN ?_ _ | refine blk_drew ?_ | refine blk_alloc ?_ _)); exact BK533.out⟩, ⟨by repeat (first | (with_reducible first | exact HB.out | apply below_alloc | apply pw_below_drewN | apply below_drew1 | refine below_set ?_ GE533.out) | exact HB.out)⟩⟩
      · rw [if_neg c10] at H
        have c10b0 : decide (a2 < 0) = false := decide_eq_false c10
        clear c10
        (first | rw [c10b0] | (simp only [i64_w, i32_w]; rw [c10b0]) | skip)
        by_cases c11 : a1 < 0
        · rw [if_pos c11] at H
          have c11b0 : decide (a1 < 0) = true := decide_eq_true c11
          clear c11
          have H' := Aside0.mk H
          clear H
          go_wp2
          go_meet
          case rel => exact ⟨_, (true), (by first | rfl | (simp; done) | (simp [*]; done)), H', ⟨by first | omega | exact Nat.le_refl _⟩, ⟨by (with_reducible repeat (first | refine blk_drewN ?_ _ | refine blk_drew ?_ | refine blk_alloc ?_ _)); exact BK533.out⟩, ⟨by repeat (first | (with_reducible first | exact HB.out | apply below_alloc | apply pw_below_drewN | apply below_drew1 | refine below_set ?_ GE533.out) | exact HB.out)⟩⟩
        · rw [if_neg c11] at H
          have c11b0 : decide (a1 < 0) = false := decide_eq_false c11
          clear c11
          by_cases c12 : a2 > (l0_0.length : Int)
          · rw [if_pos c12] at H
            have c12b0 : decide ((l0_0.length : Int) < a2) = true := decide_eq_true c12
            clear c12
            have H' := Aside0.mk H
            clear H
            have hcz13_0 : w8.cell? ⟨gb533, 0, none⟩ = some (.slice A0_0 l0_0.length c0_0) := (blk_cell BK533.out 0).trans rfl
            have hcz13_1 : w8.cell? ⟨gb533, 1, none⟩ = some (.slice A0_1 l0_1.length c0_1) := (blk_cell BK533.out 1).trans rfl
            have hfz13_0 := blk_frozen BK533.out 0
            have hfz13_1 := blk_frozen BK533.out 1
            go_wp2
            go_meet
            case rel => exact ⟨_, (true), (by first | rfl | (simp; done) | (simp [*]; done)), H', ⟨by first | omega | exact Nat.le_refl _⟩, ⟨by (with_reducible repeat (first | refine blk_drewN ?_ _ | refine blk_drew ?_ | refine blk_alloc ?_ _)); exact BK533.out⟩, ⟨by repeat (first | (with_reducible first | exact HB.out | apply below_alloc | apply pw_below_drewN | apply below_drew1 | refine below_set ?_ GE533.out) | exact HB.out)⟩⟩
          · rw [if_neg c12] at H
            have c12b0 : decide ((l0_0.length : Int) < a2) = false := decide_eq_false c12
            clear c12
            have H' := Aside0.mk H
            clear H
            have hcz14_0 : w8.cell? ⟨gb533, 0, none⟩ = some (.slice A0_0 l0_0.length c0_0) := (blk_cell BK533.out 0).trans rfl
            have hcz14_1 : w8.cell? ⟨gb533, 1, none⟩ = some (.slice A0_1 l0_1.length c0_1) := (blk_cell BK533.out 1).trans rfl
            have hfz14_0 := blk_frozen BK533.out 0
            have hfz14_1 := blk_frozen BK533.out 1
            go_wp2
            go_meet
            case rel => exact ⟨_, (decide (a1 > (wrap64 ((l0_0.length : Int) - a2)))), (by first | rfl | (simp; done) | (simp [*]; done)), H', ⟨by first | omega | exact Nat.le_refl _⟩, ⟨by (with_reducible repeat (first | refine blk_drewN ?_ _ | refine blk_drew ?_ | refine blk_alloc ?_ _)); exact BK533.out⟩, ⟨by repeat (first | (with_reducible first | exact HB.out | apply below_alloc | apply pw_below_drewN | apply below_drew1 | refine below_set ?_ GE533.out) | exact HB.out)⟩⟩
    · replace c9 := Bool.eq_false_iff.mpr c9
      subst c9
      have H1 : (weirkeeperref04_Read.j0 k a1 a2 true l0_0 l0_1) = some (r1, r2) := by rw [if_neg (show ¬ (false = true) by decide)] at H; exact H
      clear H
      have H := H1
      clear H1
      have H' := Aside0.mk H
      clear H
      go_wp2
      go_meet
      case rel => exact ⟨_, (true), (by first | rfl | (simp; done) | (simp [*]; done)), H', ⟨by first | omega | exact Nat.le_refl _⟩, ⟨by (with_reducible repeat (first | refine blk_drewN ?_ _ | refine blk_drew ?_ | refine blk_alloc ?_ _)); exact BK533.out⟩, ⟨by repeat (first | (with_reducible first | exact HB.out | apply below_alloc | apply pw_below_drewN | apply below_drew1 | refine below_set ?_ GE533.out) | exact HB.out)⟩⟩
  case rest =>
    clear HC5
    try clear c1
    try clear p2
    try clear c5
    try clear p6
    try clear c7
    try clear c9
    try clear c10
    try clear c10b0
    try clear c11
    try clear c11b0
    try clear c12
    try clear c12b0
    try clear hcz13_0
    try clear hcz13_1
    try clear hcz14_0
    try clear hcz14_1
    try clear hcz7_0
    try clear hcz7_1
    try clear hfz13_0
    try clear hfz13_1
    try clear hfz14_0
    try clear hfz14_1
    try clear hfz7_0
    try clear hfz7_1
    obtain ⟨kq, x38_4, rfl, HA, HJ4, BK533, HB⟩ := hcut
    cases kq with
    | zero => exact absurd HA.out (by simp [weirkeeperref04_Read.j0])
    | succ kj4 =>
      have H := HA.out
      clear HA
      simp only [weirkeeperref04_Read.j0] at H
      by_cases c15 : x38_4 = true
      · subst c15
        have H1 : (some ((⟨#[]⟩ : ByteArray), 1)) = some (r1, r2) := by rw [if_pos rfl] at H; exact H
        clear H
        have H := H1
        clear H1
        simp only [Option.some.injEq, Prod.mk.injEq] at H
        obtain ⟨rfl, rfl⟩ := H
        go_wp2
        go_ret2
        exact ⟨by first | rfl | (simp [errW_none, errW_some] <;> rfl) | (simp [*, errW_none, errW_some] <;> rfl), by repeat (first | (with_reducible first | exact HB.out | apply below_alloc | apply pw_below_drewN | apply below_drew1 | refine below_set ?_ GE533.out) | exact HB.out)⟩
      · replace c15 := Bool.eq_false_iff.mpr c15
        subst c15
        have H1 : (weirkeeperref04_Read.l0 kj4 a1 a2 (⟨#[]⟩ : ByteArray) 0 l0_0 l0_1) = some (r1, r2) := by rw [if_neg (show ¬ (false = true) by decide)] at H; exact H
        clear H
        have H := H1
        clear H1
        have H' := Aside0.mk H
        clear H
        go_wp2
        go_loopg [9, 10] kj4 (fun kq v9 v10 w' => ∃ (x9_2 : ByteArray) (x10_2 : Int), v9 = .string x9_2 ∧ v10 = .int .i64 x10_2 ∧ Aside0 (weirkeeperref04_Read.l0 kq a1 a2 x9_2 x10_2 l0_0 l0_1 = some (r1, r2)) ∧ Aside0 (kq ≤ kj4) ∧ Aside0 (w'.heap[gb533]? = some (.cells #[(.slice A0_0 l0_0.length c0_0), (.slice A0_1 l0_1.length c0_1)] 29 (0, 0))) ∧ Aside0 (Below w.heap.size w w'))
        case atStart => exact ⟨((⟨#[]⟩ : ByteArray)), (0), (by first | rfl | (simp; done) | (simp [*]; done)), (by first | rfl | (simp; done) | (simp [*]; done)), H', ⟨Nat.le_refl _⟩, ⟨by (with_reducible repeat (first | refine blk_drewN ?_ _ | refine blk_drew ?_ | refine blk_alloc ?_ _)); exact BK533.out⟩, ⟨by repeat (first | (with_reducible first | exact HB.out | apply below_alloc | apply pw_below_drewN | apply below_drew1 | refine below_set ?_ GE533.out) | exact HB.out)⟩⟩
        case round =>
          clear H'
          try clear c1
          try clear p2
          try clear c5
          try clear p6
          try clear c7
          try clear c9
          try clear c10
          try clear c10b0
          try clear c11
          try clear c11b0
          try clear c12
          try clear c12b0
          try clear c15
          try clear hcz13_0
          try clear hcz13_1
          try clear hcz14_0
          try clear hcz14_1
          try clear hcz7_0
          try clear hcz7_1
          try clear hfz13_0
          try clear hfz13_1
          try clear hfz14_0
          try clear hfz14_1
          try clear hfz7_0
          try clear hfz7_1
          try clear p2
          try clear p6
          obtain ⟨x9_2, x10_2, rfl, rfl, HA, HK2, BK533, HB⟩ := hrel
          cases gk with
          | zero => exact absurd HA.out (by simp [weirkeeperref04_Read.l0])
          | succ k2 =>
            have H := HA.out
            clear HA
            simp only [weirkeeperref04_Read.l0] at H
            by_cases c16 : x10_2 < a2
            · rw [if_pos c16] at H
              have c16b0 : decide (x10_2 < a2) = true := decide_eq_true c16
              clear c16
              replace H := Option.bind_eq_some_iff.mp H
              obtain ⟨t535, A170, H⟩ := H
              replace H : (if x9_2.size + t535.size ≤ 9223372036854775807 then (weirkeeperref04_Read.l0 k2 a1 a2 (x9_2 ++ t535) (wrap64 (x10_2 + 1)) l0_0 l0_1) else (none)) = some (r1, r2) := H
              have A17 := Aside0.mk A170
              clear A170
              by_cases c18 : x9_2.size + t535.size ≤ 9223372036854775807
              · rw [if_pos c18] at H
                have c18b0 := eq_true c18
                have c18b1 : decide (x9_2.size + t535.size ≤ 9223372036854775807) = true := decide_eq_true c18
                try have c18b2 : (9223372036854775807 < x9_2.size + t535.size) = False := eq_false (Nat.not_lt.2 c18)
                clear c18
                have H' := Aside0.mk H
                clear H
                have hcz19_0 : wr.cell? ⟨gb533, 0, none⟩ = some (.slice A0_0 l0_0.length c0_0) := (blk_cell BK533.out 0).trans rfl
                have hcz19_1 : wr.cell? ⟨gb533, 1, none⟩ = some (.slice A0_1 l0_1.length c0_1) := (blk_cell BK533.out 1).trans rfl
                have hfz19_0 := blk_frozen BK533.out 0
                have hfz19_1 := blk_frozen BK533.out 1
                go_wp2_with (first | ((with_reducible refine gate_callee (f := 79) rfl ?_); refine goesL_ (some 49) rfl rfl Try.func79 (by kernel_rfl) rfl #[.agg #[.slice A0_0 l0_0.length c0_0, .slice A0_1 l0_1.length c0_1], .int .i64 (wrap64 (a1 + x10_2))] rfl (by (try simp only [List.map_toArray, List.map_cons, List.map_nil]); first | done | rfl | (simp only [List.length_drop, List.length_take]; rfl)) ?_; (with_reducible refine (weirkeeperref04_sector.calls k2 _ _ l0_0 _ _ l0_1 (wrap64 (a1 + x10_2)) t535 _ ?side1 ?side2 ?side3 ?side4 A17.out).mono ?_); (case side1 => repeat (first | exact (Kd.C_below HR0_0.out HB.out) | (with_reducible refine Kd.C_alloc ?_ _) | (with_reducible refine Kd.C_drewN ?_ _) | (with_reducible refine Kd.C_drew ?_))); (case side2 => exact HC0_0.out); (case side3 => repeat (first | exact (Kd.C_below HR0_1.out HB.out) | (with_reducible refine Kd.C_alloc ?_ _) | (with_reducible refine Kd.C_drewN ?_ _) | (with_reducible refine Kd.C_drew ?_))); (case side4 => exact HC0_1.out); rintro e w20 ⟨rfl, hb⟩; refine ⟨_, rfl, ?_⟩; have n0_ := Aside0.mk (blk_below (g := gb533) (o := .cells #[.slice A0_0 l0_0.length c0_0, .slice A0_1 l0_1.length c0_1] 29 (0, 0)) (by (with_reducible repeat (first | refine blk_drewN ?_ _ | refine blk_drew ?_ | refine blk_alloc ?_ _)); exact BK533.out) hb); have n1_ := Aside0.mk (below_step (by repeat (first | (with_reducible first | exact HB.out | apply below_alloc | apply pw_below_drewN | apply below_drew1 | refine below_set ?_ GE533.out) | exact HB.out)) hb); clear BK533; clear HB; have BK533 := n0_; have HB := n1_; clear n0_ n1_; (try clear hb); (try clear hb2); (try clear hk); (try clear hi)))
                go_roundg k2
                case measure => have := HJ4.out; have := HK2.out; omega
                case rel => exact ⟨(x9_2 ++ t535), (wrap64 (x10_2 + 1)), (by first | rfl | (simp; done) | (simp [*]; done)), (by first | rfl | (simp; done) | (simp [*]; done)), H', ⟨by have := HJ4.out; have := HK2.out; omega⟩, ⟨by (with_reducible repeat (first | refine blk_drewN ?_ _ | refine blk_drew ?_ | refine blk_alloc ?_ _)); exact BK533.out⟩, ⟨by repeat (first | (with_reducible first | exact HB.out | apply below_alloc | apply pw_below_drewN | apply below_drew1 | refine below_set ?_ GE533.out) | exact HB.out)⟩⟩
              · rw [if_neg c18] at H
                exact absurd H (by simp)
            · rw [if_neg c16] at H
              have c16b0 : decide (x10_2 < a2) = false := decide_eq_false c16
              clear c16
              simp only [Option.some.injEq, Prod.mk.injEq] at H
              obtain ⟨rfl, rfl⟩ := H
              go_wp2
              go_ret2
              exact ⟨by first | rfl | (simp [errW_none, errW_some] <;> rfl) | (simp [*, errW_none, errW_some] <;> rfl), by repeat (first | (with_reducible first | exact HB.out | apply below_alloc | apply pw_below_drewN | apply below_drew1 | refine below_set ?_ GE533.out) | exact HB.out)⟩

end Go.Proofs.Ytpkapldkmleppaa.F
