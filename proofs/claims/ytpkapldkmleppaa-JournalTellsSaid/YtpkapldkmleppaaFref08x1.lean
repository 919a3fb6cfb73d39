/- Contracts of Go functions of the seat Ytpkapldkmleppaa: what a call comes to; no condition but those that each theorem names. -/
import Derived.Test.YtpkapldkmleppaaFPre
import Derived.Test.YtpkapldkmleppaaFref01
import Derived.Test.YtpkapldkmleppaaFref04x1
import Derived.Test.YtpkapldkmleppaaFref06C
import Derived.Test.YtpkapldkmleppaaFref08x0
namespace Go.Proofs.Ytpkapldkmleppaa.F
open Go.RowKit Go.Proofs.YtpkapldkmleppaaW.PrintWords Go.Proofs.YtpkapldkmleppaaW.PrintLast Go.Proofs.YtpkapldkmleppaaW.PrintMore
attribute [local go_sem] max2_int min2_int max_two min_two max_three min_three max_four min_four   -- for this text's walks alone
set_option linter.unusedVariables false
set_option linter.unusedSimpArgs false

/-! ### weirkeeperref08_next: function 58 -/
mutual
def weirkeeperref08_next.j0 : Nat → Int → Int → List ByteArray → Bool → Option (ByteArray × Int)
  | 0, _, _, _, _ => none
  | k + 1, x0, x1, x2, x28 => if x28 = true then (some ((⟨#[]⟩ : ByteArray), (-1))) else (if 0 ≤ x1 then (if x1 < (x2.length : Int) then (if 6 ≤ 8 then (if 8 ≤ ((rdOf ByteArray.empty x2 x1).size : Int) then ((weirkeeperref01_Take.f k ((rdOf ByteArray.empty x2 x1).extract 6 8) 2).bind fun bt482 => ((weirkeeperref08_Need.f k (wrap64 (bt482.1))).bind fun t485 => (if t485 = 0 then (weirkeeperref08_next.j1 k x0 x1 x2 bt482.1 t485 true) else (weirkeeperref08_next.j1 k x0 x1 x2 bt482.1 t485 (decide ((wrap64 (x1 + t485)) > (x2.length : Int))))))) else (none)) else (none)) else (none)) else (none))
def weirkeeperref08_next.j1 : Nat → Int → Int → List ByteArray → Int → Int → Bool → Option (ByteArray × Int)
  | 0, _, _, _, _, _, _ => none
  | k + 1, x0, x1, x2, x8, x11, x51 => if x51 = true then (some ((⟨#[]⟩ : ByteArray), (-1))) else (weirkeeperref08_next.l0 k x0 x1 x2 x8 x11 (⟨#[]⟩ : ByteArray) 0)
def weirkeeperref08_next.l0 : Nat → Int → Int → List ByteArray → Int → Int → ByteArray → Int → Option (ByteArray × Int)
  | 0, _, _, _, _, _, _, _ => none
  | k + 1, x0, x1, x2, x8, x11, x12, x13 => if x13 < x11 then (if 0 ≤ (wrap64 (x1 + x13)) then (if (wrap64 (x1 + x13)) < (x2.length : Int) then (if ((rdOf ByteArray.empty x2 (wrap64 (x1 + x13))).size : Int) = 32 then (if 8 ≤ ((rdOf ByteArray.empty x2 (wrap64 (x1 + x13))).size : Int) then (if x12.size + ((rdOf ByteArray.empty x2 (wrap64 (x1 + x13))).extract 8 (rdOf ByteArray.empty x2 (wrap64 (x1 + x13))).size).size ≤ 9223372036854775807 then (weirkeeperref08_next.l0 k x0 x1 x2 x8 x11 (x12 ++ ((rdOf ByteArray.empty x2 (wrap64 (x1 + x13))).extract 8 (rdOf ByteArray.empty x2 (wrap64 (x1 + x13))).size)) (wrap64 (x13 + 1))) else (none)) else (none)) else (some ((⟨#[]⟩ : ByteArray), (-1)))) else (none)) else (none)) else (if 0 ≤ x8 then (if x8 ≤ (x12.size : Int) then ((weirkeeperref08_Pieces.f k x0 x1 (x12.extract 0 (x8 : Int).toNat)).bind fun bt488 => (if bt488.2 = 0 then (weirkeeperref08_next.l1 k x1 x2 x11 (x12.extract 0 (x8 : Int).toNat) bt488.1 0) else (some ((⟨#[]⟩ : ByteArray), (-1))))) else (none)) else (none))
def weirkeeperref08_next.l1 : Nat → Int → List ByteArray → Int → ByteArray → List ByteArray → Int → Option (ByteArray × Int)
  | 0, _, _, _, _, _, _ => none
  | k + 1, x1, x2, x11, x12, x14, x16 => if x16 < x11 then (if 0 ≤ x16 then (if x16 < (x14.length : Int) then (if 0 ≤ (wrap64 (x1 + x16)) then (if (wrap64 (x1 + x16)) < (x2.length : Int) then (if (rdOf ByteArray.empty x14 x16).toList = (rdOf ByteArray.empty x2 (wrap64 (x1 + x16))).toList then (weirkeeperref08_next.l1 k x1 x2 x11 x12 x14 (wrap64 (x16 + 1))) else (some ((⟨#[]⟩ : ByteArray), (-1)))) else (none)) else (none)) else (none)) else (none)) else (some (x12, wrap64 (x1 + x11)))
end
def weirkeeperref08_next.f (k : Nat) (a0 : Int) (a1 : Int) (l2 : List ByteArray) : Option (ByteArray × Int) := if a1 ≥ (l2.length : Int) then (weirkeeperref08_next.j0 k a0 a1 l2 true) else (if 0 ≤ a1 then (if a1 < (l2.length : Int) then (weirkeeperref08_next.j0 k a0 a1 l2 (((rdOf ByteArray.empty l2 a1).size : Int) != 32)) else (none)) else (none))
theorem weirkeeperref08_next.mono_l : ∀ k, (∀ y0 y1 y2 y3, LeO (weirkeeperref08_next.j0 k y0 y1 y2 y3) (weirkeeperref08_next.j0 (k + 1) y0 y1 y2 y3)) ∧ (∀ y0 y1 y2 y3 y4 y5, LeO (weirkeeperref08_next.j1 k y0 y1 y2 y3 y4 y5) (weirkeeperref08_next.j1 (k + 1) y0 y1 y2 y3 y4 y5)) ∧ (∀ y0 y1 y2 y3 y4 y5 y6, LeO (weirkeeperref08_next.l0 k y0 y1 y2 y3 y4 y5 y6) (weirkeeperref08_next.l0 (k + 1) y0 y1 y2 y3 y4 y5 y6)) ∧ (∀ y0 y1 y2 y3 y4 y5, LeO (weirkeeperref08_next.l1 k y0 y1 y2 y3 y4 y5) (weirkeeperref08_next.l1 (k + 1) y0 y1 y2 y3 y4 y5))
  | 0 => ⟨fun _ _ _ _ r h => by simp [weirkeeperref08_next.j0] at h, fun _ _ _ _ _ _ r h => by simp [weirkeeperref08_next.j1] at h, fun _ _ _ _ _ _ _ r h => by simp [weirkeeperref08_next.l0] at h, fun _ _ _ _ _ _ r h => by simp [weirkeeperref08_next.l1] at h⟩
  | k + 1 => by
    obtain ⟨ih0, ih1, ih2, ih3⟩ := weirkeeperref08_next.mono_l k
    refine ⟨?_, ?_, ?_, ?_⟩
    · intro y0 y1 y2 y3
      unfold weirkeeperref08_next.j0
      repeat' first
      | (with_reducible exact ih0 _ _ _ _)
      | (with_reducible exact ih1 _ _ _ _ _ _)
      | (with_reducible exact ih2 _ _ _ _ _ _ _)
      | (with_reducible exact ih3 _ _ _ _ _ _)
      | (with_reducible exact weirkeeperref01_Take.mono _ _ _)
      | (with_reducible exact weirkeeperref08_Need.mono _ _)
      | (with_reducible exact weirkeeperref08_Pieces.mono _ _ _ _)
      | (with_reducible exact LeO.refl _)
      | (with_reducible exact LeO.none _)
      | (with_reducible refine LeO.ite ?_ ?_)
      | (with_reducible refine LeO.bind ?_ (fun _ => ?_))
      | exact ih0 _ _ _ _
      | exact ih1 _ _ _ _ _ _
      | exact ih2 _ _ _ _ _ _ _
      | exact ih3 _ _ _ _ _ _
      | exact weirkeeperref01_Take.mono _ _ _
      | exact weirkeeperref08_Need.mono _ _
      | exact weirkeeperref08_Pieces.mono _ _ _ _
      | exact LeO.none _
      | refine LeO.ite ?_ ?_
      | refine LeO.bind ?_ (fun _ => ?_)
    · intro y0 y1 y2 y3 y4 y5
      unfold weirkeeperref08_next.j1
      repeat' first
      | (with_reducible exact ih0 _ _ _ _)
      | (with_reducible exact ih1 _ _ _ _ _ _)
      | (with_reducible exact ih2 _ _ _ _ _ _ _)
      | (with_reducible exact ih3 _ _ _ _ _ _)
      | (with_reducible exact weirkeeperref01_Take.mono _ _ _)
      | (with_reducible exact weirkeeperref08_Need.mono _ _)
      | (with_reducible exact weirkeeperref08_Pieces.mono _ _ _ _)
      | (with_reducible exact LeO.refl _)
      | (with_reducible exact LeO.none _)
      | (with_reducible refine LeO.ite ?_ ?_)
      | (with_reducible refine LeO.bind ?_ (fun _ => ?_))
      | exact ih0 _ _ _ _
      | exact ih1 _ _ _ _ _ _
      | exact ih2 _ _ _ _ _ _ _
      | exact ih3 _ _ _ _ _ _
      | exact weirkeeperref01_Take.mono _ _ _
      | exact weirkeeperref08_Need.mono _ _
      | exact weirkeeperref08_Pieces.mono _ _ _ _
      | exact LeO.none _
      | refine LeO.ite ?_ ?_
      | refine LeO.bind ?_ (fun _ => ?_)
    · intro y0 y1 y2 y3 y4 y5 y6
      unfold weirkeeperref08_next.l0
      repeat' first
      | (with_reducible exact ih0 _ _ _ _)
      | (with_reducible exact ih1 _ _ _ _ _ _)
      | (with_reducible exact ih2 _ _ _ _ _ _ _)
      | (with_reducible exact ih3 _ _ _ _ _ _)
      | (with_reducible exact weirkeeperref01_Take.mono _ _ _)
      | (with_reducible exact weirkeeperref08_Need.mono _ _)
      | (with_reducible exact weirkeeperref08_Pieces.mono _ _ _ _)
      | (with_reducible exact LeO.refl _)
      | (with_reducible exact LeO.none _)
      | (with_reducible refine LeO.ite ?_ ?_)
      | (with_reducible refine LeO.bind ?_ (fun _ => ?_))
      | exact ih0 _ _ _ _
      | exact ih1 _ _ _ _ _ _
      | exact ih2 _ _ _ _ _ _ _
      | exact ih3 _ _ _ _ _ _
      | exact weirkeeperref01_Take.mono _ _ _
      | exact weirkeeperref08_Need.mono _ _
      | exact weirkeeperref08_Pieces.mono _ _ _ _
      | exact LeO.none _
      | refine LeO.ite ?_ ?_
      | refine LeO.bind ?_ (fun _ => ?_)
    · intro y0 y1 y2 y3 y4 y5
      unfold weirkeeperref08_next.l1
      repeat' first
      | (with_reducible exact ih0 _ _ _ _)
      | (with_reducible exact ih1 _ _ _ _ _ _)
      | (with_reducible exact ih2 _ _ _ _ _ _ _)
      | (with_reducible exact ih3 _ _ _ _ _ _)
      | (with_reducible exact weirkeeperref01_Take.mono _ _ _)
      | (with_reducible exact weirkeeperref08_Need.mono _ _)
      | (with_reducible exact weirkeeperref08_Pieces.mono _ _ _ _)
      | (with_reducible exact LeO.refl _)
      | (with_reducible exact LeO.none _)
      | (with_reducible refine LeO.ite ?_ ?_)
      | (with_reducible refine LeO.bind ?_ (fun _ => ?_))
      | exact ih0 _ _ _ _
      | exact ih1 _ _ _ _ _ _
      | exact ih2 _ _ _ _ _ _ _
      | exact ih3 _ _ _ _ _ _
      | exact weirkeeperref01_Take.mono _ _ _
      | exact weirkeeperref08_Need.mono _ _
      | exact weirkeeperref08_Pieces.mono _ _ _ _
      | exact LeO.none _
      | refine LeO.ite ?_ ?_
      | refine LeO.bind ?_ (fun _ => ?_)
theorem weirkeeperref08_next.mono : ∀ a0 a1 a2 k, LeO (weirkeeperref08_next.f k a0 a1 a2) (weirkeeperref08_next.f (k + 1) a0 a1 a2) := by
  intro a0 a1 a2 k
  obtain ⟨ih0, ih1, ih2, ih3⟩ := weirkeeperref08_next.mono_l k
  unfold weirkeeperref08_next.f
  repeat' first
      | (with_reducible exact ih0 _ _ _ _)
      | (with_reducible exact ih1 _ _ _ _ _ _)
      | (with_reducible exact ih2 _ _ _ _ _ _ _)
      | (with_reducible exact ih3 _ _ _ _ _ _)
      | (with_reducible exact weirkeeperref01_Take.mono _ _ _)
      | (with_reducible exact weirkeeperref08_Need.mono _ _)
      | (with_reducible exact weirkeeperref08_Pieces.mono _ _ _ _)
      | (with_reducible exact LeO.refl _)
      | (with_reducible exact LeO.none _)
      | (with_reducible refine LeO.ite ?_ ?_)
      | (with_reducible refine LeO.bind ?_ (fun _ => ?_))
      | exact ih0 _ _ _ _
      | exact ih1 _ _ _ _ _ _
      | exact ih2 _ _ _ _ _ _ _
      | exact ih3 _ _ _ _ _ _
      | exact weirkeeperref01_Take.mono _ _ _
      | exact weirkeeperref08_Need.mono _ _
      | exact weirkeeperref08_Pieces.mono _ _ _ _
      | exact LeO.none _
      | refine LeO.ite ?_ ?_
      | refine LeO.bind ?_ (fun _ => ?_)
set_option maxHeartbeats 8000000 in
set_option maxRecDepth 100000 in
theorem weirkeeperref08_next.calls (k : Nat) (a0 : Int) (a1 : Int) (A2 : Option Addr) (c2 : Nat) (l2 : List ByteArray) (r1 : ByteArray) (r2 : Int) (w : World) (hr2 : Kd.C Kd.string w A2 l2.length l2) (hc2 : l2.length ≤ c2) (h : weirkeeperref08_next.f k a0 a1 l2 = some (r1, r2)) :
    Calls Try.prog 58 #[.int .i64 a0, .int .i64 a1, .slice A2 l2.length c2] w fun e w' => e = .returned (.tuple #[.string r1, .int .i64 r2]) ∧ Below w.heap.size w w' := by
  have HR2 := Aside0.mk hr2
  have HC2 := Aside0.mk hc2
  clear hr2 hc2
  have HB := Aside0.mk (Below.refl w.heap.size w)
  have H : (if a1 ≥ (l2.length : Int) then (weirkeeperref08_next.j0 k a0 a1 l2 true) else (if 0 ≤ a1 then (if a1 < (l2.length : Int) then (weirkeeperref08_next.j0 k a0 a1 l2 (((rdOf ByteArray.empty l2 a1).size : Int) != 32)) else (none)) else (none))) = some (r1, r2) := h
  clear h
  have HC4 := Aside0.mk H
  clear H
  go_enter Try.func58, Try.ntmps58
  go_upto_region 1 with (fail)
  repeat (go_quiet (fail); go_upto_region 1 with (fail))
  go_cut [28] (fun v28 wc => ∃ (kq : Nat) (x28_3 : Bool), v28 = .bool x28_3 ∧ Aside0 (weirkeeperref08_next.j0 kq a0 a1 l2 x28_3 = some (r1, r2)) ∧ Aside0 (kq ≤ k) ∧ Aside0 (Below w.heap.size w wc))
  case first =>
    have H := HC4.out
    clear HC4
    by_cases c5 : a1 ≥ (l2.length : Int)
    · rw [if_pos c5] at H
      have c5b0 : decide ((l2.length : Int) ≤ a1) = true := decide_eq_true c5
      clear c5
      (first | rw [c5b0] | rw [c5b09] | (simp only [i64_w, i32_w]; rw [c5b0]) | skip)
      have H' := Aside0.mk H
      clear H
      go_wp2
      repeat (go_quiet (fail); try go_wp2)
      go_meet
      case rel => exact ⟨_, (true), (by first | rfl | (simp; done) | (simp [*]; done)), H', ⟨by first | omega | exact Nat.le_refl _⟩, ⟨by repeat (first | (with_reducible first | exact HB.out | apply below_alloc | apply pw_below_drewN | apply below_drew1) | exact HB.out)⟩⟩
    · rw [if_neg c5] at H
      have c5b0 : decide ((l2.length : Int) ≤ a1) = false := decide_eq_false c5
      clear c5
      (first | rw [c5b0] | rw [c5b09] | (simp only [i64_w, i32_w]; rw [c5b0]) | skip)
      by_cases c6 : 0 ≤ a1
      · rw [if_pos c6] at H
        have c6b0 : decide (0 ≤ a1) = true := decide_eq_true c6
        clear c6
        by_cases c7 : a1 < (l2.length : Int)
        · rw [if_pos c7] at H
          have c7b0 : decide (a1 < (l2.length : Int)) = true := decide_eq_true c7
          clear c7
          have H' := Aside0.mk H
          clear H
          have p480 : 0 ≤ (a1 : Int) := of_decide_eq_true (by first | (with_reducible assumption) | assumption)
          have q480 : a1 < (l2.length : Int) := of_decide_eq_true (by first | (with_reducible assumption) | assumption)
          obtain ⟨ad480, e480, hx480_0⟩ := Kd.at_string HR2.out a1 p480 q480
          cases e480
          replace hx480_0 := (HB.out.cell (World.block_lt_of_cell? w _ hx480_0)).trans hx480_0
          replace p480 := eq_true p480
          replace q480 := eq_true q480
          go_wp2
          repeat (go_quiet (fail); try go_wp2)
          go_meet
          case rel => exact ⟨_, ((((rdOf ByteArray.empty l2 a1).size : Int) != 32)), (by first | rfl | (simp; done) | (simp [*]; done)), H', ⟨by first | omega | exact Nat.le_refl _⟩, ⟨by repeat (first | (with_reducible first | exact HB.out | apply below_alloc | apply pw_below_drewN | apply below_drew1) | exact HB.out)⟩⟩
        · rw [if_neg c7] at H
          exact absurd H (by simp)
      · rw [if_neg c6] at H
        exact absurd H (by simp)
  case rest =>
    clear HC4
    try clear c2
    try clear p2
    try clear p4
    try clear q4
    try clear hx4
    try clear c5
    try clear c5b0
    try clear c6
    try clear c6b0
    try clear c7
    try clear c7b0
    try clear hx480_0
    try clear p480
    try clear q480
    obtain ⟨kq, x28_3, rfl, HA, HJ3, HB⟩ := hcut
    cases kq with
    | zero => exact absurd HA.out (by simp [weirkeeperref08_next.j0])
    | succ kj3 =>
      have H := HA.out
      clear HA
      simp only [weirkeeperref08_next.j0] at H
      by_cases c8 : x28_3 = true
      · subst c8
        have H1 : (some ((⟨#[]⟩ : ByteArray), (-1))) = some (r1, r2) := by rw [if_pos rfl] at H; exact H
        clear H
        have H := H1
        clear H1
        simp only [Option.some.injEq, Prod.mk.injEq] at H
        obtain ⟨rfl, rfl⟩ := H
        go_wp2
        repeat (go_quiet (fail); try go_wp2)
        go_ret2
        exact ⟨by first | rfl | (simp [errW_none, errW_some] <;> rfl) | (simp [*, errW_none, errW_some] <;> rfl), by repeat (first | (with_reducible first | exact HB.out | apply below_alloc | apply pw_below_drewN | apply below_drew1) | exact HB.out)⟩
      · replace c8 := Bool.eq_false_iff.mpr c8
        subst c8
        have H1 : (if 0 ≤ a1 then (if a1 < (l2.length : Int) then (if 6 ≤ 8 then (if 8 ≤ ((rdOf ByteArray.empty l2 a1).size : Int) then ((weirkeeperref01_Take.f kj3 ((rdOf ByteArray.empty l2 a1).extract 6 8) 2).bind fun bt482 => ((weirkeeperref08_Need.f kj3 (wrap64 (bt482.1))).bind fun t485 => (if t485 = 0 then (weirkeeperref08_next.j1 kj3 a0 a1 l2 bt482.1 t485 true) else (weirkeeperref08_next.j1 kj3 a0 a1 l2 bt482.1 t485 (decide ((wrap64 (a1 + t485)) > (l2.length : Int))))))) else (none)) else (none)) else (none)) else (none)) = some (r1, r2) := by rw [if_neg (show ¬ (false = true) by decide)] at H; exact H
        clear H
        have H := H1
        clear H1
        by_cases c9 : 0 ≤ a1
        · rw [if_pos c9] at H
          have c9b0 : decide (0 ≤ a1) = true := decide_eq_true c9
          clear c9
          by_cases c10 : a1 < (l2.length : Int)
          · rw [if_pos c10] at H
            have c10b0 : decide (a1 < (l2.length : Int)) = true := decide_eq_true c10
            clear c10
            by_cases c11 : 6 ≤ 8
            · rw [if_pos c11] at H
              have c11b0 := eq_true c11
              try (have c11b09 := c11b0; simp only [ByteArray.size_extract, Nat.min_self, Nat.sub_zero, Int.toNat_natCast] at c11b09)
              have c11b1 : decide (6 ≤ 8) = true := decide_eq_true c11
              clear c11
              by_cases c12 : 8 ≤ ((rdOf ByteArray.empty l2 a1).size : Int)
              · rw [if_pos c12] at H
                have c12b0 := eq_true c12
                try (have c12b09 := c12b0; simp only [ByteArray.size_extract, Nat.min_self, Nat.sub_zero, Int.toNat_natCast] at c12b09)
                have c12b1 : decide (8 ≤ ((rdOf ByteArray.empty l2 a1).size : Int)) = true := decide_eq_true c12
                clear c12
                replace H := Option.bind_eq_some_iff.mp H
                obtain ⟨⟨t482, t483, t484⟩, A130, H⟩ := H
                replace H : ((weirkeeperref08_Need.f kj3 (wrap64 (t482))).bind fun t485 => (if t485 = 0 then (weirkeeperref08_next.j1 kj3 a0 a1 l2 t482 t485 true) else (weirkeeperref08_next.j1 kj3 a0 a1 l2 t482 t485 (decide ((wrap64 (a1 + t485)) > (l2.length : Int)))))) = some (r1, r2) := H
                have A13 := Aside0.mk A130
                clear A130
                replace H := Option.bind_eq_some_iff.mp H
                obtain ⟨t485, A140, H⟩ := H
                replace H : (if t485 = 0 then (weirkeeperref08_next.j1 kj3 a0 a1 l2 t482 t485 true) else (weirkeeperref08_next.j1 kj3 a0 a1 l2 t482 t485 (decide ((wrap64 (a1 + t485)) > (l2.length : Int))))) = some (r1, r2) := H
                have A14 := Aside0.mk A140
                clear A140
                have HC15 := Aside0.mk H
                clear H
                have p481 : 0 ≤ (a1 : Int) := of_decide_eq_true (by first | (with_reducible assumption) | assumption)
                have q481 : a1 < (l2.length : Int) := of_decide_eq_true (by first | (with_reducible assumption) | assumption)
                obtain ⟨ad481, e481, hx481_0⟩ := Kd.at_string HR2.out a1 p481 q481
                cases e481
                replace hx481_0 := (HB.out.cell (World.block_lt_of_cell? w _ hx481_0)).trans hx481_0
                replace p481 := eq_true p481
                replace q481 := eq_true q481
                go_upto_region 5 with (first | (go_at_call 77; (with_reducible refine (weirkeeperref01_Take.calls kj3 ((rdOf ByteArray.empty l2 a1).extract 6 8) 2 t482 t483 t484 _ A13.out).mono ?_); rintro e w' ⟨rfl, ⟨nd, rfl⟩⟩; (try first | exact ⟨rfl, _, World.drewN_drewN _ _ _⟩ | exact ⟨rfl, _, Eq.trans (World.drewN_drewN _ _ _) (congrArg (World.drewN _) (Nat.add_assoc _ _ _))⟩)) | (go_at_call 34; (with_reducible refine (weirkeeperref08_Need.calls kj3 (wrap64 (t482)) t485 _ A14.out).mono ?_); rintro e w' ⟨rfl, ⟨nd, rfl⟩⟩; (try first | exact ⟨rfl, _, World.drewN_drewN _ _ _⟩ | exact ⟨rfl, _, Eq.trans (World.drewN_drewN _ _ _) (congrArg (World.drewN _) (Nat.add_assoc _ _ _))⟩)))
                repeat (go_quiet (first | (go_at_call 77; (with_reducible refine (weirkeeperref01_Take.calls kj3 ((rdOf ByteArray.empty l2 a1).extract 6 8) 2 t482 t483 t484 _ A13.out).mono ?_); rintro e w' ⟨rfl, ⟨nd, rfl⟩⟩; (try first | exact ⟨rfl, _, World.drewN_drewN _ _ _⟩ | exact ⟨rfl, _, Eq.trans (World.drewN_drewN _ _ _) (congrArg (World.drewN _) (Nat.add_assoc _ _ _))⟩)) | (go_at_call 34; (with_reducible refine (weirkeeperref08_Need.calls kj3 (wrap64 (t482)) t485 _ A14.out).mono ?_); rintro e w' ⟨rfl, ⟨nd, rfl⟩⟩; (try first | exact ⟨rfl, _, World.drewN_drewN _ _ _⟩ | exact ⟨rfl, _, Eq.trans (World.drewN_drewN _ _ _) (congrArg (World.drewN _) (Nat.add_assoc _ _ _))⟩))); go_upto_region 5 with (first | (go_at_call 77; (with_reducible refine (weirkeeperref01_Take.calls kj3 ((rdOf ByteArray.empty l2 a1).extract 6 8) 2 t482 t483 t484 _ A13.out).mono ?_); rintro e w' ⟨rfl, ⟨nd, rfl⟩⟩; (try first | exact ⟨rfl, _, World.drewN_drewN _ _ _⟩ | exact ⟨rfl, _, Eq.trans (World.drewN_drewN _ _ _) (congrArg (World.drewN _) (Nat.add_assoc _ _ _))⟩)) | (go_at_call 34; (with_reducible refine (weirkeeperref08_Need.calls kj3 (wrap64 (t482)) t485 _ A14.out).mono ?_); rintro e w' ⟨rfl, ⟨nd, rfl⟩⟩; (try first | exact ⟨rfl, _, World.drewN_drewN _ _ _⟩ | exact ⟨rfl, _, Eq.trans (World.drewN_drewN _ _ _) (congrArg (World.drewN _) (Nat.add_assoc _ _ _))⟩))))
                (try simp only [Act.put, List.setIfInBounds_toArray, List.set_cons_zero, List.set_cons_succ])
                go_cut [51] (fun v51 wc => ∃ (kq : Nat) (x51_14 : Bool), v51 = .bool x51_14 ∧ Aside0 (weirkeeperref08_next.j1 kq a0 a1 l2 t482 t485 x51_14 = some (r1, r2)) ∧ Aside0 (kq ≤ kj3) ∧ Aside0 (Below w.heap.size w wc))
                case first =>
                  have H := HC15.out
                  clear HC15
                  by_cases c16 : t485 = 0
                  · rw [if_pos c16] at H
                    have c16b0 : (t485 == 0) = true := beq_iff_eq.mpr c16
                    have c16b1 : (t485 != 0) = false := bne_eq_false_iff_eq.mpr c16
                    clear c16
                    (first | rw [c16b0] | rw [c16b09] | (simp only [i64_w, i32_w]; rw [c16b0]) | skip)
                    have H' := Aside0.mk H
                    clear H
                    go_wp2
                    repeat (go_quiet (fail); try go_wp2)
                    go_meet
                    case rel => exact ⟨_, (true), (by first | rfl | (simp; done) | (simp [*]; done)), H', ⟨by have := HJ3.out; first | omega | exact Nat.le_refl _⟩, ⟨by repeat (first | (with_reducible first | exact HB.out | apply below_alloc | apply pw_below_drewN | apply below_drew1) | exact HB.out)⟩⟩
                  · rw [if_neg c16] at H
                    have c16b0 : (t485 == 0) = false := beq_eq_false_iff_ne.mpr c16
                    have c16b1 : (t485 != 0) = true := bne_iff_ne.mpr c16
                    (first | rw [c16b0] | rw [c16b09] | (simp only [i64_w, i32_w]; rw [c16b0]) | skip)
                    have H' := Aside0.mk H
                    clear H
                    go_wp2
                    repeat (go_quiet (fail); try go_wp2)
                    go_meet
                    case rel => exact ⟨_, (decide ((wrap64 (a1 + t485)) > (l2.length : Int))), (by first | rfl | (simp; done) | (simp [*]; done)), H', ⟨by have := HJ3.out; first | omega | exact Nat.le_refl _⟩, ⟨by repeat (first | (with_reducible first | exact HB.out | apply below_alloc | apply pw_below_drewN | apply below_drew1) | exact HB.out)⟩⟩
                case rest =>
                  clear HC15
                  try clear c1
                  try clear c2
                  try clear p2
                  try clear p4
                  try clear q4
                  try clear hx4
                  try clear c5
                  try clear c5b0
                  try clear c6
                  try clear c6b0
                  try clear p6
                  try clear c7
                  try clear c7b0
                  try clear c8
                  try clear c9
                  try clear c9b0
                  try clear c10
                  try clear c10b0
                  try clear c11
                  try clear c11b0
                  try clear c11b1
                  try clear c12
                  try clear c12b0
                  try clear c12b1
                  try clear c16
                  try clear c16b0
                  try clear c16b1
                  try clear hx480_0
                  try clear hx481_0
                  try clear p2
                  try clear p4
                  try clear p480
                  try clear p481
                  try clear q4
                  try clear q480
                  try clear q481
                  obtain ⟨kq, x51_14, rfl, HA, HJ14, HB⟩ := hcut
                  cases kq with
                  | zero => exact absurd HA.out (by simp [weirkeeperref08_next.j1])
                  | succ kj14 =>
                    have H := HA.out
                    clear HA
                    simp only [weirkeeperref08_next.j1] at H
                    by_cases c17 : x51_14 = true
                    · subst c17
                      have H1 : (some ((⟨#[]⟩ : ByteArray), (-1))) = some (r1, r2) := by rw [if_pos rfl] at H; exact H
                      clear H
                      have H := H1
                      clear H1
                      simp only [Option.some.injEq, Prod.mk.injEq] at H
                      obtain ⟨rfl, rfl⟩ := H
                      go_wp2
                      repeat (go_quiet (fail); try go_wp2)
                      go_ret2
                      exact ⟨by first | rfl | (simp [errW_none, errW_some] <;> rfl) | (simp [*, errW_none, errW_some] <;> rfl), by repeat (first | (with_reducible first | exact HB.out | apply below_alloc | apply pw_below_drewN | apply below_drew1) | exact HB.out)⟩
                    · replace c17 := Bool.eq_false_iff.mpr c17
                      subst c17
                      have H1 : (weirkeeperref08_next.l0 kj14 a0 a1 l2 t482 t485 (⟨#[]⟩ : ByteArray) 0) = some (r1, r2) := by rw [if_neg (show ¬ (false = true) by decide)] at H; exact H
                      clear H
                      have H := H1
                      clear H1
                      have H' := Aside0.mk H
                      clear H
                      go_wp2
                      repeat (go_quiet (fail); try go_wp2)
                      go_loopg [12, 13] kj14 (fun kq v12 v13 w' => ∃ (x12_3 : ByteArray) (x13_3 : Int), v12 = .string x12_3 ∧ v13 = .int .i64 x13_3 ∧ Aside0 (weirkeeperref08_next.l0 kq a0 a1 l2 t482 t485 x12_3 x13_3 = some (r1, r2)) ∧ Aside0 (kq ≤ kj14) ∧ Aside0 (Below w.heap.size w w'))
                      case atStart => exact ⟨((⟨#[]⟩ : ByteArray)), (0), (by first | rfl | (simp; done) | (simp [*]; done)), (by first | rfl | (simp; done) | (simp [*]; done)), H', ⟨Nat.le_refl _⟩, ⟨by repeat (first | (with_reducible first | exact HB.out | apply below_alloc | apply pw_below_drewN | apply below_drew1) | exact HB.out)⟩⟩
                      case round =>
                        clear H'
                        try clear c1
                        try clear c2
                        try clear p2
                        try clear p4
                        try clear q4
                        try clear hx4
                        try clear c5
                        try clear c5b0
                        try clear c6
                        try clear c6b0
                        try clear p6
                        try clear c7
                        try clear c7b0
                        try clear c8
                        try clear c9
                        try clear c9b0
                        try clear c10
                        try clear c10b0
                        try clear c11
                        try clear c11b0
                        try clear c11b1
                        try clear c12
                        try clear c12b0
                        try clear c12b1
                        try clear c16
                        try clear c16b0
                        try clear c16b1
                        try clear c17
                        try clear hx480_0
                        try clear hx481_0
                        try clear p2
                        try clear p4
                        try clear p480
                        try clear p481
                        try clear p6
                        try clear q4
                        try clear q480
                        try clear q481
                        obtain ⟨x12_3, x13_3, rfl, rfl, HA, HK3, HB⟩ := hrel
                        cases gk with
                        | zero => exact absurd HA.out (by simp [weirkeeperref08_next.l0])
                        | succ k3 =>
                          have H := HA.out
                          clear HA
                          simp only [weirkeeperref08_next.l0] at H
                          by_cases c18 : x13_3 < t485
                          · rw [if_pos c18] at H
                            have c18b0 : decide (x13_3 < t485) = true := decide_eq_true c18
                            clear c18
                            obtain ⟨ji19, hji19⟩ : ∃ j_ : Int, (wrap64 (a1 + x13_3)) = j_ := ⟨_, rfl⟩
                            replace H : (if 0 ≤ (ji19) then (if (ji19) < (l2.length : Int) then (if ((rdOf ByteArray.empty l2 (ji19)).size : Int) = 32 then (if 8 ≤ ((rdOf ByteArray.empty l2 (ji19)).size : Int) then (if x12_3.size + ((rdOf ByteArray.empty l2 (ji19)).extract 8 (rdOf ByteArray.empty l2 (ji19)).size).size ≤ 9223372036854775807 then (weirkeeperref08_next.l0 k3 a0 a1 l2 t482 t485 (x12_3 ++ ((rdOf ByteArray.empty l2 (ji19)).extract 8 (rdOf ByteArray.empty l2 (ji19)).size)) (wrap64 (x13_3 + 1))) else (none)) else (none)) else (some ((⟨#[]⟩ : ByteArray), (-1)))) else (none)) else (none)) = some (r1, r2) := by first | (rw [hji19] at H; exact H) | (simp only [hji19] at H ⊢; exact H)
                            have hji19w : (IntKind.i64.wrap (a1 + x13_3)) = ji19 := (i64_w _).trans hji19
                            by_cases c20 : 0 ≤ (ji19)
                            · rw [if_pos c20] at H
                              have c20b0 : decide (0 ≤ (ji19)) = true := decide_eq_true c20
                              clear c20
                              by_cases c21 : (ji19) < (l2.length : Int)
                              · rw [if_pos c21] at H
                                have c21b0 : decide ((ji19) < (l2.length : Int)) = true := decide_eq_true c21
                                clear c21
                                by_cases c22 : ((rdOf ByteArray.empty l2 (ji19)).size : Int) = 32
                                · rw [if_pos c22] at H
                                  have c22b0 : (((rdOf ByteArray.empty l2 (ji19)).size : Int) == 32) = true := beq_iff_eq.mpr c22
                                  have c22b1 : (((rdOf ByteArray.empty l2 (ji19)).size : Int) != 32) = false := bne_eq_false_iff_eq.mpr c22
                                  clear c22
                                  by_cases c23 : 8 ≤ ((rdOf ByteArray.empty l2 (ji19)).size : Int)
                                  · rw [if_pos c23] at H
                                    have c23b0 := eq_true c23
                                    try (have c23b09 := c23b0; simp only [ByteArray.size_extract, Nat.min_self, Nat.sub_zero, Int.toNat_natCast] at c23b09)
                                    have c23b1 : decide (8 ≤ ((rdOf ByteArray.empty l2 (ji19)).size : Int)) = true := decide_eq_true c23
                                    clear c23
                                    by_cases c24 : x12_3.size + ((rdOf ByteArray.empty l2 (ji19)).extract 8 (rdOf ByteArray.empty l2 (ji19)).size).size ≤ 9223372036854775807
                                    · rw [if_pos c24] at H
                                      have c24b0 := eq_true c24
                                      try (have c24b09 := c24b0; simp only [ByteArray.size_extract, Nat.min_self, Nat.sub_zero, Int.toNat_natCast] at c24b09)
                                      have c24b1 : decide (x12_3.size + ((rdOf ByteArray.empty l2 (ji19)).extract 8 (rdOf ByteArray.empty l2 (ji19)).size).size ≤ 9223372036854775807) = true := decide_eq_true c24
                                      try (have c24b19 := c24b1; simp only [ByteArray.size_extract, Nat.min_self, Nat.sub_zero, Int.toNat_natCast] at c24b19)
                                      try have c24b2 : (9223372036854775807 < x12_3.size + ((rdOf ByteArray.empty l2 (ji19)).extract 8 (rdOf ByteArray.empty l2 (ji19)).size).size) = False := eq_false (Nat.not_lt.2 c24)
                                      have H' := Aside0.mk H
                                      clear H
                                      have p486 : 0 ≤ ((ji19) : Int) := of_decide_eq_true (by first | (with_reducible assumption) | assumption)
                                      have q486 : (ji19) < (l2.length : Int) := of_decide_eq_true (by first | (with_reducible assumption) | assumption)
                                      obtain ⟨ad486, e486, hx486_0⟩ := Kd.at_string HR2.out (ji19) p486 q486
                                      obtain rfl : ad481 = ad486 := (by injection e486)
                                      replace hx486_0 := (HB.out.cell (World.block_lt_of_cell? w _ hx486_0)).trans hx486_0
                                      replace p486 := eq_true p486
                                      replace q486 := eq_true q486
                                      have p487 : 0 ≤ ((ji19) : Int) := of_decide_eq_true (by first | (with_reducible assumption) | assumption)
                                      have q487 : (ji19) < (l2.length : Int) := of_decide_eq_true (by first | (with_reducible assumption) | assumption)
                                      obtain ⟨ad487, e487, hx487_0⟩ := Kd.at_string HR2.out (ji19) p487 q487
                                      obtain rfl : ad481 = ad487 := (by injection e487)
                                      replace hx487_0 := (HB.out.cell (World.block_lt_of_cell? w _ hx487_0)).trans hx487_0
                                      replace p487 := eq_true p487
                                      replace q487 := eq_true q487
                                      go_wp2
                                      repeat (go_quiet (fail); try go_wp2)
                                      go_roundg k3
                                      case measure => have := HJ3.out; have := HJ14.out; have := HK3.out; omega
                                      case rel => exact ⟨(x12_3 ++ ((rdOf ByteArray.empty l2 (ji19)).extract 8 (rdOf ByteArray.empty l2 (ji19)).size)), (wrap64 (x13_3 + 1)), (by first | rfl | (simp; done) | (simp only [← hji19] <;> (first | rfl | simp)) | (simp [*]; done)), (by first | rfl | (simp; done) | (simp [*]; done)), H', ⟨by have := HJ3.out; have := HJ14.out; have := HK3.out; omega⟩, ⟨by repeat (first | (with_reducible first | exact HB.out | apply below_alloc | apply pw_below_drewN | apply below_drew1) | exact HB.out)⟩⟩
                                    · rw [if_neg c24] at H
                                      exact absurd H (by simp)
                                  · rw [if_neg c23] at H
                                    exact absurd H (by simp)
                                · rw [if_neg c22] at H
                                  have c22b0 : (((rdOf ByteArray.empty l2 (ji19)).size : Int) == 32) = false := beq_eq_false_iff_ne.mpr c22
                                  have c22b1 : (((rdOf ByteArray.empty l2 (ji19)).size : Int) != 32) = true := bne_iff_ne.mpr c22
                                  simp only [Option.some.injEq, Prod.mk.injEq] at H
                                  obtain ⟨rfl, rfl⟩ := H
                                  have p486 : 0 ≤ ((ji19) : Int) := of_decide_eq_true (by first | (with_reducible assumption) | assumption)
                                  have q486 : (ji19) < (l2.length : Int) := of_decide_eq_true (by first | (with_reducible assumption) | assumption)
                                  obtain ⟨ad486, e486, hx486_0⟩ := Kd.at_string HR2.out (ji19) p486 q486
                                  obtain rfl : ad481 = ad486 := (by injection e486)
                                  replace hx486_0 := (HB.out.cell (World.block_lt_of_cell? w _ hx486_0)).trans hx486_0
                                  replace p486 := eq_true p486
                                  replace q486 := eq_true q486
                                  go_wp2
                                  repeat (go_quiet (fail); try go_wp2)
                                  go_ret2
                                  exact ⟨by first | rfl | (simp [errW_none, errW_some] <;> rfl) | (simp only [← hji19]; first | rfl | (simp [errW_none, errW_some] <;> rfl)) | (simp [*, errW_none, errW_some] <;> rfl), by repeat (first | (with_reducible first | exact HB.out | apply below_alloc | apply pw_below_drewN | apply below_drew1) | exact HB.out)⟩
                              · rw [if_neg c21] at H
                                exact absurd H (by simp)
                            · rw [if_neg c20] at H
                              exact absurd H (by simp)
                          · rw [if_neg c18] at H
                            have c18b0 : decide (x13_3 < t485) = false := decide_eq_false c18
                            clear c18
                            by_cases c25 : 0 ≤ t482
                            · rw [if_pos c25] at H
                              have c25b0 := eq_true c25
                              try (have c25b09 := c25b0; simp only [ByteArray.size_extract, Nat.min_self, Nat.sub_zero, Int.toNat_natCast] at c25b09)
                              have c25b1 : decide (0 ≤ t482) = true := decide_eq_true c25
                              clear c25
                              by_cases c26 : t482 ≤ (x12_3.size : Int)
                              · rw [if_pos c26] at H
                                have c26b0 := eq_true c26
                                try (have c26b09 := c26b0; simp only [ByteArray.size_extract, Nat.min_self, Nat.sub_zero, Int.toNat_natCast] at c26b09)
                                have c26b1 : decide (t482 ≤ (x12_3.size : Int)) = true := decide_eq_true c26
                                clear c26
                                replace H := Option.bind_eq_some_iff.mp H
                                obtain ⟨⟨t488, t489⟩, A270, H⟩ := H
                                replace H : (if t489 = 0 then (weirkeeperref08_next.l1 k3 a1 l2 t485 (x12_3.extract 0 (t482 : Int).toNat) t488 0) else (some ((⟨#[]⟩ : ByteArray), (-1)))) = some (r1, r2) := H
                                have A27 := Aside0.mk A270
                                clear A270
                                by_cases c28 : t489 = 0
                                · rw [if_pos c28] at H
                                  have c28b0 : (t489 == 0) = true := beq_iff_eq.mpr c28
                                  have c28b1 : (t489 != 0) = false := bne_eq_false_iff_eq.mpr c28
                                  clear c28
                                  have H' := Aside0.mk H
                                  clear H
                                  go_wp2_with (first | (go_at_call 29; (with_reducible refine (weirkeeperref08_Pieces.calls k3 a0 a1 (x12_3.extract 0 (t482 : Int).toNat) t488 t489 _ A27.out).mono ?_); rintro e w29 ⟨v490, rfl, ho0, hb⟩; have n0_ := Aside0.mk (Kd.R_lower ho0 (below_size (by repeat (first | (with_reducible first | exact HB.out | apply below_alloc | apply pw_below_drewN | apply below_drew1) | exact HB.out)))); have n1_ := Aside0.mk (below_step (by repeat (first | (with_reducible first | exact HB.out | apply below_alloc | apply pw_below_drewN | apply below_drew1) | exact HB.out)) hb); clear HB; have HO491 := n0_; have HB := n1_; clear n0_ n1_; (try clear hb); (try clear hb2); (try clear hk); (try clear hi); (try clear ho0)))
                                  repeat (go_quiet (first | (go_at_call 29; (with_reducible refine (weirkeeperref08_Pieces.calls k3 a0 a1 (x12_3.extract 0 (t482 : Int).toNat) t488 t489 _ A27.out).mono ?_); rintro e w29 ⟨v490, rfl, ho0, hb⟩; have n0_ := Aside0.mk (Kd.R_lower ho0 (below_size (by repeat (first | (with_reducible first | exact HB.out | apply below_alloc | apply pw_below_drewN | apply below_drew1) | exact HB.out)))); have n1_ := Aside0.mk (below_step (by repeat (first | (with_reducible first | exact HB.out | apply below_alloc | apply pw_below_drewN | apply below_drew1) | exact HB.out)) hb); clear HB; have HO491 := n0_; have HB := n1_; clear n0_ n1_; (try clear hb); (try clear hb2); (try clear hk); (try clear hi); (try clear ho0))); try go_wp2_with (first | (go_at_call 29; (with_reducible refine (weirkeeperref08_Pieces.calls k3 a0 a1 (x12_3.extract 0 (t482 : Int).toNat) t488 t489 _ A27.out).mono ?_); rintro e w29 ⟨v490, rfl, ho0, hb⟩; have n0_ := Aside0.mk (Kd.R_lower ho0 (below_size (by repeat (first | (with_reducible first | exact HB.out | apply below_alloc | apply pw_below_drewN | apply below_drew1) | exact HB.out)))); have n1_ := Aside0.mk (below_step (by repeat (first | (with_reducible first | exact HB.out | apply below_alloc | apply pw_below_drewN | apply below_drew1) | exact HB.out)) hb); clear HB; have HO491 := n0_; have HB := n1_; clear n0_ n1_; (try clear hb); (try clear hb2); (try clear hk); (try clear hi); (try clear ho0))))
                                  go_loopg [16] k3 (fun kq v16 w' => ∃ (x16_4 : Int), v16 = .int .i64 x16_4 ∧ Aside0 (weirkeeperref08_next.l1 kq a1 l2 t485 (x12_3.extract 0 (t482 : Int).toNat) t488 x16_4 = some (r1, r2)) ∧ Aside0 (kq ≤ k3) ∧ Aside0 (Kd.R Kd.string 9 w' w.heap.size (fun _ => True) v490 t488) ∧ Aside0 (Below w.heap.size w w'))
                                  case atStart => exact ⟨(0), (by first | rfl | (simp; done) | (simp [*]; done)), H', ⟨Nat.le_refl _⟩, ⟨by (with_reducible repeat (first | apply Kd.R_alloc | apply Kd.R_drewN | apply Kd.R_drew)); exact HO491.out⟩, ⟨by repeat (first | (with_reducible first | exact HB.out | apply below_alloc | apply pw_below_drewN | apply below_drew1) | exact HB.out)⟩⟩
                                  case round =>
                                    clear H'
                                    try clear c1
                                    try clear c2
                                    try clear p2
                                    try clear p4
                                    try clear q4
                                    try clear hx4
                                    try clear c5
                                    try clear c5b0
                                    try clear c6
                                    try clear c6b0
                                    try clear p6
                                    try clear c7
                                    try clear c7b0
                                    try clear c8
                                    try clear c9
                                    try clear c9b0
                                    try clear c10
                                    try clear c10b0
                                    try clear c11
                                    try clear c11b0
                                    try clear c11b1
                                    try clear c12
                                    try clear c12b0
                                    try clear c12b1
                                    try clear c16
                                    try clear c16b0
                                    try clear c16b1
                                    try clear c17
                                    try clear c18
                                    try clear c18b0
                                    try clear c20
                                    try clear c20b0
                                    try clear c21
                                    try clear c21b0
                                    try clear c22
                                    try clear c22b0
                                    try clear c22b1
                                    try clear c23
                                    try clear c23b0
                                    try clear c23b1
                                    try clear c24
                                    try clear c24b0
                                    try clear c24b1
                                    try clear c24b2
                                    try clear c25
                                    try clear c25b0
                                    try clear c25b1
                                    try clear c26
                                    try clear c26b0
                                    try clear c26b1
                                    try clear c28
                                    try clear c28b0
                                    try clear c28b1
                                    try clear hx480_0
                                    try clear hx481_0
                                    try clear hx486_0
                                    try clear hx487_0
                                    try clear p2
                                    try clear p4
                                    try clear p480
                                    try clear p481
                                    try clear p486
                                    try clear p487
                                    try clear p6
                                    try clear q4
                                    try clear q480
                                    try clear q481
                                    try clear q486
                                    try clear q487
                                    obtain ⟨x16_4, rfl, HA, HK4, HO_14, HB⟩ := hrel
                                    cases gk with
                                    | zero => exact absurd HA.out (by simp [weirkeeperref08_next.l1])
                                    | succ k4 =>
                                      have H := HA.out
                                      clear HA
                                      simp only [weirkeeperref08_next.l1] at H
                                      by_cases c30 : x16_4 < t485
                                      · rw [if_pos c30] at H
                                        have c30b0 : decide (x16_4 < t485) = true := decide_eq_true c30
                                        clear c30
                                        by_cases c31 : 0 ≤ x16_4
                                        · rw [if_pos c31] at H
                                          have c31b0 : decide (0 ≤ x16_4) = true := decide_eq_true c31
                                          clear c31
                                          by_cases c32 : x16_4 < (t488.length : Int)
                                          · rw [if_pos c32] at H
                                            have c32b0 : decide (x16_4 < (t488.length : Int)) = true := decide_eq_true c32
                                            clear c32
                                            obtain ⟨ji33, hji33⟩ : ∃ j_ : Int, (wrap64 (a1 + x16_4)) = j_ := ⟨_, rfl⟩
                                            replace H : (if 0 ≤ (ji33) then (if (ji33) < (l2.length : Int) then (if (rdOf ByteArray.empty t488 x16_4).toList = (rdOf ByteArray.empty l2 (ji33)).toList then (weirkeeperref08_next.l1 k4 a1 l2 t485 (x12_3.extract 0 (t482 : Int).toNat) t488 (wrap64 (x16_4 + 1))) else (some ((⟨#[]⟩ : ByteArray), (-1)))) else (none)) else (none)) = some (r1, r2) := by first | (rw [hji33] at H; exact H) | (simp only [hji33] at H ⊢; exact H)
                                            have hji33w : (IntKind.i64.wrap (a1 + x16_4)) = ji33 := (i64_w _).trans hji33
                                            by_cases c34 : 0 ≤ (ji33)
                                            · rw [if_pos c34] at H
                                              have c34b0 : decide (0 ≤ (ji33)) = true := decide_eq_true c34
                                              clear c34
                                              by_cases c35 : (ji33) < (l2.length : Int)
                                              · rw [if_pos c35] at H
                                                have c35b0 : decide ((ji33) < (l2.length : Int)) = true := decide_eq_true c35
                                                clear c35
                                                by_cases c36 : (rdOf ByteArray.empty t488 x16_4).toList = (rdOf ByteArray.empty l2 (ji33)).toList
                                                · rw [if_pos c36] at H
                                                  have c36b0 : ((rdOf ByteArray.empty t488 x16_4).toList == (rdOf ByteArray.empty l2 (ji33)).toList) = true := beq_iff_eq.mpr c36
                                                  have c36b1 : ((rdOf ByteArray.empty t488 x16_4).toList != (rdOf ByteArray.empty l2 (ji33)).toList) = false := bne_eq_false_iff_eq.mpr c36
                                                  clear c36
                                                  have H' := Aside0.mk H
                                                  clear H
                                                  obtain ⟨Ao37, co37, eo37⟩ := Kd.R_slice HO_14.out
                                                  subst eo37
                                                  have p492 : 0 ≤ (x16_4 : Int) := of_decide_eq_true (by first | (with_reducible assumption) | assumption)
                                                  have q492 : x16_4 < (t488.length : Int) := of_decide_eq_true (by first | (with_reducible assumption) | assumption)
                                                  obtain ⟨ad492, e492, hx492_0⟩ := Kd.at_string (Kd.R_reads' HO_14.out).2.2 x16_4 p492 q492
                                                  cases e492
                                                  replace p492 := eq_true p492
                                                  replace q492 := eq_true q492
                                                  have p493 : 0 ≤ ((ji33) : Int) := of_decide_eq_true (by first | (with_reducible assumption) | assumption)
                                                  have q493 : (ji33) < (l2.length : Int) := of_decide_eq_true (by first | (with_reducible assumption) | assumption)
                                                  obtain ⟨ad493, e493, hx493_0⟩ := Kd.at_string HR2.out (ji33) p493 q493
                                                  obtain rfl : ad481 = ad493 := (by injection e493)
                                                  replace hx493_0 := (HB.out.cell (World.block_lt_of_cell? w _ hx493_0)).trans hx493_0
                                                  replace p493 := eq_true p493
                                                  replace q493 := eq_true q493
                                                  go_wp2
                                                  repeat (go_quiet (fail); try go_wp2)
                                                  go_roundg k4
                                                  case measure => have := HJ3.out; have := HJ14.out; have := HK3.out; have := HK4.out; omega
                                                  case rel => exact ⟨(wrap64 (x16_4 + 1)), (by first | rfl | (simp; done) | (simp [*]; done)), H', ⟨by have := HJ3.out; have := HJ14.out; have := HK3.out; have := HK4.out; omega⟩, ⟨by (with_reducible repeat (first | apply Kd.R_alloc | apply Kd.R_drewN | apply Kd.R_drew)); exact HO_14.out⟩, ⟨by repeat (first | (with_reducible first | exact HB.out | apply below_alloc | apply pw_below_drewN | apply below_drew1) | exact HB.out)⟩⟩
                                                · rw [if_neg c36] at H
                                                  have c36b0 : ((rdOf ByteArray.empty t488 x16_4).toList == (rdOf ByteArray.empty l2 (ji33)).toList) = false := beq_eq_false_iff_ne.mpr c36
                                                  have c36b1 : ((rdOf ByteArray.empty t488 x16_4).toList != (rdOf ByteArray.empty l2 (ji33)).toList) = true := bne_iff_ne.mpr c36
                                                  simp only [Option.some.injEq, Prod.mk.injEq] at H
                                                  obtain ⟨rfl, rfl⟩ := H
                                                  obtain ⟨Ao38, co38, eo38⟩ := Kd.R_slice HO_14.out
                                                  subst eo38
                                                  have p492 : 0 ≤ (x16_4 : Int) := of_decide_eq_true (by first | (with_reducible assumption) | assumption)
                                                  have q492 : x16_4 < (t488.length : Int) := of_decide_eq_true (by first | (with_reducible assumption) | assumption)
                                                  obtain ⟨ad492, e492, hx492_0⟩ := Kd.at_string (Kd.R_reads' HO_14.out).2.2 x16_4 p492 q492
                                                  cases e492
                                                  replace p492 := eq_true p492
                                                  replace q492 := eq_true q492
                                                  have p493 : 0 ≤ ((ji33) : Int) := of_decide_eq_true (by first | (with_reducible assumption) | assumption)
                                                  have q493 : (ji33) < (l2.length : Int) := of_decide_eq_true (by first | (with_reducible assumption) | assumption)
                                                  obtain ⟨ad493, e493, hx493_0⟩ := Kd.at_string HR2.out (ji33) p493 q493
                                                  obtain rfl : ad481 = ad493 := (by injection e493)
                                                  replace hx493_0 := (HB.out.cell (World.block_lt_of_cell? w _ hx493_0)).trans hx493_0
                                                  replace p493 := eq_true p493
                                                  replace q493 := eq_true q493
                                                  go_wp2
                                                  repeat (go_quiet (fail); try go_wp2)
                                                  go_ret2
                                                  exact ⟨by first | rfl | (simp [errW_none, errW_some] <;> rfl) | (simp only [← hji33]; first | rfl | (simp [errW_none, errW_some] <;> rfl)) | (simp [*, errW_none, errW_some] <;> rfl), by repeat (first | (with_reducible first | exact HB.out | apply below_alloc | apply pw_below_drewN | apply below_drew1) | exact HB.out)⟩
                                              · rw [if_neg c35] at H
                                                exact absurd H (by simp)
                                            · rw [if_neg c34] at H
                                              exact absurd H (by simp)
                                          · rw [if_neg c32] at H
                                            exact absurd H (by simp)
                                        · rw [if_neg c31] at H
                                          exact absurd H (by simp)
                                      · rw [if_neg c30] at H
                                        have c30b0 : decide (x16_4 < t485) = false := decide_eq_false c30
                                        clear c30
                                        simp only [Option.some.injEq, Prod.mk.injEq] at H
                                        obtain ⟨rfl, rfl⟩ := H
                                        go_wp2
                                        repeat (go_quiet (fail); try go_wp2)
                                        go_ret2
                                        exact ⟨by first | rfl | (simp [errW_none, errW_some] <;> rfl) | (simp [*, errW_none, errW_some] <;> rfl), by repeat (first | (with_reducible first | exact HB.out | apply below_alloc | apply pw_below_drewN | apply below_drew1) | exact HB.out)⟩
                                · rw [if_neg c28] at H
                                  have c28b0 : (t489 == 0) = false := beq_eq_false_iff_ne.mpr c28
                                  have c28b1 : (t489 != 0) = true := bne_iff_ne.mpr c28
                                  simp only [Option.some.injEq, Prod.mk.injEq] at H
                                  obtain ⟨rfl, rfl⟩ := H
                                  go_wp2_with (first | (go_at_call 29; (with_reducible refine (weirkeeperref08_Pieces.calls k3 a0 a1 (x12_3.extract 0 (t482 : Int).toNat) t488 t489 _ A27.out).mono ?_); rintro e w39 ⟨v490, rfl, ho0, hb⟩; have n0_ := Aside0.mk (Kd.R_lower ho0 (below_size (by repeat (first | (with_reducible first | exact HB.out | apply below_alloc | apply pw_below_drewN | apply below_drew1) | exact HB.out)))); have n1_ := Aside0.mk (below_step (by repeat (first | (with_reducible first | exact HB.out | apply below_alloc | apply pw_below_drewN | apply below_drew1) | exact HB.out)) hb); clear HB; have HO491 := n0_; have HB := n1_; clear n0_ n1_; (try clear hb); (try clear hb2); (try clear hk); (try clear hi); (try clear ho0)))
                                  repeat (go_quiet (first | (go_at_call 29; (with_reducible refine (weirkeeperref08_Pieces.calls k3 a0 a1 (x12_3.extract 0 (t482 : Int).toNat) t488 t489 _ A27.out).mono ?_); rintro e w39 ⟨v490, rfl, ho0, hb⟩; have n0_ := Aside0.mk (Kd.R_lower ho0 (below_size (by repeat (first | (with_reducible first | exact HB.out | apply below_alloc | apply pw_below_drewN | apply below_drew1) | exact HB.out)))); have n1_ := Aside0.mk (below_step (by repeat (first | (with_reducible first | exact HB.out | apply below_alloc | apply pw_below_drewN | apply below_drew1) | exact HB.out)) hb); clear HB; have HO491 := n0_; have HB := n1_; clear n0_ n1_; (try clear hb); (try clear hb2); (try clear hk); (try clear hi); (try clear ho0))); try go_wp2_with (first | (go_at_call 29; (with_reducible refine (weirkeeperref08_Pieces.calls k3 a0 a1 (x12_3.extract 0 (t482 : Int).toNat) t488 t489 _ A27.out).mono ?_); rintro e w39 ⟨v490, rfl, ho0, hb⟩; have n0_ := Aside0.mk (Kd.R_lower ho0 (below_size (by repeat (first | (with_reducible first | exact HB.out | apply below_alloc | apply pw_below_drewN | apply below_drew1) | exact HB.out)))); have n1_ := Aside0.mk (below_step (by repeat (first | (with_reducible first | exact HB.out | apply below_alloc | apply pw_below_drewN | apply below_drew1) | exact HB.out)) hb); clear HB; have HO491 := n0_; have HB := n1_; clear n0_ n1_; (try clear hb); (try clear hb2); (try clear hk); (try clear hi); (try clear ho0))))
                                  go_ret2
                                  exact ⟨by first | rfl | (simp [errW_none, errW_some] <;> rfl) | (simp [*, errW_none, errW_some] <;> rfl), by repeat (first | (with_reducible first | exact HB.out | apply below_alloc | apply pw_below_drewN | apply below_drew1) | exact HB.out)⟩
                              · rw [if_neg c26] at H
                                exact absurd H (by simp)
                            · rw [if_neg c25] at H
                              exact absurd H (by simp)
              · rw [if_neg c12] at H
                exact absurd H (by simp)
            · rw [if_neg c11] at H
              exact absurd H (by simp)
          · rw [if_neg c10] at H
            exact absurd H (by simp)
        · rw [if_neg c9] at H
          exact absurd H (by simp)

/-! ### weirkeeperref08_Parse: function 31 -/
mutual
def weirkeeperref08_Parse.j0 : Nat → Int → List ByteArray → List ByteArray → Int → Bool → Option (List ByteArray × Int)
  | 0, _, _, _, _, _ => none
  | k + 1, x0, x1, x6, x7, x19 => if x19 = true then (some (([] : List ByteArray), 0)) else (weirkeeperref08_Parse.l0 k x0 x1 x6 x7)
def weirkeeperref08_Parse.l0 : Nat → Int → List ByteArray → List ByteArray → Int → Option (List ByteArray × Int)
  | 0, _, _, _, _ => none
  | k + 1, x0, x1, x6, x7 => (weirkeeperref08_next.f k x0 x7 x1).bind fun bt495 => (if bt495.2 < 0 then (some (x6, x7)) else (if x6.length < 8796093022208 then (weirkeeperref08_Parse.l0 k x0 x1 (x6 ++ [bt495.1]) bt495.2) else (none)))
end
def weirkeeperref08_Parse.f (k : Nat) (a0 : Int) (l1 : List ByteArray) : Option (List ByteArray × Int) := (weirkeeperref08_May.f a0 0).bind fun t494 => (if t494 = true then (weirkeeperref08_Parse.j0 k a0 l1 ([] : List ByteArray) 0 (decide ((l1.length : Int) > 128))) else (weirkeeperref08_Parse.j0 k a0 l1 ([] : List ByteArray) 0 true))
theorem weirkeeperref08_Parse.mono_l : ∀ k, (∀ y0 y1 y2 y3 y4, LeO (weirkeeperref08_Parse.j0 k y0 y1 y2 y3 y4) (weirkeeperref08_Parse.j0 (k + 1) y0 y1 y2 y3 y4)) ∧ (∀ y0 y1 y2 y3, LeO (weirkeeperref08_Parse.l0 k y0 y1 y2 y3) (weirkeeperref08_Parse.l0 (k + 1) y0 y1 y2 y3))
  | 0 => ⟨fun _ _ _ _ _ r h => by simp [weirkeeperref08_Parse.j0] at h, fun _ _ _ _ r h => by simp [weirkeeperref08_Parse.l0] at h⟩
  | k + 1 => by
    obtain ⟨ih0, ih1⟩ := weirkeeperref08_Parse.mono_l k
    refine ⟨?_, ?_⟩
    · intro y0 y1 y2 y3 y4
      unfold weirkeeperref08_Parse.j0
      repeat' first
      | (with_reducible exact ih0 _ _ _ _ _)
      | (with_reducible exact ih1 _ _ _ _)
      | (with_reducible exact weirkeeperref08_next.mono _ _ _ _)
      | (with_reducible exact LeO.refl _)
      | (with_reducible exact LeO.none _)
      | (with_reducible refine LeO.ite ?_ ?_)
      | (with_reducible refine LeO.bind ?_ (fun _ => ?_))
      | exact ih0 _ _ _ _ _
      | exact ih1 _ _ _ _
      | exact weirkeeperref08_next.mono _ _ _ _
      | exact LeO.none _
      | refine LeO.ite ?_ ?_
      | refine LeO.bind ?_ (fun _ => ?_)
    · intro y0 y1 y2 y3
      unfold weirkeeperref08_Parse.l0
      repeat' first
      | (with_reducible exact ih0 _ _ _ _ _)
      | (with_reducible exact ih1 _ _ _ _)
      | (with_reducible exact weirkeeperref08_next.mono _ _ _ _)
      | (with_reducible exact LeO.refl _)
      | (with_reducible exact LeO.none _)
      | (with_reducible refine LeO.ite ?_ ?_)
      | (with_reducible refine LeO.bind ?_ (fun _ => ?_))
      | exact ih0 _ _ _ _ _
      | exact ih1 _ _ _ _
      | exact weirkeeperref08_next.mono _ _ _ _
      | exact LeO.none _
      | refine LeO.ite ?_ ?_
      | refine LeO.bind ?_ (fun _ => ?_)
theorem weirkeeperref08_Parse.mono : ∀ a0 a1 k, LeO (weirkeeperref08_Parse.f k a0 a1) (weirkeeperref08_Parse.f (k + 1) a0 a1) := by
  intro a0 a1 k
  obtain ⟨ih0, ih1⟩ := weirkeeperref08_Parse.mono_l k
  unfold weirkeeperref08_Parse.f
  repeat' first
      | (with_reducible exact ih0 _ _ _ _ _)
      | (with_reducible exact ih1 _ _ _ _)
      | (with_reducible exact weirkeeperref08_next.mono _ _ _ _)
      | (with_reducible exact LeO.refl _)
      | (with_reducible exact LeO.none _)
      | (with_reducible refine LeO.ite ?_ ?_)
      | (with_reducible refine LeO.bind ?_ (fun _ => ?_))
      | exact ih0 _ _ _ _ _
      | exact ih1 _ _ _ _
      | exact weirkeeperref08_next.mono _ _ _ _
      | exact LeO.none _
      | refine LeO.ite ?_ ?_
      | refine LeO.bind ?_ (fun _ => ?_)
set_option maxHeartbeats 8000000 in
set_option maxRecDepth 100000 in
theorem weirkeeperref08_Parse.calls (k : Nat) (a0 : Int) (A1 : Option Addr) (c1 : Nat) (l1 : List ByteArray) (r1 : List ByteArray) (r2 : Int) (w : World) (hr1 : Kd.C Kd.string w A1 l1.length l1) (hc1 : l1.length ≤ c1) (h : weirkeeperref08_Parse.f k a0 l1 = some (r1, r2)) :
    Calls Try.prog 31 #[.int .i64 a0, .slice A1 l1.length c1] w fun e w' => ∃ v0_ : Value, e = .returned (.tuple #[v0_, .int .i64 r2]) ∧ Kd.R Kd.string 9 w' w.heap.size (fun _ => True) v0_ r1 ∧ Below w.heap.size w w' := by
  have HR1 := Aside0.mk hr1
  have HC1 := Aside0.mk hc1
  clear hr1 hc1
  have HB := Aside0.mk (Below.refl w.heap.size w)
  have H : ((weirkeeperref08_May.f a0 0).bind fun t494 => (if t494 = true then (weirkeeperref08_Parse.j0 k a0 l1 ([] : List ByteArray) 0 (decide ((l1.length : Int) > 128))) else (weirkeeperref08_Parse.j0 k a0 l1 ([] : List ByteArray) 0 true))) = some (r1, r2) := h
  clear h
  replace H := Option.bind_eq_some_iff.mp H
  obtain ⟨t494, A30, H⟩ := H
  replace H : (if t494 = true then (weirkeeperref08_Parse.j0 k a0 l1 ([] : List ByteArray) 0 (decide ((l1.length : Int) > 128))) else (weirkeeperref08_Parse.j0 k a0 l1 ([] : List ByteArray) 0 true)) = some (r1, r2) := H
  have A3 := Aside0.mk A30
  clear A30
  have HC4 := Aside0.mk H
  clear H
  go_enter Try.func31, Try.ntmps31
  go_upto_region 4 with (first | ((with_reducible refine gate_callee (f := 55) rfl ?_); refine goesL_ (some 12) rfl rfl Try.func55 (by kernel_rfl) rfl #[.int .i64 a0, .int .i64 0] rfl (by (try simp only [List.map_toArray, List.map_cons, List.map_nil]); first | done | rfl | (simp only [List.length_drop, List.length_take]; rfl)) ?_; (with_reducible refine (weirkeeperref08_May.calls a0 0 t494 _ A3.out).mono ?_); rintro e w' ⟨rfl, ⟨nd, rfl⟩⟩; refine ⟨_, rfl, ?_⟩))
  (try simp only [Act.put, List.setIfInBounds_toArray, List.set_cons_zero, List.set_cons_succ])
  go_cut [19] (fun v19 wc => ∃ (kq : Nat) (x19_3 : Bool), v19 = .bool x19_3 ∧ Aside0 (weirkeeperref08_Parse.j0 kq a0 l1 ([] : List ByteArray) 0 x19_3 = some (r1, r2)) ∧ Aside0 (kq ≤ k) ∧ Aside0 (Kd.R Kd.string 9 wc w.heap.size (fun _ => True) (.slice none 0 0) ([] : List ByteArray)) ∧ Aside0 (Below w.heap.size w wc))
  case first =>
    have H := HC4.out
    clear HC4
    by_cases c5 : t494 = true
    · subst c5
      have H1 : (weirkeeperref08_Parse.j0 k a0 l1 ([] : List ByteArray) 0 (decide ((l1.length : Int) > 128))) = some (r1, r2) := by rw [if_pos rfl] at H; exact H
      clear H
      have H := H1
      clear H1
      have H' := Aside0.mk H
      clear H
      go_wp2
      go_meet
      case rel => exact ⟨_, (decide ((l1.length : Int) > 128)), (by first | rfl | (simp; done) | (simp [*]; done)), H', ⟨by first | omega | exact Nat.le_refl _⟩, ⟨by first | exact Kd.R_nil _ _ _ _ _ | exact Kd.N_nil _ _ _ _ _ | exact Kd.V_nil _ _ _ _ _ | exact Kd.Q_nil _ _ _ _ _ | exact Kd.S_nil _ _ _ _ _⟩, ⟨by repeat (first | (with_reducible first | exact HB.out | apply below_alloc | apply pw_below_drewN | apply below_drew1) | exact HB.out)⟩⟩
    · replace c5 := Bool.eq_false_iff.mpr c5
      subst c5
      have H1 : (weirkeeperref08_Parse.j0 k a0 l1 ([] : List ByteArray) 0 true) = some (r1, r2) := by rw [if_neg (show ¬ (false = true) by decide)] at H; exact H
      clear H
      have H := H1
      clear H1
      have H' := Aside0.mk H
      clear H
      go_wp2
      go_meet
      case rel => exact ⟨_, (true), (by first | rfl | (simp; done) | (simp [*]; done)), H', ⟨by first | omega | exact Nat.le_refl _⟩, ⟨by first | exact Kd.R_nil _ _ _ _ _ | exact Kd.N_nil _ _ _ _ _ | exact Kd.V_nil _ _ _ _ _ | exact Kd.Q_nil _ _ _ _ _ | exact Kd.S_nil _ _ _ _ _⟩, ⟨by repeat (first | (with_reducible first | exact HB.out | apply below_alloc | apply pw_below_drewN | apply below_drew1) | exact HB.out)⟩⟩
  case rest =>
    clear HC4
    try clear c1
    try clear p2
    try clear c3
    try clear c5
    obtain ⟨kq, x19_3, rfl, HA, HJ3, HO_6, HB⟩ := hcut
    cases kq with
    | zero => exact absurd HA.out (by simp [weirkeeperref08_Parse.j0])
    | succ kj3 =>
      have H := HA.out
      clear HA
      simp only [weirkeeperref08_Parse.j0] at H
      by_cases c6 : x19_3 = true
      · subst c6
        have H1 : (some (([] : List ByteArray), 0)) = some (r1, r2) := by rw [if_pos rfl] at H; exact H
        clear H
        have H := H1
        clear H1
        simp only [Option.some.injEq, Prod.mk.injEq] at H
        obtain ⟨rfl, rfl⟩ := H
        go_wp2
        go_ret2
        exact ⟨_, by first | rfl | (simp [errW_none, errW_some] <;> rfl) | (simp [*, errW_none, errW_some] <;> rfl), by first | exact Kd.R_nil _ _ _ _ _ | exact Kd.N_nil _ _ _ _ _ | exact Kd.V_nil _ _ _ _ _ | exact Kd.Q_nil _ _ _ _ _ | exact Kd.S_nil _ _ _ _ _, by repeat (first | (with_reducible first | exact HB.out | apply below_alloc | apply pw_below_drewN | apply below_drew1) | exact HB.out)⟩
      · replace c6 := Bool.eq_false_iff.mpr c6
        subst c6
        have H1 : (weirkeeperref08_Parse.l0 kj3 a0 l1 ([] : List ByteArray) 0) = some (r1, r2) := by rw [if_neg (show ¬ (false = true) by decide)] at H; exact H
        clear H
        have H := H1
        clear H1
        have H' := Aside0.mk H
        clear H
        go_wp2
        go_loopg [6, 7] kj3 (fun kq v6 v7 w' => ∃ (x6_2 : List ByteArray) (x7_2 : Int), v7 = .int .i64 x7_2 ∧ Aside0 (weirkeeperref08_Parse.l0 kq a0 l1 x6_2 x7_2 = some (r1, r2)) ∧ Aside0 (kq ≤ kj3) ∧ Aside0 (Kd.R Kd.string 9 w' w.heap.size (fun _ => True) v6 x6_2) ∧ Aside0 (Below w.heap.size w w'))
        case atStart => exact ⟨(([] : List ByteArray)), (0), (by first | rfl | (simp; done) | (simp [*]; done)), H', ⟨Nat.le_refl _⟩, ⟨by (with_reducible repeat (first | apply Kd.R_alloc | apply Kd.R_drewN | apply Kd.R_drew)); exact HO_6.out⟩, ⟨by repeat (first | (with_reducible first | exact HB.out | apply below_alloc | apply pw_below_drewN | apply below_drew1) | exact HB.out)⟩⟩
        case round =>
          clear H'
          try clear c1
          try clear p2
          try clear c3
          try clear c5
          try clear c6
          try clear p2
          obtain ⟨x6_2, x7_2, rfl, HA, HK2, HO_6, HB⟩ := hrel
          cases gk with
          | zero => exact absurd HA.out (by simp [weirkeeperref08_Parse.l0])
          | succ k2 =>
            have H := HA.out
            clear HA
            simp only [weirkeeperref08_Parse.l0] at H
            replace H := Option.bind_eq_some_iff.mp H
            obtain ⟨⟨t495, t496⟩, A70, H⟩ := H
            replace H : (if t496 < 0 then (some (x6_2, x7_2)) else (if x6_2.length < 8796093022208 then (weirkeeperref08_Parse.l0 k2 a0 l1 (x6_2 ++ [t495]) t496) else (none))) = some (r1, r2) := H
            have A7 := Aside0.mk A70
            clear A70
            by_cases c8 : t496 < 0
            · rw [if_pos c8] at H
              have c8b0 : decide (t496 < 0) = true := decide_eq_true c8
              clear c8
              simp only [Option.some.injEq, Prod.mk.injEq] at H
              obtain ⟨rfl, rfl⟩ := H
              go_wp2_with (first | ((with_reducible refine gate_callee (f := 58) rfl ?_); refine goesL_ (some 24) rfl rfl Try.func58 (by kernel_rfl) rfl #[.int .i64 a0, .int .i64 x7_2, .slice A1 l1.length c1] rfl (by (try simp only [List.map_toArray, List.map_cons, List.map_nil]); first | done | rfl | (simp only [List.length_drop, List.length_take]; rfl)) ?_; (with_reducible refine (weirkeeperref08_next.calls k2 a0 x7_2 _ _ l1 t495 t496 _ ?side1 ?side2 A7.out).mono ?_); (case side1 => repeat (first | exact (Kd.C_below HR1.out HB.out) | (with_reducible refine Kd.C_alloc ?_ _) | (with_reducible refine Kd.C_drewN ?_ _) | (with_reducible refine Kd.C_drew ?_))); (case side2 => exact HC1.out); rintro e w9 ⟨rfl, hb⟩; refine ⟨_, rfl, ?_⟩; have n0_ := Aside0.mk (Kd.R_below (by (with_reducible repeat (first | apply Kd.R_alloc | apply Kd.R_drewN | apply Kd.R_drew)); exact HO_6.out) hb); have n1_ := Aside0.mk (below_step (by repeat (first | (with_reducible first | exact HB.out | apply below_alloc | apply pw_below_drewN | apply below_drew1) | exact HB.out)) hb); clear HO_6; clear HB; have HO_6 := n0_; have HB := n1_; clear n0_ n1_; (try clear hb); (try clear hb2); (try clear hk); (try clear hi)))
              go_ret2
              exact ⟨_, by first | rfl | (simp [errW_none, errW_some] <;> rfl) | (simp [*, errW_none, errW_some] <;> rfl), by (with_reducible repeat (first | apply Kd.R_alloc | apply Kd.R_drewN | apply Kd.R_drew)); exact HO_6.out, by repeat (first | (with_reducible first | exact HB.out | apply below_alloc | apply pw_below_drewN | apply below_drew1) | exact HB.out)⟩
            · rw [if_neg c8] at H
              have c8b0 : decide (t496 < 0) = false := decide_eq_false c8
              clear c8
              by_cases c10 : x6_2.length < 8796093022208
              · rw [if_pos c10] at H
                have LMc10 := Aside0.mk c10
                clear c10
                obtain ⟨y497, hy497⟩ : ∃ y_ : List ByteArray, y_ = (x6_2 ++ [t495]) := ⟨_, rfl⟩
                replace H : (weirkeeperref08_Parse.l0 k2 a0 l1 y497 t496) = some (r1, r2) := by first | (rw [hy497]; with_reducible exact H) | (have H2_ := (Option.bind_some _ _).symm.trans H; rw [hy497]; with_reducible exact H2_) | (have H2_ := (Option.bind_some _ _).symm.trans H; with_reducible exact H2_) | with_reducible exact H | (rw [hy497]; exact H) | exact H
                have Ny497 := Aside0.mk hy497
                clear hy497
                have H' := Aside0.mk H
                clear H
                go_wp2_with (first | ((with_reducible refine gate_callee (f := 58) rfl ?_); refine goesL_ (some 24) rfl rfl Try.func58 (by kernel_rfl) rfl #[.int .i64 a0, .int .i64 x7_2, .slice A1 l1.length c1] rfl (by (try simp only [List.map_toArray, List.map_cons, List.map_nil]); first | done | rfl | (simp only [List.length_drop, List.length_take]; rfl)) ?_; (with_reducible refine (weirkeeperref08_next.calls k2 a0 x7_2 _ _ l1 t495 t496 _ ?side1 ?side2 A7.out).mono ?_); (case side1 => repeat (first | exact (Kd.C_below HR1.out HB.out) | (with_reducible refine Kd.C_alloc ?_ _) | (with_reducible refine Kd.C_drewN ?_ _) | (with_reducible refine Kd.C_drew ?_))); (case side2 => exact HC1.out); rintro e w11 ⟨rfl, hb⟩; refine ⟨_, rfl, ?_⟩; have n0_ := Aside0.mk (Kd.R_below (by (with_reducible repeat (first | apply Kd.R_alloc | apply Kd.R_drewN | apply Kd.R_drew)); exact HO_6.out) hb); have n1_ := Aside0.mk (below_step (by repeat (first | (with_reducible first | exact HB.out | apply below_alloc | apply pw_below_drewN | apply below_drew1) | exact HB.out)) hb); clear HO_6; clear HB; have HO_6 := n0_; have HB := n1_; clear n0_ n1_; (try clear hb); (try clear hb2); (try clear hk); (try clear hi)) | ((with_reducible refine gate_builtin (b := .append) (xs := #[.tmp 31, .tmp 33]) rfl ?_); (try (refine gate_guard (by rfl) ?_; dsimp only)); at_builtin; refine Kd.R_append Kd.string (w0 := w) w.heap.size rfl (.tmp 31) (.tmp 33) 22 9 (.string ⟨#[]⟩) 16 rfl Try.underlying22 info9 rfl (by decide) (by omega) u6 x6_2 t495 [.string t495] (fun _ => True) (fun _ => False) rfl rfl ?aP (fun _ hk => hk.elim) ?aF ?aO ?aB ?aS ?aL ?_; (case aP => exact rfl); (case aB => exact (by repeat (first | (with_reducible first | exact HB.out | apply below_alloc | apply pw_below_drewN | apply below_drew1) | exact HB.out))); (case aF => exact (fun _ _ => trivial)); (case aO => exact (by (with_reducible repeat (first | apply Kd.R_alloc | apply Kd.R_drewN | apply Kd.R_drew)); exact HO_6.out)); (case aS => exact (below_size (by repeat (first | (with_reducible first | exact HB.out | apply below_alloc | apply pw_below_drewN | apply below_drew1) | exact HB.out)))); (case aL => have := LMc10.out; omega); intro v498 w12 ho hb hg hat; rw [← Ny497.out] at ho; have n0_ := Aside0.mk (hb); have n1_ := Aside0.mk (ho); clear HB; clear HO_6; have HB := n0_; have HO499 := n1_; clear n0_ n1_; clear ho hb hg hat))
                go_roundg k2
                case measure => have := HJ3.out; have := HK2.out; omega
                case rel => exact ⟨(y497), (t496), (by first | rfl | (simp; done) | (simp [*]; done)), H', ⟨by have := HJ3.out; have := HK2.out; omega⟩, ⟨by (with_reducible repeat (first | apply Kd.R_alloc | apply Kd.R_drewN | apply Kd.R_drew)); exact HO499.out⟩, ⟨by repeat (first | (with_reducible first | exact HB.out | apply below_alloc | apply pw_below_drewN | apply below_drew1) | exact HB.out)⟩⟩
              · rw [if_neg c10] at H
                exact absurd H (by simp)

/-! ### weirkeeperref08_Texts: function 36 -/
def weirkeeperref08_Texts.f (k : Nat) (l0_0 : List ByteArray) (l0_1 : List (S77)) (a1 : Int) : Option (List ByteArray × Int × Int) := (weirkeeperref04_Read.f k l0_0 l0_1 2 128).bind fun bt537 => (if bt537.2 = 0 then ((weirkeeperref06_Cut.f bt537.1).bind fun t539 => ((weirkeeperref08_Parse.f k a1 t539).bind fun bt542 => (some (bt542.1, bt542.2, 0)))) else (some (([] : List ByteArray), 0, bt537.2)))
theorem weirkeeperref08_Texts.mono : ∀ a0 a1 a2 k, LeO (weirkeeperref08_Texts.f k a0 a1 a2) (weirkeeperref08_Texts.f (k + 1) a0 a1 a2) := by
  intro a0 a1 a2 k
  unfold weirkeeperref08_Texts.f
  repeat' first
      | (with_reducible exact weirkeeperref04_Read.mono _ _ _ _ _)
      | (with_reducible exact weirkeeperref08_Parse.mono _ _ _)
      | (with_reducible exact LeO.refl _)
      | (with_reducible exact LeO.none _)
      | (with_reducible refine LeO.ite ?_ ?_)
      | (with_reducible refine LeO.bind ?_ (fun _ => ?_))
      | exact weirkeeperref04_Read.mono _ _ _ _ _
      | exact weirkeeperref08_Parse.mono _ _ _
      | exact LeO.none _
      | refine LeO.ite ?_ ?_
      | refine LeO.bind ?_ (fun _ => ?_)
set_option maxHeartbeats 8000000 in
set_option maxRecDepth 100000 in
theorem weirkeeperref08_Texts.calls (k : Nat) (A0_0 : Option Addr) (c0_0 : Nat) (l0_0 : List ByteArray) (A0_1 : Option Addr) (c0_1 : Nat) (l0_1 : List (S77)) (a1 : Int) (r1 : List ByteArray) (r2 : Int) (r3 : Int) (w : World) (hr0_0 : Kd.C Kd.string w A0_0 l0_0.length l0_0) (hc0_0 : l0_0.length ≤ c0_0) (hr0_1 : Kd.C k77 w A0_1 l0_1.length l0_1) (hc0_1 : l0_1.length ≤ c0_1) (h : weirkeeperref08_Texts.f k l0_0 l0_1 a1 = some (r1, r2, r3)) :
    Calls Try.prog 36 #[.agg #[.slice A0_0 l0_0.length c0_0, .slice A0_1 l0_1.length c0_1], .int .i64 a1] w fun e w' => ∃ v0_ : Value, e = .returned (.tuple #[v0_, .int .i64 r2, .int .i64 r3]) ∧ Kd.R Kd.string 9 w' w.heap.size (fun _ => True) v0_ r1 ∧ Below w.heap.size w w' := by
  have hu29 := Try.underlying29
  have HR0_0 := Aside0.mk hr0_0
  have HC0_0 := Aside0.mk hc0_0
  clear hr0_0 hc0_0
  have HR0_1 := Aside0.mk hr0_1
  have HC0_1 := Aside0.mk hc0_1
  clear hr0_1 hc0_1
  have HB := Aside0.mk (Below.refl w.heap.size w)
  have H : ((weirkeeperref04_Read.f k l0_0 l0_1 2 128).bind fun bt537 => (if bt537.2 = 0 then ((weirkeeperref06_Cut.f bt537.1).bind fun t539 => ((weirkeeperref08_Parse.f k a1 t539).bind fun bt542 => (some (bt542.1, bt542.2, 0)))) else (some (([] : List ByteArray), 0, bt537.2)))) = some (r1, r2, r3) := h
  clear h
  replace H := Option.bind_eq_some_iff.mp H
  obtain ⟨⟨t537, t538⟩, A30, H⟩ := H
  replace H : (if t538 = 0 then ((weirkeeperref06_Cut.f t537).bind fun t539 => ((weirkeeperref08_Parse.f k a1 t539).bind fun bt542 => (some (bt542.1, bt542.2, 0)))) else (some (([] : List ByteArray), 0, t538))) = some (r1, r2, r3) := H
  have A3 := Aside0.mk A30
  clear A30
  by_cases c4 : t538 = 0
  · rw [if_pos c4] at H
    have c4b0 : (t538 == 0) = true := beq_iff_eq.mpr c4
    have c4b1 : (t538 != 0) = false := bne_eq_false_iff_eq.mpr c4
    clear c4
    replace H := Option.bind_eq_some_iff.mp H
    obtain ⟨t539, A50, H⟩ := H
    replace H : ((weirkeeperref08_Parse.f k a1 t539).bind fun bt542 => (some (bt542.1, bt542.2, 0))) = some (r1, r2, r3) := H
    have A5 := Aside0.mk A50
    clear A50
    replace H := Option.bind_eq_some_iff.mp H
    obtain ⟨⟨t542, t543⟩, A60, H⟩ := H
    replace H : (some (t542, t543, 0)) = some (r1, r2, r3) := H
    have A6 := Aside0.mk A60
    clear A60
    simp only [Option.some.injEq, Prod.mk.injEq] at H
    obtain ⟨rfl, rfl, rfl⟩ := H
    go_enter Try.func36, Try.ntmps36
    go_wp2_with (first | ((with_reducible refine gate_dst (N := 2) rfl ?_); refine box_event ?hg (N := 2) ?hd (cs := #[.slice A0_0 l0_0.length c0_0, .slice A0_1 l0_1.length c0_1]) (t := 29) ?hr ?_; (case hd => rfl); (case hg => rfl); (case hr => first | (go_simp; done) | (go_simp; rfl)); intro gb536 hg w7 hbox hb; have n0_ := Aside0.mk (below_step (by repeat (first | (with_reducible first | exact HB.out | apply below_alloc | apply pw_below_drewN | apply below_drew1) | exact HB.out)) hb); have n1_ := Aside0.mk (hbox); have n2_ := Aside0.mk ((by rw [hg]; exact (below_size (by repeat (first | (with_reducible first | exact HB.out | apply below_alloc | apply pw_below_drewN | apply below_drew1) | exact HB.out))) : w.heap.size ≤ gb536)); have n3_ := Aside0.mk ((by rw [hg]; exact (below_size (by repeat (first | (with_reducible first | exact HB.out | apply below_alloc | apply pw_below_drewN | apply below_drew1) | exact HB.out))) : w.heap.size ≤ gb536)); clear HB; have HB := n0_; have BK536 := n1_; have GW536 := n2_; have GE536 := n3_; clear n0_ n1_ n2_ n3_; clear hb hbox hg; have hcz8_0 : w7.cell? ⟨gb536, 0, none⟩ = some (.slice A0_0 l0_0.length c0_0) := (blk_cell BK536.out 0).trans rfl; have hcz8_1 : w7.cell? ⟨gb536, 1, none⟩ = some (.slice A0_1 l0_1.length c0_1) := (blk_cell BK536.out 1).trans rfl; have hfz8_0 := blk_frozen BK536.out 0; have hfz8_1 := blk_frozen BK536.out 1) | ((with_reducible refine gate_callee (f := 59) rfl ?_); refine goesL_ (some 13) rfl rfl Try.func59 (by kernel_rfl) rfl #[.agg #[.slice A0_0 l0_0.length c0_0, .slice A0_1 l0_1.length c0_1], .int .i64 2, .int .i64 128] rfl (by (try simp only [List.map_toArray, List.map_cons, List.map_nil]); first | done | rfl | (simp only [List.length_drop, List.length_take]; rfl)) ?_; (with_reducible refine (weirkeeperref04_Read.calls k _ _ l0_0 _ _ l0_1 2 128 t537 t538 _ ?side1 ?side2 ?side3 ?side4 A3.out).mono ?_); (case side1 => repeat (first | exact (Kd.C_below HR0_0.out HB.out) | (with_reducible refine Kd.C_alloc ?_ _) | (with_reducible refine Kd.C_drewN ?_ _) | (with_reducible refine Kd.C_drew ?_))); (case side2 => exact HC0_0.out); (case side3 => repeat (first | exact (Kd.C_below HR0_1.out HB.out) | (with_reducible refine Kd.C_alloc ?_ _) | (with_reducible refine Kd.C_drewN ?_ _) | (with_reducible refine Kd.C_drew ?_))); (case side4 => exact HC0_1.out); rintro e w9 ⟨rfl, hb⟩; refine ⟨_, rfl, ?_⟩; have n0_ := Aside0.mk (blk_below (g := gb536) (o := .cells #[.slice A0_0 l0_0.length c0_0, .slice A0_1 l0_1.length c0_1] 29 (0, 0)) (by (with_reducible repeat (first | refine blk_drewN ?_ _ | refine blk_drew ?_ | refine blk_alloc ?_ _)); exact BK536.out) hb); have n1_ := Aside0.mk (below_step (by repeat (first | (with_reducible first | exact HB.out | apply below_alloc | apply pw_below_drewN | apply below_drew1 | refine below_set ?_ GE536.out) | exact HB.out)) hb); clear BK536; clear HB; have BK536 := n0_; have HB := n1_; clear n0_ n1_; (try clear hb); (try clear hb2); (try clear hk); (try clear hi)) | ((with_reducible refine gate_callee (f := 60) rfl ?_); refine goesL_ (some 22) rfl rfl Try.func60 (by kernel_rfl) rfl #[.string t537] rfl (by (try simp only [List.map_toArray, List.map_cons, List.map_nil]); first | done | rfl | (simp only [List.length_drop, List.length_take]; rfl)) ?_; (with_reducible refine (weirkeeperref06_Cut.calls t537 t539 _ A5.out).mono ?_); rintro e w10 ⟨v540, rfl, ho0, hb⟩; refine ⟨_, rfl, ?_⟩; have n0_ := Aside0.mk (Kd.R_lower ho0 (below_size (by repeat (first | (with_reducible first | exact HB.out | apply below_alloc | apply pw_below_drewN | apply below_drew1 | refine below_set ?_ GE536.out) | exact HB.out)))); have n1_ := Aside0.mk (blk_below (g := gb536) (o := .cells #[.slice A0_0 l0_0.length c0_0, .slice A0_1 l0_1.length c0_1] 29 (0, 0)) (by (with_reducible repeat (first | refine blk_drewN ?_ _ | refine blk_drew ?_ | refine blk_alloc ?_ _)); exact BK536.out) hb); have n2_ := Aside0.mk (below_step (by repeat (first | (with_reducible first | exact HB.out | apply below_alloc | apply pw_below_drewN | apply below_drew1 | refine below_set ?_ GE536.out) | exact HB.out)) hb); clear BK536; clear HB; have HO541 := n0_; have BK536 := n1_; have HB := n2_; clear n0_ n1_ n2_; (try clear hb); (try clear hb2); (try clear hk); (try clear hi); (try clear ho0); obtain ⟨Ao11, co11, eo11⟩ := Kd.R_slice HO541.out; subst eo11) | ((with_reducible refine gate_callee (f := 31) rfl ?_); refine goesL_ (some 23) rfl rfl Try.func31 (by kernel_rfl) rfl #[.int .i64 a1, .slice Ao11 t539.length co11] rfl (by (try simp only [List.map_toArray, List.map_cons, List.map_nil]); first | done | rfl | (simp only [List.length_drop, List.length_take]; rfl)) ?_; (with_reducible refine (weirkeeperref08_Parse.calls k a1 _ _ t539 t542 t543 _ ?side1 ?side2 A6.out).mono ?_); (case side1 => repeat (first | exact (Kd.R_reads' HO541.out).2.2 | (with_reducible refine Kd.C_alloc ?_ _) | (with_reducible refine Kd.C_drewN ?_ _) | (with_reducible refine Kd.C_drew ?_))); (case side2 => exact (Kd.R_reads' HO541.out).2.1); rintro e w12 ⟨v544, rfl, ho0, hb⟩; refine ⟨_, rfl, ?_⟩; have n0_ := Aside0.mk (Kd.R_elder' (by (with_reducible repeat (first | apply Kd.R_alloc | apply Kd.R_drewN | apply Kd.R_drew)); exact HO541.out) (Kd.R_base ho0) hb); have n1_ := Aside0.mk (Kd.R_lower (Kd.R_new' ho0 (Kd.R_lt (by (with_reducible repeat (first | apply Kd.R_alloc | apply Kd.R_drewN | apply Kd.R_drew)); exact HO541.out))) (below_size (by repeat (first | (with_reducible first | exact HB.out | apply below_alloc | apply pw_below_drewN | apply below_drew1 | refine below_set ?_ GE536.out) | exact HB.out)))); have n2_ := Aside0.mk (blk_below (g := gb536) (o := .cells #[.slice A0_0 l0_0.length c0_0, .slice A0_1 l0_1.length c0_1] 29 (0, 0)) (by (with_reducible repeat (first | refine blk_drewN ?_ _ | refine blk_drew ?_ | refine blk_alloc ?_ _)); exact BK536.out) hb); have n3_ := Aside0.mk (below_step (by repeat (first | (with_reducible first | exact HB.out | apply below_alloc | apply pw_below_drewN | apply below_drew1 | refine below_set ?_ GE536.out) | exact HB.out)) hb); clear HO541; clear BK536; clear HB; have HO541 := n0_; have HO545 := n1_; have BK536 := n2_; have HB := n3_; clear n0_ n1_ n2_ n3_; (try clear hb); (try clear hb2); (try clear hk); (try clear hi); (try clear ho0)))
    go_ret3
    exact ⟨_, by first | rfl | (simp [errW_none, errW_some] <;> rfl) | (simp [*, errW_none, errW_some] <;> rfl), by (with_reducible repeat (first | apply Kd.R_alloc | apply Kd.R_drewN | apply Kd.R_drew)); exact Kd.R_mono HO545.out (fun _ hk => trivial), by repeat (first | (with_reducible first | exact HB.out | apply below_alloc | apply pw_below_drewN | apply below_drew1 | refine below_set ?_ GE536.out) | exact HB.out)⟩
  · rw [if_neg c4] at H
    have c4b0 : (t538 == 0) = false := beq_eq_false_iff_ne.mpr c4
    have c4b1 : (t538 != 0) = true := bne_iff_ne.mpr c4
    simp only [Option.some.injEq, Prod.mk.injEq] at H
    obtain ⟨rfl, rfl, rfl⟩ := H
    go_enter Try.func36, Try.ntmps36
    go_wp2_with (first | ((with_reducible refine gate_dst (N := 2) rfl ?_); refine box_event ?hg (N := 2) ?hd (cs := #[.slice A0_0 l0_0.length c0_0, .slice A0_1 l0_1.length c0_1]) (t := 29) ?hr ?_; (case hd => rfl); (case hg => rfl); (case hr => first | (go_simp; done) | (go_simp; rfl)); intro gb536 hg w13 hbox hb; have n0_ := Aside0.mk (below_step (by repeat (first | (with_reducible first | exact HB.out | apply below_alloc | apply pw_below_drewN | apply below_drew1) | exact HB.out)) hb); have n1_ := Aside0.mk (hbox); have n2_ := Aside0.mk ((by rw [hg]; exact (below_size (by repeat (first | (with_reducible first | exact HB.out | apply below_alloc | apply pw_below_drewN | apply below_drew1) | exact HB.out))) : w.heap.size ≤ gb536)); have n3_ := Aside0.mk ((by rw [hg]; exact (below_size (by repeat (first | (with_reducible first | exact HB.out | apply below_alloc | apply pw_below_drewN | apply below_drew1) | exact HB.out))) : w.heap.size ≤ gb536)); clear HB; have HB := n0_; have BK536 := n1_; have GW536 := n2_; have GE536 := n3_; clear n0_ n1_ n2_ n3_; clear hb hbox hg; have hcz14_0 : w13.cell? ⟨gb536, 0, none⟩ = some (.slice A0_0 l0_0.length c0_0) := (blk_cell BK536.out 0).trans rfl; have hcz14_1 : w13.cell? ⟨gb536, 1, none⟩ = some (.slice A0_1 l0_1.length c0_1) := (blk_cell BK536.out 1).trans rfl; have hfz14_0 := blk_frozen BK536.out 0; have hfz14_1 := blk_frozen BK536.out 1) | ((with_reducible refine gate_callee (f := 59) rfl ?_); refine goesL_ (some 13) rfl rfl Try.func59 (by kernel_rfl) rfl #[.agg #[.slice A0_0 l0_0.length c0_0, .slice A0_1 l0_1.length c0_1], .int .i64 2, .int .i64 128] rfl (by (try simp only [List.map_toArray, List.map_cons, List.map_nil]); first | done | rfl | (simp only [List.length_drop, List.length_take]; rfl)) ?_; (with_reducible refine (weirkeeperref04_Read.calls k _ _ l0_0 _ _ l0_1 2 128 t537 t538 _ ?side1 ?side2 ?side3 ?side4 A3.out).mono ?_); (case side1 => repeat (first | exact (Kd.C_below HR0_0.out HB.out) | (with_reducible refine Kd.C_alloc ?_ _) | (with_reducible refine Kd.C_drewN ?_ _) | (with_reducible refine Kd.C_drew ?_))); (case side2 => exact HC0_0.out); (case side3 => repeat (first | exact (Kd.C_below HR0_1.out HB.out) | (with_reducible refine Kd.C_alloc ?_ _) | (with_reducible refine Kd.C_drewN ?_ _) | (with_reducible refine Kd.C_drew ?_))); (case side4 => exact HC0_1.out); rintro e w15 ⟨rfl, hb⟩; refine ⟨_, rfl, ?_⟩; have n0_ := Aside0.mk (blk_below (g := gb536) (o := .cells #[.slice A0_0 l0_0.length c0_0, .slice A0_1 l0_1.length c0_1] 29 (0, 0)) (by (with_reducible repeat (first | refine blk_drewN ?_ _ | refine blk_drew ?_ | refine blk_alloc ?_ _)); exact BK536.out) hb); have n1_ := Aside0.mk (below_step (by repeat (first | (with_reducible first | exact HB.out | apply below_alloc | apply pw_below_drewN | apply below_drew1 | refine below_set ?_ GE536.out) | exact HB.out)) hb); clear BK536; clear HB; have BK536 := n0_; have HB := n1_; clear n0_ n1_; (try clear hb); (try clear hb2); (try clear hk); (try clear hi)))
    go_ret3
    exact ⟨_, by first | rfl | (simp [errW_none, errW_some] <;> rfl) | (simp [*, errW_none, errW_some] <;> rfl), by first | exact Kd.R_nil _ _ _ _ _ | exact Kd.N_nil _ _ _ _ _ | exact Kd.V_nil _ _ _ _ _ | exact Kd.Q_nil _ _ _ _ _ | exact Kd.S_nil _ _ _ _ _, by repeat (first | (with_reducible first | exact HB.out | apply below_alloc | apply pw_below_drewN | apply below_drew1 | refine below_set ?_ GE536.out) | exact HB.out)⟩

end Go.Proofs.Ytpkapldkmleppaa.F
