/- Contracts of Go functions of the seat Ytpkapldkmleppaa: what a call comes to; no condition but those that each theorem names. -/
import Derived.Test.YtpkapldkmleppaaFPre
import Derived.Test.YtpkapldkmleppaaFjournalx0
import Derived.Test.YtpkapldkmleppaaFjournalx1
import Derived.Test.YtpkapldkmleppaaFlaw08awake
import Derived.Test.YtpkapldkmleppaaFref01
namespace Go.Proofs.Ytpkapldkmleppaa.F
open Go.RowKit Go.Proofs.YtpkapldkmleppaaW.PrintWords Go.Proofs.YtpkapldkmleppaaW.PrintLast Go.Proofs.YtpkapldkmleppaaW.PrintMore
attribute [local go_sem] max2_int min2_int max_two min_two max_three min_three max_four min_four   -- for this text's walks alone
set_option linter.unusedVariables false
set_option linter.unusedSimpArgs false

attribute [local go_sem] fieldD25_0 fieldD25_1
/-! ### weirkeeperlaw08_JournalOnce: function 11 -/
mutual
def weirkeeperlaw08_JournalOnce.l0 : Nat → Int → List ByteArray → List ByteArray → Int → Int → Option (Bool)
  | 0, _, _, _, _, _ => none
  | k + 1, x0, x1, x18, x19, x20 => if x20 < x19 then (if 0 ≤ x20 then (if x20 < (x18.length : Int) then (if ((rdOf ByteArray.empty x18 x20).size : Int) > 40 then ((weirkeeperlaw08_awake.f k).bind fun t498 => (some t498)) else (weirkeeperlaw08_JournalOnce.l0 k x0 x1 x18 x19 (wrap64 (x20 + 1)))) else (none)) else (none)) else ((journal_Parse.f k x0 x1).bind fun bt499 => (if bt499.2 < 0 then (weirkeeperlaw08_JournalOnce.j1 k x0 x1 bt499.1 bt499.2 true) else (weirkeeperlaw08_JournalOnce.j1 k x0 x1 bt499.1 bt499.2 (decide (bt499.2 > (x1.length : Int))))))
def weirkeeperlaw08_JournalOnce.j1 : Nat → Int → List ByteArray → List ByteArray → Int → Bool → Option (Bool)
  | 0, _, _, _, _, _ => none
  | k + 1, x0, x1, x7, x8, x42 => if x42 = true then (some false) else (weirkeeperlaw08_JournalOnce.l1 k x0 x1 x8 ([] : List ByteArray) x7 (x7.length : Int) 0)
def weirkeeperlaw08_JournalOnce.l1 : Nat → Int → List ByteArray → Int → List ByteArray → List ByteArray → Int → Int → Option (Bool)
  | 0, _, _, _, _, _, _, _ => none
  | k + 1, x0, x1, x8, x9, x43, x44, x45 => if x45 < x44 then (if 0 ≤ x45 then (if x45 < (x43.length : Int) then ((journal_Pieces.f k x0 (x9.length : Int) (rdOf ByteArray.empty x43 x45)).bind fun bt507 => (if bt507.2 = 0 then ((journal_Need.f ((rdOf ByteArray.empty x43 x45).size : Int)).bind fun t511 => (if (bt507.1.length : Int) = t511 then (if x9.length + bt507.1.length < 8796093022208 then (weirkeeperlaw08_JournalOnce.l1 k x0 x1 x8 (x9 ++ bt507.1) x43 x44 (wrap64 (x45 + 1))) else (none)) else (some false))) else (some false))) else (none)) else (none)) else (if 0 ≤ x8 then (if x8 ≤ (x1.length : Int) then ((weirkeeperref01_Same.f k x9 (x1.take (x8 : Int).toNat)).bind fun t504 => (if t504 = true then ((weirkeeperlaw08_awake.f k).bind fun t505 => (some t505)) else (some false))) else (none)) else (none))
end
def weirkeeperlaw08_JournalOnce.f (k : Nat) (a0 : Int) (l1 : List ByteArray) : Option (Bool) := if (l1.length : Int) > 40 then ((weirkeeperlaw08_awake.f k).bind fun t496 => (some t496)) else (weirkeeperlaw08_JournalOnce.l0 k a0 l1 l1 (l1.length : Int) 0)
theorem weirkeeperlaw08_JournalOnce.mono_l : ∀ k, (∀ y0 y1 y2 y3 y4, LeO (weirkeeperlaw08_JournalOnce.l0 k y0 y1 y2 y3 y4) (weirkeeperlaw08_JournalOnce.l0 (k + 1) y0 y1 y2 y3 y4)) ∧ (∀ y0 y1 y2 y3 y4, LeO (weirkeeperlaw08_JournalOnce.j1 k y0 y1 y2 y3 y4) (weirkeeperlaw08_JournalOnce.j1 (k + 1) y0 y1 y2 y3 y4)) ∧ (∀ y0 y1 y2 y3 y4 y5 y6, LeO (weirkeeperlaw08_JournalOnce.l1 k y0 y1 y2 y3 y4 y5 y6) (weirkeeperlaw08_JournalOnce.l1 (k + 1) y0 y1 y2 y3 y4 y5 y6))
  | 0 => ⟨fun _ _ _ _ _ r h => by simp [weirkeeperlaw08_JournalOnce.l0] at h, fun _ _ _ _ _ r h => by simp [weirkeeperlaw08_JournalOnce.j1] at h, fun _ _ _ _ _ _ _ r h => by simp [weirkeeperlaw08_JournalOnce.l1] at h⟩
  | k + 1 => by
    obtain ⟨ih0, ih1, ih2⟩ := weirkeeperlaw08_JournalOnce.mono_l k
    refine ⟨?_, ?_, ?_⟩
    · intro y0 y1 y2 y3 y4
      unfold weirkeeperlaw08_JournalOnce.l0
      repeat' first
      | (with_reducible exact ih0 _ _ _ _ _)
      | (with_reducible exact ih1 _ _ _ _ _)
      | (with_reducible exact ih2 _ _ _ _ _ _ _)
      | (with_reducible exact journal_Parse.mono _ _ _)
      | (with_reducible exact journal_Pieces.mono _ _ _ _)
      | (with_reducible exact weirkeeperlaw08_awake.mono _)
      | (with_reducible exact weirkeeperref01_Same.mono _ _ _)
      | (with_reducible exact LeO.refl _)
      | (with_reducible exact LeO.none _)
      | (with_reducible refine LeO.ite ?_ ?_)
      | (with_reducible refine LeO.bind ?_ (fun _ => ?_))
      | exact ih0 _ _ _ _ _
      | exact ih1 _ _ _ _ _
      | exact ih2 _ _ _ _ _ _ _
      | exact journal_Parse.mono _ _ _
      | exact journal_Pieces.mono _ _ _ _
      | exact weirkeeperlaw08_awake.mono _
      | exact weirkeeperref01_Same.mono _ _ _
      | exact LeO.none _
      | refine LeO.ite ?_ ?_
      | refine LeO.bind ?_ (fun _ => ?_)
    · intro y0 y1 y2 y3 y4
      unfold weirkeeperlaw08_JournalOnce.j1
      repeat' first
      | (with_reducible exact ih0 _ _ _ _ _)
      | (with_reducible exact ih1 _ _ _ _ _)
      | (with_reducible exact ih2 _ _ _ _ _ _ _)
      | (with_reducible exact journal_Parse.mono _ _ _)
      | (with_reducible exact journal_Pieces.mono _ _ _ _)
      | (with_reducible exact weirkeeperlaw08_awake.mono _)
      | (with_reducible exact weirkeeperref01_Same.mono _ _ _)
      | (with_reducible exact LeO.refl _)
      | (with_reducible exact LeO.none _)
      | (with_reducible refine LeO.ite ?_ ?_)
      | (with_reducible refine LeO.bind ?_ (fun _ => ?_))
      | exact ih0 _ _ _ _ _
      | exact ih1 _ _ _ _ _
      | exact ih2 _ _ _ _ _ _ _
      | exact journal_Parse.mono _ _ _
      | exact journal_Pieces.mono _ _ _ _
      | exact weirkeeperlaw08_awake.mono _
      | exact weirkeeperref01_Same.mono _ _ _
      | exact LeO.none _
      | refine LeO.ite ?_ ?_
      | refine LeO.bind ?_ (fun _ => ?_)
    · intro y0 y1 y2 y3 y4 y5 y6
      unfold weirkeeperlaw08_JournalOnce.l1
      repeat' first
      | (with_reducible exact ih0 _ _ _ _ _)
      | (with_reducible exact ih1 _ _ _ _ _)
      | (with_reducible exact ih2 _ _ _ _ _ _ _)
      | (with_reducible exact journal_Parse.mono _ _ _)
      | (with_reducible exact journal_Pieces.mono _ _ _ _)
      | (with_reducible exact weirkeeperlaw08_awake.mono _)
      | (with_reducible exact weirkeeperref01_Same.mono _ _ _)
      | (with_reducible exact LeO.refl _)
      | (with_reducible exact LeO.none _)
      | (with_reducible refine LeO.ite ?_ ?_)
      | (with_reducible refine LeO.bind ?_ (fun _ => ?_))
      | exact ih0 _ _ _ _ _
      | exact ih1 _ _ _ _ _
      | exact ih2 _ _ _ _ _ _ _
      | exact journal_Parse.mono _ _ _
      | exact journal_Pieces.mono _ _ _ _
      | exact weirkeeperlaw08_awake.mono _
      | exact weirkeeperref01_Same.mono _ _ _
      | exact LeO.none _
      | refine LeO.ite ?_ ?_
      | refine LeO.bind ?_ (fun _ => ?_)
theorem weirkeeperlaw08_JournalOnce.mono : ∀ a0 a1 k, LeO (weirkeeperlaw08_JournalOnce.f k a0 a1) (weirkeeperlaw08_JournalOnce.f (k + 1) a0 a1) := by
  intro a0 a1 k
  obtain ⟨ih0, ih1, ih2⟩ := weirkeeperlaw08_JournalOnce.mono_l k
  unfold weirkeeperlaw08_JournalOnce.f
  repeat' first
      | (with_reducible exact ih0 _ _ _ _ _)
      | (with_reducible exact ih1 _ _ _ _ _)
      | (with_reducible exact ih2 _ _ _ _ _ _ _)
      | (with_reducible exact journal_Parse.mono _ _ _)
      | (with_reducible exact journal_Pieces.mono _ _ _ _)
      | (with_reducible exact weirkeeperlaw08_awake.mono _)
      | (with_reducible exact weirkeeperref01_Same.mono _ _ _)
      | (with_reducible exact LeO.refl _)
      | (with_reducible exact LeO.none _)
      | (with_reducible refine LeO.ite ?_ ?_)
      | (with_reducible refine LeO.bind ?_ (fun _ => ?_))
      | exact ih0 _ _ _ _ _
      | exact ih1 _ _ _ _ _
      | exact ih2 _ _ _ _ _ _ _
      | exact journal_Parse.mono _ _ _
      | exact journal_Pieces.mono _ _ _ _
      | exact weirkeeperlaw08_awake.mono _
      | exact weirkeeperref01_Same.mono _ _ _
      | exact LeO.none _
      | refine LeO.ite ?_ ?_
      | refine LeO.bind ?_ (fun _ => ?_)
set_option maxHeartbeats 8000000 in
set_option maxRecDepth 100000 in
theorem weirkeeperlaw08_JournalOnce.calls (k : Nat) (a0 : Int) (A1 : Option Addr) (c1 : Nat) (l1 : List ByteArray) (w : World) (hr1 : Kd.C Kd.string w A1 l1.length l1) (hc1 : l1.length ≤ c1) (h : weirkeeperlaw08_JournalOnce.f k a0 l1 = some true) :
    Calls Try.prog 11 #[.int .i64 a0, .slice A1 l1.length c1] w fun e w' => e = .returned (.bool true) ∧ Below w.heap.size w w' := by
  have HR1 := Aside0.mk hr1
  have HC1 := Aside0.mk hc1
  clear hr1 hc1
  have HB := Aside0.mk (Below.refl w.heap.size w)
  have H : (if (l1.length : Int) > 40 then ((weirkeeperlaw08_awake.f k).bind fun t496 => (some t496)) else (weirkeeperlaw08_JournalOnce.l0 k a0 l1 l1 (l1.length : Int) 0)) = some true := h
  clear h
  by_cases c3 : (l1.length : Int) > 40
  · rw [if_pos c3] at H
    have c3b0 : decide (40 < (l1.length : Int)) = true := decide_eq_true c3
    have c3b1 : decide (40 < l1.length) = true := decide_eq_true (by omega)
    clear c3
    replace H := Option.bind_eq_some_iff.mp H
    obtain ⟨t496, A40, H⟩ := H
    replace H : (some t496) = some true := H
    have A4 := Aside0.mk A40
    clear A40
    (have H9_ := Option.some.inj H; first | subst H9_ | (have h9_ := Aside0.mk H9_; clear H9_))
    go_enter Try.func11, Try.ntmps11
    go_wp2_with (first | ((with_reducible refine gate_callee (f := 27) rfl ?_); refine goesL_ (some 17) rfl rfl Try.func27 (by kernel_rfl) rfl #[] rfl (by (try simp only [List.map_toArray, List.map_cons, List.map_nil]); first | done | rfl | (simp only [List.length_drop, List.length_take]; rfl)) ?_; (with_reducible refine (weirkeeperlaw08_awake.calls k _ A4.out).mono ?_); rintro e w5 ⟨rfl, hb⟩; refine ⟨_, rfl, ?_⟩; have n0_ := Aside0.mk (below_step (by repeat (first | (with_reducible first | exact HB.out | apply below_alloc | apply pw_below_drewN | apply below_drew1) | exact HB.out)) hb); clear HB; have HB := n0_; clear n0_; (try clear hb); (try clear hb2); (try clear hk); (try clear hi)))
    go_ret
    exact ⟨by first | rfl | (simp only [h9_.out]; done) | (have h8_ := h9_.out; simp [h8_]; done) | (simp [errW_none, errW_some] <;> rfl) | (simp [*, errW_none, errW_some] <;> rfl), by repeat (first | (with_reducible first | exact HB.out | apply below_alloc | apply pw_below_drewN | apply below_drew1) | exact HB.out)⟩
  · rw [if_neg c3] at H
    have c3b0 : decide (40 < (l1.length : Int)) = false := decide_eq_false c3
    have c3b1 : decide (40 < l1.length) = false := decide_eq_false (by omega)
    clear c3
    have H' := Aside0.mk H
    clear H
    go_enter Try.func11, Try.ntmps11
    go_wp2
    go_loopg [20] k (fun kq v20 w' => ∃ (x20_1 : Int), v20 = .int .i64 x20_1 ∧ Aside0 (weirkeeperlaw08_JournalOnce.l0 kq a0 l1 l1 (l1.length : Int) x20_1 = some true) ∧ Aside0 (kq ≤ k) ∧ Aside0 (Below w.heap.size w w'))
    case atStart => exact ⟨(0), (by first | rfl | (simp; done) | (simp [*]; done)), H', ⟨Nat.le_refl _⟩, ⟨by repeat (first | (with_reducible first | exact HB.out | apply below_alloc | apply pw_below_drewN | apply below_drew1) | exact HB.out)⟩⟩
    case round =>
      clear H'
      try clear c1
      try clear c2
      try clear p2
      try clear c3
      try clear c3b0
      try clear c3b1
      obtain ⟨x20_1, rfl, HA, HK1, HB⟩ := hrel
      cases gk with
      | zero => exact absurd HA.out (by simp [weirkeeperlaw08_JournalOnce.l0])
      | succ k1 =>
        have H := HA.out
        clear HA
        simp only [weirkeeperlaw08_JournalOnce.l0] at H
        by_cases c6 : x20_1 < (l1.length : Int)
        · rw [if_pos c6] at H
          have c6b0 : decide (x20_1 < (l1.length : Int)) = true := decide_eq_true c6
          clear c6
          by_cases c7 : 0 ≤ x20_1
          · rw [if_pos c7] at H
            have c7b0 : decide (0 ≤ x20_1) = true := decide_eq_true c7
            clear c7
            by_cases c8 : x20_1 < (l1.length : Int)
            · rw [if_pos c8] at H
              have c8b0 : decide (x20_1 < (l1.length : Int)) = true := decide_eq_true c8
              clear c8
              by_cases c9 : ((rdOf ByteArray.empty l1 x20_1).size : Int) > 40
              · rw [if_pos c9] at H
                have c9b0 : decide (40 < ((rdOf ByteArray.empty l1 x20_1).size : Int)) = true := decide_eq_true c9
                have c9b1 : decide (40 < (rdOf ByteArray.empty l1 x20_1).size) = true := decide_eq_true (by omega)
                clear c9
                replace H := Option.bind_eq_some_iff.mp H
                obtain ⟨t498, A100, H⟩ := H
                replace H : (some t498) = some true := H
                have A10 := Aside0.mk A100
                clear A100
                (have H9_ := Option.some.inj H; first | subst H9_ | (have h9_ := Aside0.mk H9_; clear H9_))
                have p497 : 0 ≤ (x20_1 : Int) := of_decide_eq_true (by first | (with_reducible assumption) | assumption)
                have q497 : x20_1 < (l1.length : Int) := of_decide_eq_true (by first | (with_reducible assumption) | assumption)
                obtain ⟨ad497, e497, hx497_0⟩ := Kd.at_string HR1.out x20_1 p497 q497
                cases e497
                replace hx497_0 := (HB.out.cell (World.block_lt_of_cell? w _ hx497_0)).trans hx497_0
                replace p497 := eq_true p497
                replace q497 := eq_true q497
                go_wp2_with (first | ((with_reducible refine gate_callee (f := 27) rfl ?_); refine goesL_ (some 27) rfl rfl Try.func27 (by kernel_rfl) rfl #[] rfl (by (try simp only [List.map_toArray, List.map_cons, List.map_nil]); first | done | rfl | (simp only [List.length_drop, List.length_take]; rfl)) ?_; (with_reducible refine (weirkeeperlaw08_awake.calls k1 _ A10.out).mono ?_); rintro e w11 ⟨rfl, hb⟩; refine ⟨_, rfl, ?_⟩; have n0_ := Aside0.mk (below_step (by repeat (first | (with_reducible first | exact HB.out | apply below_alloc | apply pw_below_drewN | apply below_drew1) | exact HB.out)) hb); clear HB; have HB := n0_; clear n0_; (try clear hb); (try clear hb2); (try clear hk); (try clear hi)))
                go_ret
                exact ⟨by first | rfl | (simp only [h9_.out]; done) | (have h8_ := h9_.out; simp [h8_]; done) | (simp [errW_none, errW_some] <;> rfl) | (simp [*, errW_none, errW_some] <;> rfl), by repeat (first | (with_reducible first | exact HB.out | apply below_alloc | apply pw_below_drewN | apply below_drew1) | exact HB.out)⟩
              · rw [if_neg c9] at H
                have c9b0 : decide (40 < ((rdOf ByteArray.empty l1 x20_1).size : Int)) = false := decide_eq_false c9
                have c9b1 : decide (40 < (rdOf ByteArray.empty l1 x20_1).size) = false := decide_eq_false (by omega)
                clear c9
                have H' := Aside0.mk H
                clear H
                have p497 : 0 ≤ (x20_1 : Int) := of_decide_eq_true (by first | (with_reducible assumption) | assumption)
                have q497 : x20_1 < (l1.length : Int) := of_decide_eq_true (by first | (with_reducible assumption) | assumption)
                obtain ⟨ad497, e497, hx497_0⟩ := Kd.at_string HR1.out x20_1 p497 q497
                cases e497
                replace hx497_0 := (HB.out.cell (World.block_lt_of_cell? w _ hx497_0)).trans hx497_0
                replace p497 := eq_true p497
                replace q497 := eq_true q497
                go_wp2
                go_roundg k1
                case measure => have := HK1.out; omega
                case rel => exact ⟨(wrap64 (x20_1 + 1)), (by first | rfl | (simp; done) | (simp [*]; done)), H', ⟨by have := HK1.out; omega⟩, ⟨by repeat (first | (with_reducible first | exact HB.out | apply below_alloc | apply pw_below_drewN | apply below_drew1) | exact HB.out)⟩⟩
            · rw [if_neg c8] at H
              exact absurd H (by simp)
          · rw [if_neg c7] at H
            exact absurd H (by simp)
        · rw [if_neg c6] at H
          have c6b0 : decide (x20_1 < (l1.length : Int)) = false := decide_eq_false c6
          clear c6
          replace H := Option.bind_eq_some_iff.mp H
          obtain ⟨⟨t499, t500⟩, A120, H⟩ := H
          replace H : (if t500 < 0 then (weirkeeperlaw08_JournalOnce.j1 k1 a0 l1 t499 t500 true) else (weirkeeperlaw08_JournalOnce.j1 k1 a0 l1 t499 t500 (decide (t500 > (l1.length : Int))))) = some true := H
          have A12 := Aside0.mk A120
          clear A120
          have HC13 := Aside0.mk H
          clear H
          go_upto_region 10 with (first | ((with_reducible refine gate_callee (f := 30) rfl ?_); refine goesL_ (some 32) rfl rfl Try.func30 (by kernel_rfl) rfl #[.int .i64 a0, .slice A1 l1.length c1] rfl (by (try simp only [List.map_toArray, List.map_cons, List.map_nil]); first | done | rfl | (simp only [List.length_drop, List.length_take]; rfl)) ?_; (with_reducible refine (journal_Parse.calls k1 a0 _ _ l1 t499 t500 _ ?side1 ?side2 A12.out).mono ?_); (case side1 => repeat (first | exact (Kd.C_below HR1.out HB.out) | (with_reducible refine Kd.C_alloc ?_ _) | (with_reducible refine Kd.C_drewN ?_ _) | (with_reducible refine Kd.C_drew ?_))); (case side2 => exact HC1.out); rintro e w14 ⟨v501, rfl, ho0, hb⟩; refine ⟨_, rfl, ?_⟩; have n0_ := Aside0.mk (Kd.R_lower ho0 (below_size (by repeat (first | (with_reducible first | exact HB.out | apply below_alloc | apply pw_below_drewN | apply below_drew1) | exact HB.out)))); have n1_ := Aside0.mk (below_step (by repeat (first | (with_reducible first | exact HB.out | apply below_alloc | apply pw_below_drewN | apply below_drew1) | exact HB.out)) hb); clear HB; have HO502 := n0_; have HB := n1_; clear n0_ n1_; (try clear hb); (try clear hb2); (try clear hk); (try clear hi); (try clear ho0)))
          (try simp only [Act.put, List.setIfInBounds_toArray, List.set_cons_zero, List.set_cons_succ])
          go_cut [42] (fun v42 wc => ∃ (kq : Nat) (x42_12 : Bool), v42 = .bool x42_12 ∧ Aside0 (weirkeeperlaw08_JournalOnce.j1 kq a0 l1 t499 t500 x42_12 = some true) ∧ Aside0 (kq ≤ k1) ∧ Aside0 (Kd.R Kd.string 9 wc w.heap.size (fun _ => True) v501 t499) ∧ Aside0 (Below w.heap.size w wc))
          case first =>
            have H := HC13.out
            clear HC13
            by_cases c15 : t500 < 0
            · rw [if_pos c15] at H
              have c15b0 : decide (t500 < 0) = true := decide_eq_true c15
              clear c15
              (first | rw [c15b0] | (simp only [i64_w, i32_w]; rw [c15b0]) | skip)
              have H' := Aside0.mk H
              clear H
              go_wp2
              go_meet
              case rel => exact ⟨_, (true), (by first | rfl | (simp; done) | (simp [*]; done)), H', ⟨by have := HK1.out; first | omega | exact Nat.le_refl _⟩, ⟨by (with_reducible repeat (first | apply Kd.R_alloc | apply Kd.R_drewN | apply Kd.R_drew)); exact HO502.out⟩, ⟨by repeat (first | (with_reducible first | exact HB.out | apply below_alloc | apply pw_below_drewN | apply below_drew1) | exact HB.out)⟩⟩
            · rw [if_neg c15] at H
              have c15b0 : decide (t500 < 0) = false := decide_eq_false c15
              clear c15
              (first | rw [c15b0] | (simp only [i64_w, i32_w]; rw [c15b0]) | skip)
              have H' := Aside0.mk H
              clear H
              go_wp2
              go_meet
              case rel => exact ⟨_, (decide (t500 > (l1.length : Int))), (by first | rfl | (simp; done) | (simp [*]; done)), H', ⟨by have := HK1.out; first | omega | exact Nat.le_refl _⟩, ⟨by (with_reducible repeat (first | apply Kd.R_alloc | apply Kd.R_drewN | apply Kd.R_drew)); exact HO502.out⟩, ⟨by repeat (first | (with_reducible first | exact HB.out | apply below_alloc | apply pw_below_drewN | apply below_drew1) | exact HB.out)⟩⟩
          case rest =>
            clear HC13
            try clear c1
            try clear c2
            try clear p2
            try clear c3
            try clear c3b0
            try clear c3b1
            try clear p4
            try clear q4
            try clear hx4
            try clear c6
            try clear c6b0
            try clear p6
            try clear c7
            try clear c7b0
            try clear c8
            try clear c8b0
            try clear c9
            try clear c9b0
            try clear c9b1
            try clear c11
            try clear c15
            try clear c15b0
            try clear hx497_0
            try clear p2
            try clear p497
            try clear q497
            obtain ⟨kq, x42_12, rfl, HA, HJ12, HO_7, HB⟩ := hcut
            cases kq with
            | zero => exact absurd HA.out (by simp [weirkeeperlaw08_JournalOnce.j1])
            | succ kj12 =>
              have H := HA.out
              clear HA
              simp only [weirkeeperlaw08_JournalOnce.j1] at H
              by_cases c16 : x42_12 = true
              · subst c16
                have H1 : (some false) = some true := by rw [if_pos rfl] at H; exact H
                clear H
                have H := H1
                clear H1
                exact absurd H (by simp)
              · replace c16 := Bool.eq_false_iff.mpr c16
                subst c16
                have H1 : (weirkeeperlaw08_JournalOnce.l1 kj12 a0 l1 t500 ([] : List ByteArray) t499 (t499.length : Int) 0) = some true := by rw [if_neg (show ¬ (false = true) by decide)] at H; exact H
                clear H
                have H := H1
                clear H1
                have H' := Aside0.mk H
                clear H
                obtain ⟨Ao17, co17, eo17⟩ := Kd.R_slice HO_7.out
                subst eo17
                go_wp2
                go_loopg [9, 45] kj12 (fun kq v9 v45 w' => ∃ (x9_3 : List ByteArray) (x45_3 : Int), v45 = .int .i64 x45_3 ∧ Aside0 (weirkeeperlaw08_JournalOnce.l1 kq a0 l1 t500 x9_3 t499 (t499.length : Int) x45_3 = some true) ∧ Aside0 (kq ≤ kj12) ∧ Aside0 (Kd.R Kd.string 9 w' w.heap.size (fun k_ => some k_ ≠ ((.slice Ao17 t499.length co17) : Value).ownBlock) v9 x9_3) ∧ Aside0 (Kd.R Kd.string 9 w' w.heap.size (fun k_ => some k_ ≠ (v9 : Value).ownBlock) (.slice Ao17 t499.length co17) t499) ∧ Aside0 (Below w.heap.size w w'))
                case atStart => exact ⟨(([] : List ByteArray)), (0), (by first | rfl | (simp; done) | (simp [*]; done)), H', ⟨Nat.le_refl _⟩, ⟨by first | exact Kd.R_nil _ _ _ _ _ | exact Kd.N_nil _ _ _ _ _ | exact Kd.V_nil _ _ _ _ _ | exact Kd.Q_nil _ _ _ _ _ | exact Kd.S_nil _ _ _ _ _⟩, ⟨by (with_reducible repeat (first | apply Kd.R_alloc | apply Kd.R_drewN | apply Kd.R_drew)); exact Kd.R_mono HO_7.out (fun _ hk => (by simp [Value.ownBlock]))⟩, ⟨by repeat (first | (with_reducible first | exact HB.out | apply below_alloc | apply pw_below_drewN | apply below_drew1) | exact HB.out)⟩⟩
                case round =>
                  clear H'
                  try clear c1
                  try clear c2
                  try clear p2
                  try clear c3
                  try clear c3b0
                  try clear c3b1
                  try clear p4
                  try clear q4
                  try clear hx4
                  try clear c6
                  try clear c6b0
                  try clear p6
                  try clear c7
                  try clear c7b0
                  try clear c8
                  try clear c8b0
                  try clear c9
                  try clear c9b0
                  try clear c9b1
                  try clear c11
                  try clear c15
                  try clear c15b0
                  try clear c16
                  try clear hx497_0
                  try clear p2
                  try clear p4
                  try clear p497
                  try clear p6
                  try clear q4
                  try clear q497
                  obtain ⟨x9_3, x45_3, rfl, HA, HK3, HO_9, HO_43, HB⟩ := hrel
                  cases gk with
                  | zero => exact absurd HA.out (by simp [weirkeeperlaw08_JournalOnce.l1])
                  | succ k3 =>
                    have H := HA.out
                    clear HA
                    simp only [weirkeeperlaw08_JournalOnce.l1] at H
                    by_cases c18 : x45_3 < (t499.length : Int)
                    · rw [if_pos c18] at H
                      have c18b0 : decide (x45_3 < (t499.length : Int)) = true := decide_eq_true c18
                      clear c18
                      by_cases c19 : 0 ≤ x45_3
                      · rw [if_pos c19] at H
                        have c19b0 : decide (0 ≤ x45_3) = true := decide_eq_true c19
                        clear c19
                        by_cases c20 : x45_3 < (t499.length : Int)
                        · rw [if_pos c20] at H
                          have c20b0 : decide (x45_3 < (t499.length : Int)) = true := decide_eq_true c20
                          clear c20
                          replace H := Option.bind_eq_some_iff.mp H
                          obtain ⟨⟨t507, t508⟩, A210, H⟩ := H
                          replace H : (if t508 = 0 then ((journal_Need.f ((rdOf ByteArray.empty t499 x45_3).size : Int)).bind fun t511 => (if (t507.length : Int) = t511 then (if x9_3.length + t507.length < 8796093022208 then (weirkeeperlaw08_JournalOnce.l1 k3 a0 l1 t500 (x9_3 ++ t507) t499 (t499.length : Int) (wrap64 (x45_3 + 1))) else (none)) else (some false))) else (some false)) = some true := H
                          have A21 := Aside0.mk A210
                          clear A210
                          by_cases c22 : t508 = 0
                          · rw [if_pos c22] at H
                            have c22b0 : (t508 == 0) = true := beq_iff_eq.mpr c22
                            have c22b1 : (t508 != 0) = false := bne_eq_false_iff_eq.mpr c22
                            clear c22
                            replace H := Option.bind_eq_some_iff.mp H
                            obtain ⟨t511, A230, H⟩ := H
                            replace H : (if (t507.length : Int) = t511 then (if x9_3.length + t507.length < 8796093022208 then (weirkeeperlaw08_JournalOnce.l1 k3 a0 l1 t500 (x9_3 ++ t507) t499 (t499.length : Int) (wrap64 (x45_3 + 1))) else (none)) else (some false)) = some true := H
                            have A23 := Aside0.mk A230
                            clear A230
                            by_cases c24 : (t507.length : Int) = t511
                            · rw [if_pos c24] at H
                              have c24b0 : ((t507.length : Int) == t511) = true := beq_iff_eq.mpr c24
                              have c24b1 : ((t507.length : Int) != t511) = false := bne_eq_false_iff_eq.mpr c24
                              clear c24
                              by_cases c25 : x9_3.length + t507.length < 8796093022208
                              · rw [if_pos c25] at H
                                have LMc25 := Aside0.mk c25
                                clear c25
                                obtain ⟨y512, hy512⟩ : ∃ y_ : List ByteArray, y_ = (x9_3 ++ t507) := ⟨_, rfl⟩
                                replace H : (weirkeeperlaw08_JournalOnce.l1 k3 a0 l1 t500 y512 t499 (t499.length : Int) (wrap64 (x45_3 + 1))) = some true := by first | (rw [hy512]; with_reducible exact H) | (have H2_ := (Option.bind_some _ _).symm.trans H; rw [hy512]; with_reducible exact H2_) | (have H2_ := (Option.bind_some _ _).symm.trans H; with_reducible exact H2_) | with_reducible exact H | (rw [hy512]; exact H) | exact H
                                have Ny512 := Aside0.mk hy512
                                clear hy512
                                have H' := Aside0.mk H
                                clear H
                                have p506 : 0 ≤ (x45_3 : Int) := of_decide_eq_true (by first | (with_reducible assumption) | assumption)
                                have q506 : x45_3 < (t499.length : Int) := of_decide_eq_true (by first | (with_reducible assumption) | assumption)
                                obtain ⟨ad506, e506, hx506_0⟩ := Kd.at_string (Kd.R_reads' HO_43.out).2.2 x45_3 p506 q506
                                cases e506
                                replace p506 := eq_true p506
                                replace q506 := eq_true q506
                                obtain ⟨Ao26, co26, eo26⟩ := Kd.R_slice HO_9.out
                                subst eo26
                                go_wp2_with (first | ((with_reducible refine gate_callee (f := 28) rfl ?_); refine goesL_ (some 54) rfl rfl Try.func28 (by kernel_rfl) rfl #[.int .i64 a0, .int .i64 (x9_3.length : Int), .string (rdOf ByteArray.empty t499 x45_3)] rfl (by (try simp only [List.map_toArray, List.map_cons, List.map_nil]); first | done | rfl | (simp only [List.length_drop, List.length_take]; rfl)) ?_; (with_reducible refine (journal_Pieces.calls k3 a0 (x9_3.length : Int) (rdOf ByteArray.empty t499 x45_3) t507 t508 _ A21.out).mono ?_); rintro e w27 ⟨v509, rfl, ho0, hb⟩; refine ⟨_, rfl, ?_⟩; have n0_ := Aside0.mk (Kd.R_elder' (by (with_reducible repeat (first | apply Kd.R_alloc | apply Kd.R_drewN | apply Kd.R_drew)); exact HO_9.out) (Kd.R_base ho0) hb); have n1_ := Aside0.mk (Kd.R_elder' (by (with_reducible repeat (first | apply Kd.R_alloc | apply Kd.R_drewN | apply Kd.R_drew)); exact HO_43.out) (Kd.R_base ho0) hb); have n2_ := Aside0.mk (Kd.R_lower (Kd.R_new' (Kd.R_new' ho0 (Kd.R_lt (by (with_reducible repeat (first | apply Kd.R_alloc | apply Kd.R_drewN | apply Kd.R_drew)); exact HO_9.out))) (Kd.R_lt (by (with_reducible repeat (first | apply Kd.R_alloc | apply Kd.R_drewN | apply Kd.R_drew)); exact HO_43.out))) (below_size (by repeat (first | (with_reducible first | exact HB.out | apply below_alloc | apply pw_below_drewN | apply below_drew1) | exact HB.out)))); have n3_ := Aside0.mk (below_step (by repeat (first | (with_reducible first | exact HB.out | apply below_alloc | apply pw_below_drewN | apply below_drew1) | exact HB.out)) hb); clear HO_9; clear HO_43; clear HB; have HO_9 := n0_; have HO_43 := n1_; have HO510 := n2_; have HB := n3_; clear n0_ n1_ n2_ n3_; (try clear hb); (try clear hb2); (try clear hk); (try clear hi); (try clear ho0); obtain ⟨Ao28, co28, eo28⟩ := Kd.R_slice HO510.out; subst eo28) | (go_at_call 33; (with_reducible refine (journal_Need.calls ((rdOf ByteArray.empty t499 x45_3).size : Int) t511 _ A23.out).mono ?_); rintro e w29 ⟨rfl, hb⟩; have n0_ := Aside0.mk (Kd.R_below (by (with_reducible repeat (first | apply Kd.R_alloc | apply Kd.R_drewN | apply Kd.R_drew)); exact HO_9.out) hb); have n1_ := Aside0.mk (Kd.R_below (by (with_reducible repeat (first | apply Kd.R_alloc | apply Kd.R_drewN | apply Kd.R_drew)); exact HO_43.out) hb); have n2_ := Aside0.mk (Kd.R_below (by (with_reducible repeat (first | apply Kd.R_alloc | apply Kd.R_drewN | apply Kd.R_drew)); exact HO510.out) hb); have n3_ := Aside0.mk (below_step (by repeat (first | (with_reducible first | exact HB.out | apply below_alloc | apply pw_below_drewN | apply below_drew1) | exact HB.out)) hb); clear HO_9; clear HO_43; clear HO510; clear HB; have HO_9 := n0_; have HO_43 := n1_; have HO510 := n2_; have HB := n3_; clear n0_ n1_ n2_ n3_; (try clear hb); (try clear hb2); (try clear hk); (try clear hi)) | ((with_reducible refine gate_builtin (b := .append) (xs := #[.tmp 67, .tmp 68]) rfl ?_); (try (refine gate_guard (by rfl) ?_; dsimp only)); at_builtin; refine Kd.R_append_rows Kd.string (w0 := w) w.heap.size rfl (.tmp 67) (.tmp 68) 22 9 (.string ⟨#[]⟩) 16 rfl Try.underlying22 info9 rfl (by decide) (by omega) (.slice Ao26 x9_3.length co26) x9_3 t507 _ _ _ (fun k_ => some k_ ≠ (.slice (some ad506) t499.length co17 : Value).ownBlock ∧ some k_ ≠ (.slice Ao28 t507.length co28 : Value).ownBlock) (fun _ => False) rfl rfl ?aO ?aR (fun _ _ h => h) (fun _ h => h.elim) ?aF ?aB ?aS ?aL ?_; (case aR => repeat (first | exact (Kd.R_reads' HO510.out).2.2 | (with_reducible refine Kd.C_alloc ?_ _) | (with_reducible refine Kd.C_drewN ?_ _) | (with_reducible refine Kd.C_drew ?_))); (case aB => exact (by repeat (first | (with_reducible first | exact HB.out | apply below_alloc | apply pw_below_drewN | apply below_drew1) | exact HB.out))); (case aF => exact (fun k_ hk => ⟨Kd.fresh' (Kd.R_lt (by (with_reducible repeat (first | apply Kd.R_alloc | apply Kd.R_drewN | apply Kd.R_drew)); exact HO_43.out)) k_ hk, Kd.fresh' (Kd.R_lt (by (with_reducible repeat (first | apply Kd.R_alloc | apply Kd.R_drewN | apply Kd.R_drew)); exact HO510.out)) k_ hk⟩)); (case aO => exact (by (with_reducible repeat (first | apply Kd.R_alloc | apply Kd.R_drewN | apply Kd.R_drew)); exact HO_9.out)); (case aS => exact (below_size (by repeat (first | (with_reducible first | exact HB.out | apply below_alloc | apply pw_below_drewN | apply below_drew1) | exact HB.out)))); (case aL => have := LMc25.out; omega); intro v513 w30 ho hb hg hat; rw [← Ny512.out] at ho; have n0_ := Aside0.mk (Kd.R_after (ok := (fun k_ => some k_ ≠ (.slice Ao28 t507.length co28 : Value).ownBlock)) (by (with_reducible repeat (first | apply Kd.R_alloc | apply Kd.R_drewN | apply Kd.R_drew)); exact Kd.R_mono HO_43.out (fun _ hk => ⟨hk.2, hk.1⟩)) hg hat); have n1_ := Aside0.mk (Kd.R_after (ok := (fun k_ => some k_ ≠ (.slice (some ad506) t499.length co17 : Value).ownBlock)) (by (with_reducible repeat (first | apply Kd.R_alloc | apply Kd.R_drewN | apply Kd.R_drew)); exact Kd.R_mono HO510.out (fun _ hk => ⟨hk.2, hk.1.2⟩)) hg hat); have n2_ := Aside0.mk (hb); have n3_ := Aside0.mk (ho); clear HO_43; clear HO510; clear HB; clear HO_9; have HO_43 := n0_; have HO510 := n1_; have HB := n2_; have HO514 := n3_; clear n0_ n1_ n2_ n3_; clear ho hb hg hat))
                                go_roundg k3
                                case measure => have := HK1.out; have := HJ12.out; have := HK3.out; omega
                                case rel => exact ⟨(y512), (wrap64 (x45_3 + 1)), (by first | rfl | (simp; done) | (simp [*]; done)), H', ⟨by have := HK1.out; have := HJ12.out; have := HK3.out; omega⟩, ⟨by (with_reducible repeat (first | apply Kd.R_alloc | apply Kd.R_drewN | apply Kd.R_drew)); exact Kd.R_mono HO514.out (fun _ hk => hk.1)⟩, ⟨by (with_reducible repeat (first | apply Kd.R_alloc | apply Kd.R_drewN | apply Kd.R_drew)); exact Kd.R_mono HO_43.out (fun _ hk => hk.2)⟩, ⟨by repeat (first | (with_reducible first | exact HB.out | apply below_alloc | apply pw_below_drewN | apply below_drew1) | exact HB.out)⟩⟩
                              · rw [if_neg c25] at H
                                exact absurd H (by simp)
                            · rw [if_neg c24] at H
                              have c24b0 : ((t507.length : Int) == t511) = false := beq_eq_false_iff_ne.mpr c24
                              have c24b1 : ((t507.length : Int) != t511) = true := bne_iff_ne.mpr c24
                              exact absurd H (by simp)
                          · rw [if_neg c22] at H
                            have c22b0 : (t508 == 0) = false := beq_eq_false_iff_ne.mpr c22
                            have c22b1 : (t508 != 0) = true := bne_iff_ne.mpr c22
                            exact absurd H (by simp)
                        · rw [if_neg c20] at H
                          exact absurd H (by simp)
                      · rw [if_neg c19] at H
                        exact absurd H (by simp)
                    · rw [if_neg c18] at H
                      have c18b0 : decide (x45_3 < (t499.length : Int)) = false := decide_eq_false c18
                      clear c18
                      by_cases c31 : 0 ≤ t500
                      · rw [if_pos c31] at H
                        have c31b0 := eq_true c31
                        have c31b1 : decide (0 ≤ t500) = true := decide_eq_true c31
                        clear c31
                        by_cases c32 : t500 ≤ (l1.length : Int)
                        · rw [if_pos c32] at H
                          have c32b0 := eq_true c32
                          have c32b1 : decide (t500 ≤ (l1.length : Int)) = true := decide_eq_true c32
                          clear c32
                          replace H := Option.bind_eq_some_iff.mp H
                          obtain ⟨t504, A330, H⟩ := H
                          replace H : (if t504 = true then ((weirkeeperlaw08_awake.f k3).bind fun t505 => (some t505)) else (some false)) = some true := H
                          have A33 := Aside0.mk A330
                          clear A330
                          by_cases c34 : t504 = true
                          · subst c34
                            have H1 : ((weirkeeperlaw08_awake.f k3).bind fun t505 => (some t505)) = some true := by rw [if_pos rfl] at H; exact H
                            clear H
                            have H := H1
                            clear H1
                            replace H := Option.bind_eq_some_iff.mp H
                            obtain ⟨t505, A350, H⟩ := H
                            replace H : (some t505) = some true := H
                            have A35 := Aside0.mk A350
                            clear A350
                            (have H9_ := Option.some.inj H; first | subst H9_ | (have h9_ := Aside0.mk H9_; clear H9_))
                            obtain ⟨i036, hi036, _, hsz36, _⟩ := info_parts info9
                            obtain ⟨hcut36, hA36, hC36⟩ := print_take_of (P := Try.prog) Value.string (⟨#[]⟩ : ByteArray) 22 9 .i64 Try.underlying22 hi036 hsz36 A1 c1 l1 t500 (of_decide_eq_true (by first | (with_reducible assumption) | assumption)) (of_decide_eq_true (by first | (with_reducible assumption) | assumption)) HC1.out
                            have HR503 := Aside0.mk (Kd.C_of_reads (h1 := fun _ => rfl) (hA36 _ (Kd.reads_of_C HR1.out)))
                            have HC503 := Aside0.mk hC36
                            clear hA36 hC36 hi036 hsz36
                            obtain ⟨Ao37, co37, eo37⟩ := Kd.R_slice HO_9.out
                            subst eo37
                            go_wp2_with (first | ((with_reducible refine gate_callee (f := 32) rfl ?_); refine goesL_ (some 75) rfl rfl Try.func32 (by kernel_rfl) rfl #[.slice Ao37 x9_3.length co37, .slice A1 (l1.take (t500 : Int).toNat).length c1] rfl (by (try simp only [List.map_toArray, List.map_cons, List.map_nil]); first | done | (rw [show (l1.take (t500 : Int).toNat).length = t500.toNat from (by rw [List.length_take]; have h_ : (t500 : Int) ≤ (l1.length : Int) := of_decide_eq_true (by first | (with_reducible assumption) | assumption); omega)] <;> rfl) | rfl | (simp only [List.length_drop, List.length_take]; rfl)) ?_; (with_reducible refine (weirkeeperref01_Same.calls k3 _ _ x9_3 _ _ (l1.take (t500 : Int).toNat) true _ ?side1 ?side2 ?side3 ?side4 A33.out).mono ?_); (case side1 => repeat (first | exact (Kd.R_reads' HO_9.out).2.2 | (with_reducible refine Kd.C_alloc ?_ _) | (with_reducible refine Kd.C_drewN ?_ _) | (with_reducible refine Kd.C_drew ?_))); (case side2 => exact (Kd.R_reads' HO_9.out).2.1); (case side3 => repeat (first | exact (Kd.C_below HR503.out HB.out) | (with_reducible refine Kd.C_alloc ?_ _) | (with_reducible refine Kd.C_drewN ?_ _) | (with_reducible refine Kd.C_drew ?_))); (case side4 => exact HC503.out); rintro e w' ⟨rfl, ⟨nd, rfl⟩⟩; refine ⟨_, rfl, ?_⟩) | (go_at_call 27; (with_reducible refine (weirkeeperlaw08_awake.calls k3 _ A35.out).mono ?_); rintro e w38 ⟨rfl, hb⟩; have n0_ := Aside0.mk (Kd.R_below (by (with_reducible repeat (first | apply Kd.R_alloc | apply Kd.R_drewN | apply Kd.R_drew)); exact HO_9.out) hb); have n1_ := Aside0.mk (Kd.R_below (by (with_reducible repeat (first | apply Kd.R_alloc | apply Kd.R_drewN | apply Kd.R_drew)); exact HO_43.out) hb); have n2_ := Aside0.mk (below_step (by repeat (first | (with_reducible first | exact HB.out | apply below_alloc | apply pw_below_drewN | apply below_drew1) | exact HB.out)) hb); clear HO_9; clear HO_43; clear HB; have HO_9 := n0_; have HO_43 := n1_; have HB := n2_; clear n0_ n1_ n2_; (try clear hb); (try clear hb2); (try clear hk); (try clear hi)))
                            go_ret
                            exact ⟨by first | rfl | (simp only [h9_.out]; done) | (have h8_ := h9_.out; simp [h8_]; done) | (simp [errW_none, errW_some] <;> rfl) | (simp [*, errW_none, errW_some] <;> rfl), by repeat (first | (with_reducible first | exact HB.out | apply below_alloc | apply pw_below_drewN | apply below_drew1) | exact HB.out)⟩
                          · replace c34 := Bool.eq_false_iff.mpr c34
                            subst c34
                            have H1 : (some false) = some true := by rw [if_neg (show ¬ (false = true) by decide)] at H; exact H
                            clear H
                            have H := H1
                            clear H1
                            exact absurd H (by simp)
                        · rw [if_neg c32] at H
                          exact absurd H (by simp)
                      · rw [if_neg c31] at H
                        exact absurd H (by simp)

-- NOT PRINTED: function 12 (weirkeeperlaw08_JournalNeeds)

end Go.Proofs.Ytpkapldkmleppaa.F
