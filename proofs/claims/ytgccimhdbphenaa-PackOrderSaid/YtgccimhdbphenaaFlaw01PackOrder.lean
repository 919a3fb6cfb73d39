/- Contracts of Go functions of the seat Ytgccimhdbphenaa: what a call comes to; no condition but those that each theorem names. -/
import Derived.Test.YtgccimhdbphenaaFPre
import Derived.Test.YtgccimhdbphenaaFpack
import Derived.Test.YtgccimhdbphenaaFlaw01awake
namespace Go.Proofs.Ytgccimhdbphenaa.F
open Go.RowKit Go.Proofs.YtgccimhdbphenaaW.PrintWords Go.Proofs.YtgccimhdbphenaaW.PrintLast Go.Proofs.YtgccimhdbphenaaW.PrintMore
attribute [local go_sem] max2_int min2_int max_two min_two max_three min_three max_four min_four   -- for this text's walks alone
set_option linter.unusedVariables false
set_option linter.unusedSimpArgs false

/-! ### weirkeeperlaw01_PackOrder: function 6 -/
def weirkeeperlaw01_PackOrder.j0 : Nat → Int → Int → ByteArray → Int → ByteArray → Int → Bool → Option (Bool)
  | 0, _, _, _, _, _, _, _ => none
  | k + 1, x0, x1, x7, x8, x9, x10, x28 => if x28 = true then (if x8 = 0 then (if x10 = 0 then ((weirkeeperlaw01_awake.f k).bind fun t228 => (some t228)) else (if x9.toList = ([] : List UInt8) then ((weirkeeperlaw01_awake.f k).bind fun t229 => (some t229)) else (some false))) else (if x7.toList = ([] : List UInt8) then (if x10 = 0 then ((weirkeeperlaw01_awake.f k).bind fun t230 => (some t230)) else (if x9.toList = ([] : List UInt8) then ((weirkeeperlaw01_awake.f k).bind fun t231 => (some t231)) else (some false))) else (some false))) else (if ((Op.bytesLess x7.toList x9.toList) == (decide (x0 < x1))) = true then (if ((x7.toList == x9.toList) == (x0 == x1)) = true then ((weirkeeperlaw01_awake.f k).bind fun t232 => (some t232)) else (some false)) else (some false))
def weirkeeperlaw01_PackOrder.f (k : Nat) (a0 : Int) (a1 : Int) (a2 : Int) : Option (Bool) := (pack_Num.f k a0 a2).bind fun bt224 => ((pack_Num.f k a1 a2).bind fun bt226 => (if bt224.2 = 0 then (weirkeeperlaw01_PackOrder.j0 k a0 a1 bt224.1 bt224.2 bt226.1 bt226.2 (bt226.2 != 0)) else (weirkeeperlaw01_PackOrder.j0 k a0 a1 bt224.1 bt224.2 bt226.1 bt226.2 true)))
theorem weirkeeperlaw01_PackOrder.mono_l : ∀ k, (∀ y0 y1 y2 y3 y4 y5 y6, LeO (weirkeeperlaw01_PackOrder.j0 k y0 y1 y2 y3 y4 y5 y6) (weirkeeperlaw01_PackOrder.j0 (k + 1) y0 y1 y2 y3 y4 y5 y6))
  | 0 => fun _ _ _ _ _ _ _ r h => by simp [weirkeeperlaw01_PackOrder.j0] at h
  | k + 1 => by
    have ih0 := weirkeeperlaw01_PackOrder.mono_l k
    · intro y0 y1 y2 y3 y4 y5 y6
      unfold weirkeeperlaw01_PackOrder.j0
      repeat' first
      | (with_reducible exact ih0 _ _ _ _ _ _ _)
      | (with_reducible exact pack_Num.mono _ _ _)
      | (with_reducible exact weirkeeperlaw01_awake.mono _)
      | (with_reducible exact LeO.refl _)
      | (with_reducible exact LeO.none _)
      | (with_reducible refine LeO.ite ?_ ?_)
      | (with_reducible refine LeO.bind ?_ (fun _ => ?_))
      | exact ih0 _ _ _ _ _ _ _
      | exact pack_Num.mono _ _ _
      | exact weirkeeperlaw01_awake.mono _
      | exact LeO.none _
      | refine LeO.ite ?_ ?_
      | refine LeO.bind ?_ (fun _ => ?_)
theorem weirkeeperlaw01_PackOrder.mono : ∀ a0 a1 a2 k, LeO (weirkeeperlaw01_PackOrder.f k a0 a1 a2) (weirkeeperlaw01_PackOrder.f (k + 1) a0 a1 a2) := by
  intro a0 a1 a2 k
  have ih0 := weirkeeperlaw01_PackOrder.mono_l k
  unfold weirkeeperlaw01_PackOrder.f
  repeat' first
      | (with_reducible exact ih0 _ _ _ _ _ _ _)
      | (with_reducible exact pack_Num.mono _ _ _)
      | (with_reducible exact weirkeeperlaw01_awake.mono _)
      | (with_reducible exact LeO.refl _)
      | (with_reducible exact LeO.none _)
      | (with_reducible refine LeO.ite ?_ ?_)
      | (with_reducible refine LeO.bind ?_ (fun _ => ?_))
      | exact ih0 _ _ _ _ _ _ _
      | exact pack_Num.mono _ _ _
      | exact weirkeeperlaw01_awake.mono _
      | exact LeO.none _
      | refine LeO.ite ?_ ?_
      | refine LeO.bind ?_ (fun _ => ?_)
set_option maxHeartbeats 8000000 in
set_option maxRecDepth 100000 in
theorem weirkeeperlaw01_PackOrder.calls (k : Nat) (a0 : Int) (a1 : Int) (a2 : Int) (r : Bool) (w : World) (h : weirkeeperlaw01_PackOrder.f k a0 a1 a2 = some r) :
    Calls Try.prog 6 #[.int .u64 a0, .int .u64 a1, .int .i64 a2] w fun e w' => e = .returned (.bool r) ∧ Below w.heap.size w w' := by
  have HB := Aside0.mk (Below.refl w.heap.size w)
  have H : ((pack_Num.f k a0 a2).bind fun bt224 => ((pack_Num.f k a1 a2).bind fun bt226 => (if bt224.2 = 0 then (weirkeeperlaw01_PackOrder.j0 k a0 a1 bt224.1 bt224.2 bt226.1 bt226.2 (bt226.2 != 0)) else (weirkeeperlaw01_PackOrder.j0 k a0 a1 bt224.1 bt224.2 bt226.1 bt226.2 true)))) = some r := h
  clear h
  replace H := Option.bind_eq_some_iff.mp H
  obtain ⟨⟨t224, t225⟩, A40, H⟩ := H
  replace H : ((pack_Num.f k a1 a2).bind fun bt226 => (if t225 = 0 then (weirkeeperlaw01_PackOrder.j0 k a0 a1 t224 t225 bt226.1 bt226.2 (bt226.2 != 0)) else (weirkeeperlaw01_PackOrder.j0 k a0 a1 t224 t225 bt226.1 bt226.2 true))) = some r := H
  have A4 := Aside0.mk A40
  clear A40
  replace H := Option.bind_eq_some_iff.mp H
  obtain ⟨⟨t226, t227⟩, A50, H⟩ := H
  replace H : (if t225 = 0 then (weirkeeperlaw01_PackOrder.j0 k a0 a1 t224 t225 t226 t227 (t227 != 0)) else (weirkeeperlaw01_PackOrder.j0 k a0 a1 t224 t225 t226 t227 true)) = some r := H
  have A5 := Aside0.mk A50
  clear A50
  have HC6 := Aside0.mk H
  clear H
  go_enter Try.func6, Try.ntmps6
  go_upto_region 3 with (first | ((with_reducible refine gate_callee (f := 16) rfl ?_); refine goesL_ (some 14) rfl rfl Try.func16 (by kernel_rfl) rfl #[.int .u64 a0, .int .i64 a2] rfl (by (try simp only [List.map_toArray, List.map_cons, List.map_nil]); first | done | rfl | (simp only [List.length_drop, List.length_take]; rfl)) ?_; (with_reducible refine (pack_Num.calls k a0 a2 t224 t225 _ A4.out).mono ?_); rintro e w7 ⟨rfl, hb⟩; refine ⟨_, rfl, ?_⟩; have n0_ := Aside0.mk (below_step (by repeat (first | (with_reducible first | exact HB.out | apply below_alloc | apply pw_below_drewN | apply below_drew1) | exact HB.out)) hb); clear HB; have HB := n0_; clear n0_; (try clear hb); (try clear hb2); (try clear hk); (try clear hi)) | ((with_reducible refine gate_callee (f := 16) rfl ?_); refine goesL_ (some 20) rfl rfl Try.func16 (by kernel_rfl) rfl #[.int .u64 a1, .int .i64 a2] rfl (by (try simp only [List.map_toArray, List.map_cons, List.map_nil]); first | done | rfl | (simp only [List.length_drop, List.length_take]; rfl)) ?_; (with_reducible refine (pack_Num.calls k a1 a2 t226 t227 _ A5.out).mono ?_); rintro e w8 ⟨rfl, hb⟩; refine ⟨_, rfl, ?_⟩; have n0_ := Aside0.mk (below_step (by repeat (first | (with_reducible first | exact HB.out | apply below_alloc | apply pw_below_drewN | apply below_drew1) | exact HB.out)) hb); clear HB; have HB := n0_; clear n0_; (try clear hb); (try clear hb2); (try clear hk); (try clear hi)))
  (try simp only [Act.put, List.setIfInBounds_toArray, List.set_cons_zero, List.set_cons_succ])
  go_cut [28] (fun v28 wc => ∃ (kq : Nat) (x28_5 : Bool), v28 = .bool x28_5 ∧ Aside0 (weirkeeperlaw01_PackOrder.j0 kq a0 a1 t224 t225 t226 t227 x28_5 = some r) ∧ Aside0 (kq ≤ k) ∧ Aside0 (Below w.heap.size w wc))
  case first =>
    have H := HC6.out
    clear HC6
    by_cases c9 : t225 = 0
    · rw [if_pos c9] at H
      have c9b0 : (t225 == 0) = true := beq_iff_eq.mpr c9
      have c9b1 : (t225 != 0) = false := bne_eq_false_iff_eq.mpr c9
      clear c9
      (first | rw [c9b0] | (simp only [i64_w, i32_w]; rw [c9b0]) | skip)
      have H' := Aside0.mk H
      clear H
      go_wp2
      go_meet
      case rel => exact ⟨_, ((t227 != 0)), (by first | rfl | (simp; done) | (simp [*]; done)), H', ⟨by first | omega | exact Nat.le_refl _⟩, ⟨by repeat (first | (with_reducible first | exact HB.out | apply below_alloc | apply pw_below_drewN | apply below_drew1) | exact HB.out)⟩⟩
    · rw [if_neg c9] at H
      have c9b0 : (t225 == 0) = false := beq_eq_false_iff_ne.mpr c9
      have c9b1 : (t225 != 0) = true := bne_iff_ne.mpr c9
      (first | rw [c9b0] | (simp only [i64_w, i32_w]; rw [c9b0]) | skip)
      have H' := Aside0.mk H
      clear H
      go_wp2
      go_meet
      case rel => exact ⟨_, (true), (by first | rfl | (simp; done) | (simp [*]; done)), H', ⟨by first | omega | exact Nat.le_refl _⟩, ⟨by repeat (first | (with_reducible first | exact HB.out | apply below_alloc | apply pw_below_drewN | apply below_drew1) | exact HB.out)⟩⟩
  case rest =>
    clear HC6
    try clear c1
    try clear p2
    try clear c6
    try clear c9
    try clear c9b0
    try clear c9b1
    obtain ⟨kq, x28_5, rfl, HA, HJ5, HB⟩ := hcut
    cases kq with
    | zero => exact absurd HA.out (by simp [weirkeeperlaw01_PackOrder.j0])
    | succ kj5 =>
      have H := HA.out
      clear HA
      simp only [weirkeeperlaw01_PackOrder.j0] at H
      by_cases c10 : x28_5 = true
      · subst c10
        have H1 : (if t225 = 0 then (if t227 = 0 then ((weirkeeperlaw01_awake.f kj5).bind fun t228 => (some t228)) else (if t226.toList = ([] : List UInt8) then ((weirkeeperlaw01_awake.f kj5).bind fun t229 => (some t229)) else (some false))) else (if t224.toList = ([] : List UInt8) then (if t227 = 0 then ((weirkeeperlaw01_awake.f kj5).bind fun t230 => (some t230)) else (if t226.toList = ([] : List UInt8) then ((weirkeeperlaw01_awake.f kj5).bind fun t231 => (some t231)) else (some false))) else (some false))) = some r := by rw [if_pos rfl] at H; exact H
        clear H
        have H := H1
        clear H1
        by_cases c11 : t225 = 0
        · rw [if_pos c11] at H
          have c11b0 : (t225 == 0) = true := beq_iff_eq.mpr c11
          have c11b1 : (t225 != 0) = false := bne_eq_false_iff_eq.mpr c11
          clear c11
          by_cases c12 : t227 = 0
          · rw [if_pos c12] at H
            have c12b0 : (t227 == 0) = true := beq_iff_eq.mpr c12
            have c12b1 : (t227 != 0) = false := bne_eq_false_iff_eq.mpr c12
            clear c12
            replace H := Option.bind_eq_some_iff.mp H
            obtain ⟨t228, A130, H⟩ := H
            replace H : (some t228) = some r := H
            have A13 := Aside0.mk A130
            clear A130
            obtain rfl := Option.some.inj H
            go_wp2_with (first | (go_at_call 15; (with_reducible refine (weirkeeperlaw01_awake.calls kj5  t228 _ A13.out).mono ?_); rintro e w14 ⟨rfl, hb⟩; have n0_ := Aside0.mk (below_step (by repeat (first | (with_reducible first | exact HB.out | apply below_alloc | apply pw_below_drewN | apply below_drew1) | exact HB.out)) hb); clear HB; have HB := n0_; clear n0_; (try clear hb); (try clear hb2); (try clear hk); (try clear hi)))
            go_ret
            exact ⟨by first | rfl | (simp [errW_none, errW_some] <;> rfl) | (simp [*, errW_none, errW_some] <;> rfl), by repeat (first | (with_reducible first | exact HB.out | apply below_alloc | apply pw_below_drewN | apply below_drew1) | exact HB.out)⟩
          · rw [if_neg c12] at H
            have c12b0 : (t227 == 0) = false := beq_eq_false_iff_ne.mpr c12
            have c12b1 : (t227 != 0) = true := bne_iff_ne.mpr c12
            by_cases c15 : t226.toList = ([] : List UInt8)
            · rw [if_pos c15] at H
              have c15b0 : (t226.toList == ([] : List UInt8)) = true := beq_iff_eq.mpr c15
              have c15b1 : (t226.toList != ([] : List UInt8)) = false := bne_eq_false_iff_eq.mpr c15
              clear c15
              replace H := Option.bind_eq_some_iff.mp H
              obtain ⟨t229, A160, H⟩ := H
              replace H : (some t229) = some r := H
              have A16 := Aside0.mk A160
              clear A160
              obtain rfl := Option.some.inj H
              go_wp2_with (first | (go_at_call 15; (with_reducible refine (weirkeeperlaw01_awake.calls kj5  t229 _ A16.out).mono ?_); rintro e w17 ⟨rfl, hb⟩; have n0_ := Aside0.mk (below_step (by repeat (first | (with_reducible first | exact HB.out | apply below_alloc | apply pw_below_drewN | apply below_drew1) | exact HB.out)) hb); clear HB; have HB := n0_; clear n0_; (try clear hb); (try clear hb2); (try clear hk); (try clear hi)))
              go_ret
              exact ⟨by first | rfl | (simp [errW_none, errW_some] <;> rfl) | (simp [*, errW_none, errW_some] <;> rfl), by repeat (first | (with_reducible first | exact HB.out | apply below_alloc | apply pw_below_drewN | apply below_drew1) | exact HB.out)⟩
            · rw [if_neg c15] at H
              have c15b0 : (t226.toList == ([] : List UInt8)) = false := beq_eq_false_iff_ne.mpr c15
              have c15b1 : (t226.toList != ([] : List UInt8)) = true := bne_iff_ne.mpr c15
              obtain rfl := Option.some.inj H
              go_wp2
              go_ret
              exact ⟨by first | rfl | (simp [errW_none, errW_some] <;> rfl) | (simp [*, errW_none, errW_some] <;> rfl), by repeat (first | (with_reducible first | exact HB.out | apply below_alloc | apply pw_below_drewN | apply below_drew1) | exact HB.out)⟩
        · rw [if_neg c11] at H
          have c11b0 : (t225 == 0) = false := beq_eq_false_iff_ne.mpr c11
          have c11b1 : (t225 != 0) = true := bne_iff_ne.mpr c11
          by_cases c18 : t224.toList = ([] : List UInt8)
          · rw [if_pos c18] at H
            have c18b0 : (t224.toList == ([] : List UInt8)) = true := beq_iff_eq.mpr c18
            have c18b1 : (t224.toList != ([] : List UInt8)) = false := bne_eq_false_iff_eq.mpr c18
            clear c18
            by_cases c19 : t227 = 0
            · rw [if_pos c19] at H
              have c19b0 : (t227 == 0) = true := beq_iff_eq.mpr c19
              have c19b1 : (t227 != 0) = false := bne_eq_false_iff_eq.mpr c19
              clear c19
              replace H := Option.bind_eq_some_iff.mp H
              obtain ⟨t230, A200, H⟩ := H
              replace H : (some t230) = some r := H
              have A20 := Aside0.mk A200
              clear A200
              obtain rfl := Option.some.inj H
              go_wp2_with (first | (go_at_call 15; (with_reducible refine (weirkeeperlaw01_awake.calls kj5  t230 _ A20.out).mono ?_); rintro e w21 ⟨rfl, hb⟩; have n0_ := Aside0.mk (below_step (by repeat (first | (with_reducible first | exact HB.out | apply below_alloc | apply pw_below_drewN | apply below_drew1) | exact HB.out)) hb); clear HB; have HB := n0_; clear n0_; (try clear hb); (try clear hb2); (try clear hk); (try clear hi)))
              go_ret
              exact ⟨by first | rfl | (simp [errW_none, errW_some] <;> rfl) | (simp [*, errW_none, errW_some] <;> rfl), by repeat (first | (with_reducible first | exact HB.out | apply below_alloc | apply pw_below_drewN | apply below_drew1) | exact HB.out)⟩
            · rw [if_neg c19] at H
              have c19b0 : (t227 == 0) = false := beq_eq_false_iff_ne.mpr c19
              have c19b1 : (t227 != 0) = true := bne_iff_ne.mpr c19
              by_cases c22 : t226.toList = ([] : List UInt8)
              · rw [if_pos c22] at H
                have c22b0 : (t226.toList == ([] : List UInt8)) = true := beq_iff_eq.mpr c22
                have c22b1 : (t226.toList != ([] : List UInt8)) = false := bne_eq_false_iff_eq.mpr c22
                clear c22
                replace H := Option.bind_eq_some_iff.mp H
                obtain ⟨t231, A230, H⟩ := H
                replace H : (some t231) = some r := H
                have A23 := Aside0.mk A230
                clear A230
                obtain rfl := Option.some.inj H
                go_wp2_with (first | (go_at_call 15; (with_reducible refine (weirkeeperlaw01_awake.calls kj5  t231 _ A23.out).mono ?_); rintro e w24 ⟨rfl, hb⟩; have n0_ := Aside0.mk (below_step (by repeat (first | (with_reducible first | exact HB.out | apply below_alloc | apply pw_below_drewN | apply below_drew1) | exact HB.out)) hb); clear HB; have HB := n0_; clear n0_; (try clear hb); (try clear hb2); (try clear hk); (try clear hi)))
                go_ret
                exact ⟨by first | rfl | (simp [errW_none, errW_some] <;> rfl) | (simp [*, errW_none, errW_some] <;> rfl), by repeat (first | (with_reducible first | exact HB.out | apply below_alloc | apply pw_below_drewN | apply below_drew1) | exact HB.out)⟩
              · rw [if_neg c22] at H
                have c22b0 : (t226.toList == ([] : List UInt8)) = false := beq_eq_false_iff_ne.mpr c22
                have c22b1 : (t226.toList != ([] : List UInt8)) = true := bne_iff_ne.mpr c22
                obtain rfl := Option.some.inj H
                go_wp2
                go_ret
                exact ⟨by first | rfl | (simp [errW_none, errW_some] <;> rfl) | (simp [*, errW_none, errW_some] <;> rfl), by repeat (first | (with_reducible first | exact HB.out | apply below_alloc | apply pw_below_drewN | apply below_drew1) | exact HB.out)⟩
          · rw [if_neg c18] at H
            have c18b0 : (t224.toList == ([] : List UInt8)) = false := beq_eq_false_iff_ne.mpr c18
            have c18b1 : (t224.toList != ([] : List UInt8)) = true := bne_iff_ne.mpr c18
            obtain rfl := Option.some.inj H
            go_wp2
            go_ret
            exact ⟨by first | rfl | (simp [errW_none, errW_some] <;> rfl) | (simp [*, errW_none, errW_some] <;> rfl), by repeat (first | (with_reducible first | exact HB.out | apply below_alloc | apply pw_below_drewN | apply below_drew1) | exact HB.out)⟩
      · replace c10 := Bool.eq_false_iff.mpr c10
        subst c10
        have H1 : (if ((Op.bytesLess t224.toList t226.toList) == (decide (a0 < a1))) = true then (if ((t224.toList == t226.toList) == (a0 == a1)) = true then ((weirkeeperlaw01_awake.f kj5).bind fun t232 => (some t232)) else (some false)) else (some false)) = some r := by rw [if_neg (show ¬ (false = true) by decide)] at H; exact H
        clear H
        have H := H1
        clear H1
        by_cases c25 : ((Op.bytesLess t224.toList t226.toList) == (decide (a0 < a1))) = true
        · rw [if_pos c25] at H
          have c25b0 : ((Op.bytesLess t224.toList t226.toList) == (decide (a0 < a1))) = true := c25
          (try (have c25b1 : decide ((Op.bytesLess t224.toList t226.toList) = (decide (a0 < a1))) = true := by simpa using c25))
          (try (have c25b2 : ((Op.bytesLess t224.toList t226.toList) == (decide (a0 < a1))) = true := by simpa using c25))
          clear c25
          by_cases c26 : ((t224.toList == t226.toList) == (a0 == a1)) = true
          · rw [if_pos c26] at H
            have c26b0 : ((t224.toList == t226.toList) == (a0 == a1)) = true := c26
            (try (have c26b1 : decide ((t224.toList == t226.toList) = (a0 == a1)) = true := by simpa using c26))
            (try (have c26b2 : ((t224.toList == t226.toList) == (a0 == a1)) = true := by simpa using c26))
            clear c26
            replace H := Option.bind_eq_some_iff.mp H
            obtain ⟨t232, A270, H⟩ := H
            replace H : (some t232) = some r := H
            have A27 := Aside0.mk A270
            clear A270
            obtain rfl := Option.some.inj H
            go_wp2_with (first | (go_at_call 15; (with_reducible refine (weirkeeperlaw01_awake.calls kj5  t232 _ A27.out).mono ?_); rintro e w28 ⟨rfl, hb⟩; have n0_ := Aside0.mk (below_step (by repeat (first | (with_reducible first | exact HB.out | apply below_alloc | apply pw_below_drewN | apply below_drew1) | exact HB.out)) hb); clear HB; have HB := n0_; clear n0_; (try clear hb); (try clear hb2); (try clear hk); (try clear hi)))
            go_ret
            exact ⟨by first | rfl | (simp [errW_none, errW_some] <;> rfl) | (simp [*, errW_none, errW_some] <;> rfl), by repeat (first | (with_reducible first | exact HB.out | apply below_alloc | apply pw_below_drewN | apply below_drew1) | exact HB.out)⟩
          · rw [if_neg c26] at H
            have c26b0 : ((t224.toList == t226.toList) == (a0 == a1)) = false := by simpa using c26
            (try (have c26b1 : decide ((t224.toList == t226.toList) = (a0 == a1)) = false := by simpa using c26))
            (try (have c26b2 : ((t224.toList == t226.toList) == (a0 == a1)) = false := by simpa using c26))
            (try (have c26b3 : ¬ ((t224.toList == t226.toList) = (a0 == a1)) := by simpa using c26))
            clear c26
            obtain rfl := Option.some.inj H
            go_wp2
            go_ret
            exact ⟨by first | rfl | (simp [errW_none, errW_some] <;> rfl) | (simp [*, errW_none, errW_some] <;> rfl), by repeat (first | (with_reducible first | exact HB.out | apply below_alloc | apply pw_below_drewN | apply below_drew1) | exact HB.out)⟩
        · rw [if_neg c25] at H
          have c25b0 : ((Op.bytesLess t224.toList t226.toList) == (decide (a0 < a1))) = false := by simpa using c25
          (try (have c25b1 : decide ((Op.bytesLess t224.toList t226.toList) = (decide (a0 < a1))) = false := by simpa using c25))
          (try (have c25b2 : ((Op.bytesLess t224.toList t226.toList) == (decide (a0 < a1))) = false := by simpa using c25))
          (try (have c25b3 : ¬ ((Op.bytesLess t224.toList t226.toList) = (decide (a0 < a1))) := by simpa using c25))
          clear c25
          obtain rfl := Option.some.inj H
          go_wp2
          go_ret
          exact ⟨by first | rfl | (simp [errW_none, errW_some] <;> rfl) | (simp [*, errW_none, errW_some] <;> rfl), by repeat (first | (with_reducible first | exact HB.out | apply below_alloc | apply pw_below_drewN | apply below_drew1) | exact HB.out)⟩

/-- THE ONE PURE STATEMENT of weirkeeperlaw01_PackOrder: yours. -/
def weirkeeperlaw01_PackOrder.Pure : Prop := ∀ (a0 : Int) (a1 : Int) (a2 : Int), (Lit.int .u64 a0).wf = true → (Lit.int .u64 a1).wf = true → (Lit.int .i64 a2).wf = true → ∃ k, weirkeeperlaw01_PackOrder.f k a0 a1 a2 = some true
theorem weirkeeperlaw01_PackOrder.walk (P : weirkeeperlaw01_PackOrder.Pure) (a0 : Int) (a1 : Int) (a2 : Int) (w : World) (w0 : (Lit.int .u64 a0).wf = true) (w1 : (Lit.int .u64 a1).wf = true) (w2 : (Lit.int .i64 a2).wf = true) :
    Calls Try.prog 6 #[.int .u64 a0, .int .u64 a1, .int .i64 a2] w fun e w' => e = .returned (.bool true) ∧ Below w.heap.size w w' := by
  obtain ⟨k, h⟩ := P a0 a1 a2 w0 w1 w2
  refine (weirkeeperlaw01_PackOrder.calls k a0 a1 a2 true w h).mono ?_
  rintro e w' ⟨rfl, hd⟩
  exact ⟨rfl, hd⟩

end Go.Proofs.Ytgccimhdbphenaa.F
