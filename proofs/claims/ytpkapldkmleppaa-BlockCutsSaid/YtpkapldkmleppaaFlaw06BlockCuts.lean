/- Contracts of Go functions of the seat Ytpkapldkmleppaa: what a call comes to; no condition but those that each theorem names. -/
import Derived.Test.YtpkapldkmleppaaFPre
import Derived.Test.YtpkapldkmleppaaFblockC
import Derived.Test.YtpkapldkmleppaaFlaw06awake
namespace Go.Proofs.Ytpkapldkmleppaa.F
open Go.RowKit Go.Proofs.YtpkapldkmleppaaW.PrintWords Go.Proofs.YtpkapldkmleppaaW.PrintLast Go.Proofs.YtpkapldkmleppaaW.PrintMore
attribute [local go_sem] max2_int min2_int max_two min_two max_three min_three max_four min_four   -- for this text's walks alone
set_option linter.unusedVariables false
set_option linter.unusedSimpArgs false

attribute [local go_sem] fieldD25_0 fieldD25_1
/-! ### weirkeeperlaw06_BlockCuts: function 5 -/
mutual
def weirkeeperlaw06_BlockCuts.l0 : Nat → ByteArray → ByteArray → List ByteArray → Int → Int → Option (Bool)
  | 0, _, _, _, _, _ => none
  | k + 1, x0, x3, x12, x13, x14 => if x14 < x13 then (if 0 ≤ x14 then (if x14 < (x12.length : Int) then (if ((rdOf ByteArray.empty x12 x14).size : Int) = 32 then (if x3.size + (rdOf ByteArray.empty x12 x14).size ≤ 9223372036854775807 then (weirkeeperlaw06_BlockCuts.l0 k x0 (x3 ++ (rdOf ByteArray.empty x12 x14)) x12 x13 (wrap64 (x14 + 1))) else (none)) else (some false)) else (none)) else (none)) else (weirkeeperlaw06_BlockCuts.l1 k x0 x3 (x0.size : Int))
def weirkeeperlaw06_BlockCuts.l1 : Nat → ByteArray → ByteArray → Int → Option (Bool)
  | 0, _, _, _ => none
  | k + 1, x0, x3, x6 => if x6 < (x3.size : Int) then (if 0 ≤ x6 then (if (bt x3 x6) = 0 then (weirkeeperlaw06_BlockCuts.l1 k x0 x3 (wrap64 (x6 + 1))) else (some false)) else (none)) else (if (x3.size : Int) ≥ (x0.size : Int) then (if (x3.size : Int) < (wrap64 ((x0.size : Int) + 32)) then (if 0 ≤ (x0.size : Int) then (if (x0.size : Int) ≤ (x3.size : Int) then (if (x3.extract 0 ((x0.size : Int) : Int).toNat).toList = x0.toList then ((weirkeeperlaw06_awake.f k).bind fun t287 => (some t287)) else (some false)) else (none)) else (none)) else (some false)) else (some false))
end
def weirkeeperlaw06_BlockCuts.f (k : Nat) (a0 : ByteArray) : Option (Bool) := if (a0.size : Int) > 2000 then ((weirkeeperlaw06_awake.f k).bind fun t282 => (some t282)) else ((block_Cut.f a0).bind fun t283 => (weirkeeperlaw06_BlockCuts.l0 k a0 (⟨#[]⟩ : ByteArray) t283 (t283.length : Int) 0))
theorem weirkeeperlaw06_BlockCuts.mono_l : ∀ k, (∀ y0 y1 y2 y3 y4, LeO (weirkeeperlaw06_BlockCuts.l0 k y0 y1 y2 y3 y4) (weirkeeperlaw06_BlockCuts.l0 (k + 1) y0 y1 y2 y3 y4)) ∧ (∀ y0 y1 y2, LeO (weirkeeperlaw06_BlockCuts.l1 k y0 y1 y2) (weirkeeperlaw06_BlockCuts.l1 (k + 1) y0 y1 y2))
  | 0 => ⟨fun _ _ _ _ _ r h => by simp [weirkeeperlaw06_BlockCuts.l0] at h, fun _ _ _ r h => by simp [weirkeeperlaw06_BlockCuts.l1] at h⟩
  | k + 1 => by
    obtain ⟨ih0, ih1⟩ := weirkeeperlaw06_BlockCuts.mono_l k
    refine ⟨?_, ?_⟩
    · intro y0 y1 y2 y3 y4
      unfold weirkeeperlaw06_BlockCuts.l0
      repeat' first
      | (with_reducible exact ih0 _ _ _ _ _)
      | (with_reducible exact ih1 _ _ _)
      | (with_reducible exact weirkeeperlaw06_awake.mono _)
      | (with_reducible exact LeO.refl _)
      | (with_reducible exact LeO.none _)
      | (with_reducible refine LeO.ite ?_ ?_)
      | (with_reducible refine LeO.bind ?_ (fun _ => ?_))
      | exact ih0 _ _ _ _ _
      | exact ih1 _ _ _
      | exact weirkeeperlaw06_awake.mono _
      | exact LeO.none _
      | refine LeO.ite ?_ ?_
      | refine LeO.bind ?_ (fun _ => ?_)
    · intro y0 y1 y2
      unfold weirkeeperlaw06_BlockCuts.l1
      repeat' first
      | (with_reducible exact ih0 _ _ _ _ _)
      | (with_reducible exact ih1 _ _ _)
      | (with_reducible exact weirkeeperlaw06_awake.mono _)
      | (with_reducible exact LeO.refl _)
      | (with_reducible exact LeO.none _)
      | (with_reducible refine LeO.ite ?_ ?_)
      | (with_reducible refine LeO.bind ?_ (fun _ => ?_))
      | exact ih0 _ _ _ _ _
      | exact ih1 _ _ _
      | exact weirkeeperlaw06_awake.mono _
      | exact LeO.none _
      | refine LeO.ite ?_ ?_
      | refine LeO.bind ?_ (fun _ => ?_)
theorem weirkeeperlaw06_BlockCuts.mono : ∀ a0 k, LeO (weirkeeperlaw06_BlockCuts.f k a0) (weirkeeperlaw06_BlockCuts.f (k + 1) a0) := by
  intro a0 k
  obtain ⟨ih0, ih1⟩ := weirkeeperlaw06_BlockCuts.mono_l k
  unfold weirkeeperlaw06_BlockCuts.f
  repeat' first
      | (with_reducible exact ih0 _ _ _ _ _)
      | (with_reducible exact ih1 _ _ _)
      | (with_reducible exact weirkeeperlaw06_awake.mono _)
      | (with_reducible exact LeO.refl _)
      | (with_reducible exact LeO.none _)
      | (with_reducible refine LeO.ite ?_ ?_)
      | (with_reducible refine LeO.bind ?_ (fun _ => ?_))
      | exact ih0 _ _ _ _ _
      | exact ih1 _ _ _
      | exact weirkeeperlaw06_awake.mono _
      | exact LeO.none _
      | refine LeO.ite ?_ ?_
      | refine LeO.bind ?_ (fun _ => ?_)
set_option maxHeartbeats 8000000 in
set_option maxRecDepth 100000 in
theorem weirkeeperlaw06_BlockCuts.calls (k : Nat) (a0 : ByteArray) (w : World) (h : weirkeeperlaw06_BlockCuts.f k a0 = some true) :
    Calls Try.prog 5 #[.string a0] w fun e w' => e = .returned (.bool true) ∧ Below w.heap.size w w' := by
  have HB := Aside0.mk (Below.refl w.heap.size w)
  have H : (if (a0.size : Int) > 2000 then ((weirkeeperlaw06_awake.f k).bind fun t282 => (some t282)) else ((block_Cut.f a0).bind fun t283 => (weirkeeperlaw06_BlockCuts.l0 k a0 (⟨#[]⟩ : ByteArray) t283 (t283.length : Int) 0))) = some true := h
  clear h
  by_cases c2 : (a0.size : Int) > 2000
  · rw [if_pos c2] at H
    have c2b0 : decide (2000 < (a0.size : Int)) = true := decide_eq_true c2
    have c2b1 : decide (2000 < a0.size) = true := decide_eq_true (by omega)
    clear c2
    replace H := Option.bind_eq_some_iff.mp H
    obtain ⟨t282, A30, H⟩ := H
    replace H : (some t282) = some true := H
    have A3 := Aside0.mk A30
    clear A30
    (have H9_ := Option.some.inj H; first | subst H9_ | (have h9_ := Aside0.mk H9_; clear H9_))
    go_enter Try.func5, Try.ntmps5
    go_wp2_with (first | ((with_reducible refine gate_callee (f := 17) rfl ?_); refine goesL_ (some 10) rfl rfl Try.func17 (by kernel_rfl) rfl #[] rfl (by (try simp only [List.map_toArray, List.map_cons, List.map_nil]); first | done | rfl | (simp only [List.length_drop, List.length_take]; rfl) | (simp only [ByteArray.size_extract, Nat.min_self, Nat.sub_zero]; rfl)) ?_; (with_reducible refine (weirkeeperlaw06_awake.calls k _ A3.out).mono ?_); rintro e w4 ⟨rfl, hb⟩; refine ⟨_, rfl, ?_⟩; have n0_ := Aside0.mk (below_step (by repeat (first | (with_reducible first | exact HB.out | apply below_alloc | apply pw_below_drewN | apply below_drew1) | exact HB.out)) hb); clear HB; have HB := n0_; clear n0_; (try clear hb); (try clear hb2); (try clear hk); (try clear hi)))
    go_ret
    exact ⟨by first | rfl | (simp only [h9_.out]; done) | (have h8_ := h9_.out; simp [h8_]; done) | (simp [errW_none, errW_some] <;> rfl) | (simp [*, errW_none, errW_some] <;> rfl), by repeat (first | (with_reducible first | exact HB.out | apply below_alloc | apply pw_below_drewN | apply below_drew1) | exact HB.out)⟩
  · rw [if_neg c2] at H
    have c2b0 : decide (2000 < (a0.size : Int)) = false := decide_eq_false c2
    have c2b1 : decide (2000 < a0.size) = false := decide_eq_false (by omega)
    clear c2
    replace H := Option.bind_eq_some_iff.mp H
    obtain ⟨t283, A50, H⟩ := H
    replace H : (weirkeeperlaw06_BlockCuts.l0 k a0 (⟨#[]⟩ : ByteArray) t283 (t283.length : Int) 0) = some true := H
    have A5 := Aside0.mk A50
    clear A50
    have H' := Aside0.mk H
    clear H
    go_enter Try.func5, Try.ntmps5
    go_wp2_with (first | ((with_reducible refine gate_callee (f := 26) rfl ?_); refine goesL_ (some 12) rfl rfl Try.func26 (by kernel_rfl) rfl #[.string a0] rfl (by (try simp only [List.map_toArray, List.map_cons, List.map_nil]); first | done | rfl | (simp only [List.length_drop, List.length_take]; rfl) | (simp only [ByteArray.size_extract, Nat.min_self, Nat.sub_zero]; rfl)) ?_; (with_reducible refine (block_Cut.calls a0 t283 _ A5.out).mono ?_); rintro e w6 ⟨v284, rfl, ho0, hb⟩; refine ⟨_, rfl, ?_⟩; have n0_ := Aside0.mk (Kd.R_lower ho0 (below_size (by repeat (first | (with_reducible first | exact HB.out | apply below_alloc | apply pw_below_drewN | apply below_drew1) | exact HB.out)))); have n1_ := Aside0.mk (below_step (by repeat (first | (with_reducible first | exact HB.out | apply below_alloc | apply pw_below_drewN | apply below_drew1) | exact HB.out)) hb); clear HB; have HO285 := n0_; have HB := n1_; clear n0_ n1_; (try clear hb); (try clear hb2); (try clear hk); (try clear hi); (try clear ho0); obtain ⟨Ao7, co7, eo7⟩ := Kd.R_slice HO285.out; subst eo7))
    go_loopg [3, 14] k (fun kq v3 v14 w' => ∃ (x3_1 : ByteArray) (x14_1 : Int), v3 = .string x3_1 ∧ v14 = .int .i64 x14_1 ∧ Aside0 (weirkeeperlaw06_BlockCuts.l0 kq a0 x3_1 t283 (t283.length : Int) x14_1 = some true) ∧ Aside0 (kq ≤ k) ∧ Aside0 (Kd.R Kd.string 9 w' w.heap.size (fun _ => True) (.slice Ao7 t283.length co7) t283) ∧ Aside0 (Below w.heap.size w w'))
    case atStart => exact ⟨((⟨#[]⟩ : ByteArray)), (0), (by first | rfl | (simp; done) | (simp [*]; done)), (by first | rfl | (simp; done) | (simp [*]; done)), H', ⟨Nat.le_refl _⟩, ⟨by (with_reducible repeat (first | apply Kd.R_alloc | apply Kd.R_drewN | apply Kd.R_drew)); exact HO285.out⟩, ⟨by repeat (first | (with_reducible first | exact HB.out | apply below_alloc | apply pw_below_drewN | apply below_drew1) | exact HB.out)⟩⟩
    case round =>
      clear H'
      try clear c1
      try clear c2
      try clear c2b0
      try clear c2b1
      try clear p2
      try clear c5
      obtain ⟨x3_1, x14_1, rfl, rfl, HA, HK1, HO_12, HB⟩ := hrel
      cases gk with
      | zero => exact absurd HA.out (by simp [weirkeeperlaw06_BlockCuts.l0])
      | succ k1 =>
        have H := HA.out
        clear HA
        simp only [weirkeeperlaw06_BlockCuts.l0] at H
        by_cases c8 : x14_1 < (t283.length : Int)
        · rw [if_pos c8] at H
          have c8b0 : decide (x14_1 < (t283.length : Int)) = true := decide_eq_true c8
          clear c8
          by_cases c9 : 0 ≤ x14_1
          · rw [if_pos c9] at H
            have c9b0 : decide (0 ≤ x14_1) = true := decide_eq_true c9
            clear c9
            by_cases c10 : x14_1 < (t283.length : Int)
            · rw [if_pos c10] at H
              have c10b0 : decide (x14_1 < (t283.length : Int)) = true := decide_eq_true c10
              clear c10
              by_cases c11 : ((rdOf ByteArray.empty t283 x14_1).size : Int) = 32
              · rw [if_pos c11] at H
                have c11b0 : (((rdOf ByteArray.empty t283 x14_1).size : Int) == 32) = true := beq_iff_eq.mpr c11
                have c11b1 : (((rdOf ByteArray.empty t283 x14_1).size : Int) != 32) = false := bne_eq_false_iff_eq.mpr c11
                clear c11
                by_cases c12 : x3_1.size + (rdOf ByteArray.empty t283 x14_1).size ≤ 9223372036854775807
                · rw [if_pos c12] at H
                  have c12b0 := eq_true c12
                  try (have c12b09 := c12b0; simp only [ByteArray.size_extract, Nat.min_self, Nat.sub_zero, Int.toNat_natCast] at c12b09)
                  have c12b1 : decide (x3_1.size + (rdOf ByteArray.empty t283 x14_1).size ≤ 9223372036854775807) = true := decide_eq_true c12
                  try have c12b2 : (9223372036854775807 < x3_1.size + (rdOf ByteArray.empty t283 x14_1).size) = False := eq_false (Nat.not_lt.2 c12)
                  clear c12
                  have H' := Aside0.mk H
                  clear H
                  have p286 : 0 ≤ (x14_1 : Int) := of_decide_eq_true (by first | (with_reducible assumption) | assumption)
                  have q286 : x14_1 < (t283.length : Int) := of_decide_eq_true (by first | (with_reducible assumption) | assumption)
                  obtain ⟨ad286, e286, hx286_0⟩ := Kd.at_string (Kd.R_reads' HO_12.out).2.2 x14_1 p286 q286
                  cases e286
                  replace p286 := eq_true p286
                  replace q286 := eq_true q286
                  go_wp2
                  go_roundg k1
                  case measure => have := HK1.out; omega
                  case rel => exact ⟨(x3_1 ++ (rdOf ByteArray.empty t283 x14_1)), (wrap64 (x14_1 + 1)), (by first | rfl | (simp; done) | (simp [*]; done)), (by first | rfl | (simp; done) | (simp [*]; done)), H', ⟨by have := HK1.out; omega⟩, ⟨by (with_reducible repeat (first | apply Kd.R_alloc | apply Kd.R_drewN | apply Kd.R_drew)); exact HO_12.out⟩, ⟨by repeat (first | (with_reducible first | exact HB.out | apply below_alloc | apply pw_below_drewN | apply below_drew1) | exact HB.out)⟩⟩
                · rw [if_neg c12] at H
                  exact absurd H (by simp)
              · rw [if_neg c11] at H
                have c11b0 : (((rdOf ByteArray.empty t283 x14_1).size : Int) == 32) = false := beq_eq_false_iff_ne.mpr c11
                have c11b1 : (((rdOf ByteArray.empty t283 x14_1).size : Int) != 32) = true := bne_iff_ne.mpr c11
                exact absurd H (by simp)
            · rw [if_neg c10] at H
              exact absurd H (by simp)
          · rw [if_neg c9] at H
            exact absurd H (by simp)
        · rw [if_neg c8] at H
          have c8b0 : decide (x14_1 < (t283.length : Int)) = false := decide_eq_false c8
          clear c8
          have H' := Aside0.mk H
          clear H
          go_wp2
          go_loopg [6] k1 (fun kq v6 w' => ∃ (x6_2 : Int), v6 = .int .i64 x6_2 ∧ Aside0 (weirkeeperlaw06_BlockCuts.l1 kq a0 x3_1 x6_2 = some true) ∧ Aside0 (kq ≤ k1) ∧ Aside0 (Below w.heap.size w w'))
          case atStart => exact ⟨((a0.size : Int)), (by first | rfl | (simp; done) | (simp [*]; done)), H', ⟨Nat.le_refl _⟩, ⟨by repeat (first | (with_reducible first | exact HB.out | apply below_alloc | apply pw_below_drewN | apply below_drew1) | exact HB.out)⟩⟩
          case round =>
            clear H'
            try clear c1
            try clear c2
            try clear c2b0
            try clear c2b1
            try clear p2
            try clear q2
            try clear hx2
            try clear c5
            try clear p6
            try clear c8
            try clear c8b0
            try clear c9
            try clear c9b0
            try clear c10
            try clear c10b0
            try clear c11
            try clear c11b0
            try clear c11b1
            try clear c12
            try clear c12b0
            try clear c12b1
            try clear c12b2
            try clear hx286_0
            try clear p2
            try clear p286
            try clear q286
            obtain ⟨x6_2, rfl, HA, HK2, HB⟩ := hrel
            cases gk with
            | zero => exact absurd HA.out (by simp [weirkeeperlaw06_BlockCuts.l1])
            | succ k2 =>
              have H := HA.out
              clear HA
              simp only [weirkeeperlaw06_BlockCuts.l1] at H
              by_cases c13 : x6_2 < (x3_1.size : Int)
              · rw [if_pos c13] at H
                have c13b0 : decide (x6_2 < (x3_1.size : Int)) = true := decide_eq_true c13
                clear c13
                by_cases c14 : 0 ≤ x6_2
                · rw [if_pos c14] at H
                  have c14b0 : decide (0 ≤ x6_2) = true := decide_eq_true c14
                  clear c14
                  by_cases c16 : (bt x3_1 x6_2) = 0
                  · rw [if_pos c16] at H
                    have c16b0 : ((bt x3_1 x6_2) == 0) = true := beq_iff_eq.mpr c16
                    have c16b1 : ((bt x3_1 x6_2) != 0) = false := bne_eq_false_iff_eq.mpr c16
                    clear c16
                    have H' := Aside0.mk H
                    clear H
                    have p15 : 0 ≤ (x6_2 : Int) := of_decide_eq_true (by first | (with_reducible assumption) | assumption)
                    have q15 : x6_2 < (x3_1.size : Int) := of_decide_eq_true (by first | (with_reducible assumption) | assumption)
                    have hx15 := bt_at x3_1 x6_2
                    replace p15 := eq_true p15
                    replace q15 := eq_true q15
                    go_wp2
                    go_roundg k2
                    case measure => have := HK1.out; have := HK2.out; omega
                    case rel => exact ⟨(wrap64 (x6_2 + 1)), (by first | rfl | (simp; done) | (simp [*]; done)), H', ⟨by have := HK1.out; have := HK2.out; omega⟩, ⟨by repeat (first | (with_reducible first | exact HB.out | apply below_alloc | apply pw_below_drewN | apply below_drew1) | exact HB.out)⟩⟩
                  · rw [if_neg c16] at H
                    have c16b0 : ((bt x3_1 x6_2) == 0) = false := beq_eq_false_iff_ne.mpr c16
                    have c16b1 : ((bt x3_1 x6_2) != 0) = true := bne_iff_ne.mpr c16
                    exact absurd H (by simp)
                · rw [if_neg c14] at H
                  exact absurd H (by simp)
              · rw [if_neg c13] at H
                have c13b0 : decide (x6_2 < (x3_1.size : Int)) = false := decide_eq_false c13
                clear c13
                by_cases c17 : (x3_1.size : Int) ≥ (a0.size : Int)
                · rw [if_pos c17] at H
                  have c17b0 : decide ((a0.size : Int) ≤ (x3_1.size : Int)) = true := decide_eq_true c17
                  have c17b1 : decide (a0.size ≤ x3_1.size) = true := decide_eq_true (Int.ofNat_le.mp c17)
                  clear c17
                  by_cases c18 : (x3_1.size : Int) < (wrap64 ((a0.size : Int) + 32))
                  · rw [if_pos c18] at H
                    have c18b0 : decide ((x3_1.size : Int) < (wrap64 ((a0.size : Int) + 32))) = true := decide_eq_true c18
                    clear c18
                    by_cases c19 : 0 ≤ (a0.size : Int)
                    · rw [if_pos c19] at H
                      have c19b0 := eq_true c19
                      try (have c19b09 := c19b0; simp only [ByteArray.size_extract, Nat.min_self, Nat.sub_zero, Int.toNat_natCast] at c19b09)
                      have c19b1 : decide (0 ≤ (a0.size : Int)) = true := decide_eq_true c19
                      clear c19
                      by_cases c20 : (a0.size : Int) ≤ (x3_1.size : Int)
                      · rw [if_pos c20] at H
                        have c20b0 := eq_true c20
                        try (have c20b09 := c20b0; simp only [ByteArray.size_extract, Nat.min_self, Nat.sub_zero, Int.toNat_natCast] at c20b09)
                        have c20b1 : decide ((a0.size : Int) ≤ (x3_1.size : Int)) = true := decide_eq_true c20
                        clear c20
                        by_cases c21 : (x3_1.extract 0 ((a0.size : Int) : Int).toNat).toList = a0.toList
                        · rw [if_pos c21] at H
                          have c21b0 : ((x3_1.extract 0 ((a0.size : Int) : Int).toNat).toList == a0.toList) = true := beq_iff_eq.mpr c21
                          try (have c21b09 := c21b0; simp only [ByteArray.size_extract, Nat.min_self, Nat.sub_zero, Int.toNat_natCast] at c21b09)
                          have c21b1 : ((x3_1.extract 0 ((a0.size : Int) : Int).toNat).toList != a0.toList) = false := bne_eq_false_iff_eq.mpr c21
                          try (have c21b19 := c21b1; simp only [ByteArray.size_extract, Nat.min_self, Nat.sub_zero, Int.toNat_natCast] at c21b19)
                          clear c21
                          replace H := Option.bind_eq_some_iff.mp H
                          obtain ⟨t287, A220, H⟩ := H
                          replace H : (some t287) = some true := H
                          have A22 := Aside0.mk A220
                          clear A220
                          (have H9_ := Option.some.inj H; first | subst H9_ | (have h9_ := Aside0.mk H9_; clear H9_))
                          go_wp2_with (first | (go_at_call 17; (with_reducible refine (weirkeeperlaw06_awake.calls k2 _ A22.out).mono ?_); rintro e w23 ⟨rfl, hb⟩; have n0_ := Aside0.mk (below_step (by repeat (first | (with_reducible first | exact HB.out | apply below_alloc | apply pw_below_drewN | apply below_drew1) | exact HB.out)) hb); clear HB; have HB := n0_; clear n0_; (try clear hb); (try clear hb2); (try clear hk); (try clear hi)))
                          go_ret
                          exact ⟨by first | rfl | (simp only [h9_.out]; done) | (have h8_ := h9_.out; simp [h8_]; done) | (simp [errW_none, errW_some] <;> rfl) | (simp [*, errW_none, errW_some] <;> rfl), by repeat (first | (with_reducible first | exact HB.out | apply below_alloc | apply pw_below_drewN | apply below_drew1) | exact HB.out)⟩
                        · rw [if_neg c21] at H
                          have c21b0 : ((x3_1.extract 0 ((a0.size : Int) : Int).toNat).toList == a0.toList) = false := beq_eq_false_iff_ne.mpr c21
                          try (have c21b09 := c21b0; simp only [ByteArray.size_extract, Nat.min_self, Nat.sub_zero, Int.toNat_natCast] at c21b09)
                          have c21b1 : ((x3_1.extract 0 ((a0.size : Int) : Int).toNat).toList != a0.toList) = true := bne_iff_ne.mpr c21
                          try (have c21b19 := c21b1; simp only [ByteArray.size_extract, Nat.min_self, Nat.sub_zero, Int.toNat_natCast] at c21b19)
                          exact absurd H (by simp)
                      · rw [if_neg c20] at H
                        exact absurd H (by simp)
                    · rw [if_neg c19] at H
                      exact absurd H (by simp)
                  · rw [if_neg c18] at H
                    have c18b0 : decide ((x3_1.size : Int) < (wrap64 ((a0.size : Int) + 32))) = false := decide_eq_false c18
                    clear c18
                    exact absurd H (by simp)
                · rw [if_neg c17] at H
                  have c17b0 : decide ((a0.size : Int) ≤ (x3_1.size : Int)) = false := decide_eq_false c17
                  have c17b1 : decide (a0.size ≤ x3_1.size) = false := decide_eq_false (fun h => c17 (Int.ofNat_le.mpr h))
                  clear c17
                  exact absurd H (by simp)


end Go.Proofs.Ytpkapldkmleppaa.F
