/- Contracts of Go functions of the seat Ytpkapldkmleppaa: what a call comes to; no condition but those that each theorem names. -/
import Derived.Test.YtpkapldkmleppaaFPre
import Derived.Test.YtpkapldkmleppaaFblockC
import Derived.Test.YtpkapldkmleppaaFpack
namespace Go.Proofs.Ytpkapldkmleppaa.F
open Go.RowKit Go.Proofs.YtpkapldkmleppaaW.PrintWords Go.Proofs.YtpkapldkmleppaaW.PrintLast Go.Proofs.YtpkapldkmleppaaW.PrintMore
attribute [local go_sem] max2_int min2_int max_two min_two max_three min_three max_four min_four   -- for this text's walks alone
set_option linter.unusedVariables false
set_option linter.unusedSimpArgs false

/-! ### journal_Need: function 33 -/
def journal_Need.f (a0 : Int) : Option (Int) := if a0 < 0 then (some 0) else (if a0 > 1000 then (some 0) else (some (mx 1 (wrap64 (Int.tdiv (wrap64 ((wrap64 (a0 + 24)) - 1)) 24)))))
set_option maxHeartbeats 8000000 in
set_option maxRecDepth 100000 in
theorem journal_Need.calls (a0 : Int) (r : Int) (w : World) (h : journal_Need.f a0 = some r) :
    Calls Try.prog 33 #[.int .i64 a0] w fun e w' => e = .returned (.int .i64 r) ∧ Below w.heap.size w w' := by
  have HB := Aside0.mk (Below.refl w.heap.size w)
  have H : (if a0 < 0 then (some 0) else (if a0 > 1000 then (some 0) else (some (mx 1 (wrap64 (Int.tdiv (wrap64 ((wrap64 (a0 + 24)) - 1)) 24)))))) = some r := h
  clear h
  by_cases c2 : a0 < 0
  · rw [if_pos c2] at H
    have c2b0 : decide (a0 < 0) = true := decide_eq_true c2
    clear c2
    obtain rfl := Option.some.inj H
    go_enter Try.func33, Try.ntmps33
    go_wp2
    go_ret
    exact ⟨by first | rfl | (simp [errW_none, errW_some] <;> rfl) | (simp [*, errW_none, errW_some] <;> rfl), by repeat (first | (with_reducible first | exact HB.out | apply below_alloc | apply pw_below_drewN | apply below_drew1) | exact HB.out)⟩
  · rw [if_neg c2] at H
    have c2b0 : decide (a0 < 0) = false := decide_eq_false c2
    clear c2
    by_cases c3 : a0 > 1000
    · rw [if_pos c3] at H
      have c3b0 : decide (1000 < a0) = true := decide_eq_true c3
      clear c3
      obtain rfl := Option.some.inj H
      go_enter Try.func33, Try.ntmps33
      go_wp2
      go_ret
      exact ⟨by first | rfl | (simp [errW_none, errW_some] <;> rfl) | (simp [*, errW_none, errW_some] <;> rfl), by repeat (first | (with_reducible first | exact HB.out | apply below_alloc | apply pw_below_drewN | apply below_drew1) | exact HB.out)⟩
    · rw [if_neg c3] at H
      have c3b0 : decide (1000 < a0) = false := decide_eq_false c3
      clear c3
      obtain ⟨ji4, hji4⟩ : ∃ j_ : Int, (mx 1 (wrap64 (Int.tdiv (wrap64 ((wrap64 (a0 + 24)) - 1)) 24))) = j_ := ⟨_, rfl⟩
      replace H : (some ji4) = some r := by first | (rw [hji4] at H; exact H) | (simp only [hji4] at H ⊢; exact H)
      (try (have hji4l : 1 ≤ ji4 := by (rw [← hji4]; unfold mx; (repeat' split) <;> omega)))
      (try (have hji4m : 0 ≤ ji4 := by omega))
      have hji4_ : (if 1 < (wrap64 (Int.tdiv (wrap64 ((wrap64 (a0 + 24)) - 1)) 24)) then (wrap64 (Int.tdiv (wrap64 ((wrap64 (a0 + 24)) - 1)) 24)) else 1) = ji4 := hji4
      obtain rfl := Option.some.inj H
      go_enter Try.func33, Try.ntmps33
      go_wp2
      go_ret
      exact ⟨by first | rfl | (simp [errW_none, errW_some] <;> rfl) | (simp only [← hji4]; first | rfl | (simp [errW_none, errW_some] <;> rfl)) | (simp [*, errW_none, errW_some] <;> rfl), by repeat (first | (with_reducible first | exact HB.out | apply below_alloc | apply pw_below_drewN | apply below_drew1) | exact HB.out)⟩

/-! ### journal_aging: function 52 -/
def journal_aging.f (a0 : Int) : Option (Bool) := if a0 ≥ 1 then (some (decide (a0 ≤ 2147483647))) else (some false)
set_option maxHeartbeats 8000000 in
set_option maxRecDepth 100000 in
theorem journal_aging.calls (a0 : Int) (r : Bool) (w : World) (h : journal_aging.f a0 = some r) :
    Calls Try.prog 52 #[.int .i64 a0] w fun e w' => e = .returned (.bool r) ∧ Drawn0 w w' := by
  have H : (if a0 ≥ 1 then (some (decide (a0 ≤ 2147483647))) else (some false)) = some r := h
  clear h
  by_cases c2 : a0 ≥ 1
  · rw [if_pos c2] at H
    have c2b0 : decide (1 ≤ a0) = true := decide_eq_true c2
    clear c2
    obtain rfl := Option.some.inj H
    go_enter Try.func52, Try.ntmps52
    go_wp2
    go_ret
    exact ⟨by first | rfl | (simp; done) | (simp [*]; done), by repeat (first | exact Drawn0.refl _ | apply Drawn0.step)⟩
  · rw [if_neg c2] at H
    have c2b0 : decide (1 ≤ a0) = false := decide_eq_false c2
    clear c2
    obtain rfl := Option.some.inj H
    go_enter Try.func52, Try.ntmps52
    go_wp2
    go_ret
    exact ⟨by first | rfl | (simp; done) | (simp [*]; done), by repeat (first | exact Drawn0.refl _ | apply Drawn0.step)⟩

/-! ### journal_placed: function 53 -/
def journal_placed.f (a0 : Int) : Option (Bool) := if a0 ≥ 0 then (some (decide (a0 ≤ 128))) else (some false)
set_option maxHeartbeats 8000000 in
set_option maxRecDepth 100000 in
theorem journal_placed.calls (a0 : Int) (r : Bool) (w : World) (h : journal_placed.f a0 = some r) :
    Calls Try.prog 53 #[.int .i64 a0] w fun e w' => e = .returned (.bool r) ∧ Drawn0 w w' := by
  have H : (if a0 ≥ 0 then (some (decide (a0 ≤ 128))) else (some false)) = some r := h
  clear h
  by_cases c2 : a0 ≥ 0
  · rw [if_pos c2] at H
    have c2b0 : decide (0 ≤ a0) = true := decide_eq_true c2
    clear c2
    obtain rfl := Option.some.inj H
    go_enter Try.func53, Try.ntmps53
    go_wp2
    go_ret
    exact ⟨by first | rfl | (simp; done) | (simp [*]; done), by repeat (first | exact Drawn0.refl _ | apply Drawn0.step)⟩
  · rw [if_neg c2] at H
    have c2b0 : decide (0 ≤ a0) = false := decide_eq_false c2
    clear c2
    obtain rfl := Option.some.inj H
    go_enter Try.func53, Try.ntmps53
    go_wp2
    go_ret
    exact ⟨by first | rfl | (simp; done) | (simp [*]; done), by repeat (first | exact Drawn0.refl _ | apply Drawn0.step)⟩

/-! ### journal_piece: function 54 -/
def journal_piece.l0 : Nat → ByteArray → ByteArray → List Int → Int → Int → Option (ByteArray)
  | 0, _, _, _, _, _ => none
  | k + 1, x2, x7, x17, x18, x19 => if x19 < x18 then (if 0 ≤ x19 then (if x19 < (x17.length : Int) then (if x19 = 0 then ((pack_Num.f k (IntKind.u64.wrap (rd x17 x19)) 4).bind fun bt351 => (if x7.size + bt351.1.size ≤ 9223372036854775807 then (journal_piece.l0 k x2 (x7 ++ bt351.1) x17 x18 (wrap64 (x19 + 1))) else (none))) else ((pack_Num.f k (IntKind.u64.wrap (rd x17 x19)) 2).bind fun bt353 => (if x7.size + bt353.1.size ≤ 9223372036854775807 then (journal_piece.l0 k x2 (x7 ++ bt353.1) x17 x18 (wrap64 (x19 + 1))) else (none)))) else (none)) else (none)) else (if 0 ≤ (mn 24 (x2.size : Int)) then (if (mn 24 (x2.size : Int)) ≤ (x2.size : Int) then (if x7.size + (x2.extract 0 ((mn 24 (x2.size : Int)) : Int).toNat).size ≤ 9223372036854775807 then ((block_Cut.f (x7 ++ (x2.extract 0 ((mn 24 (x2.size : Int)) : Int).toNat))).bind fun t355 => (if 0 < (t355.length : Int) then (some (rdOf ByteArray.empty t355 0)) else (none))) else (none)) else (none)) else (none))
def journal_piece.f (k : Nat) (a0 : Int) (a1 : Int) (a2 : ByteArray) : Option (ByteArray) := (some (([a0, a1, (a2.size : Int)] : List Int) : List Int)).bind fun y347 => (journal_piece.l0 k a2 (⟨#[]⟩ : ByteArray) y347 (y347.length : Int) 0)
theorem journal_piece.mono_l : ∀ k, (∀ y0 y1 y2 y3 y4, LeO (journal_piece.l0 k y0 y1 y2 y3 y4) (journal_piece.l0 (k + 1) y0 y1 y2 y3 y4))
  | 0 => fun _ _ _ _ _ r h => by simp [journal_piece.l0] at h
  | k + 1 => by
    have ih0 := journal_piece.mono_l k
    · intro y0 y1 y2 y3 y4
      unfold journal_piece.l0
      repeat' first
      | (with_reducible exact ih0 _ _ _ _ _)
      | (with_reducible exact pack_Num.mono _ _ _)
      | (with_reducible exact LeO.refl _)
      | (with_reducible exact LeO.none _)
      | (with_reducible refine LeO.ite ?_ ?_)
      | (with_reducible refine LeO.bind ?_ (fun _ => ?_))
      | exact ih0 _ _ _ _ _
      | exact pack_Num.mono _ _ _
      | exact LeO.none _
      | refine LeO.ite ?_ ?_
      | refine LeO.bind ?_ (fun _ => ?_)
theorem journal_piece.mono : ∀ a0 a1 a2 k, LeO (journal_piece.f k a0 a1 a2) (journal_piece.f (k + 1) a0 a1 a2) := by
  intro a0 a1 a2 k
  have ih0 := journal_piece.mono_l k
  unfold journal_piece.f
  repeat' first
      | (with_reducible exact ih0 _ _ _ _ _)
      | (with_reducible exact pack_Num.mono _ _ _)
      | (with_reducible exact LeO.refl _)
      | (with_reducible exact LeO.none _)
      | (with_reducible refine LeO.ite ?_ ?_)
      | (with_reducible refine LeO.bind ?_ (fun _ => ?_))
      | exact ih0 _ _ _ _ _
      | exact pack_Num.mono _ _ _
      | exact LeO.none _
      | refine LeO.ite ?_ ?_
      | refine LeO.bind ?_ (fun _ => ?_)
set_option maxHeartbeats 8000000 in
set_option maxRecDepth 100000 in
theorem journal_piece.calls (k : Nat) (a0 : Int) (a1 : Int) (a2 : ByteArray) (r : ByteArray) (w : World) (h : journal_piece.f k a0 a1 a2 = some r) :
    Calls Try.prog 54 #[.int .i64 a0, .int .i64 a1, .string a2] w fun e w' => e = .returned (.string r) ∧ Below w.heap.size w w' := by
  have HB := Aside0.mk (Below.refl w.heap.size w)
  have H : ((some (([a0, a1, (a2.size : Int)] : List Int) : List Int)).bind fun y347 => (journal_piece.l0 k a2 (⟨#[]⟩ : ByteArray) y347 (y347.length : Int) 0)) = some r := h
  clear h
  obtain ⟨y347, hy347⟩ : ∃ y_ : List Int, y_ = (([a0, a1, (a2.size : Int)] : List Int)) := ⟨_, rfl⟩
  replace H : (journal_piece.l0 k a2 (⟨#[]⟩ : ByteArray) y347 (y347.length : Int) 0) = some r := by first | (rw [hy347]; with_reducible exact H) | (have H2_ := (Option.bind_some _ _).symm.trans H; rw [hy347]; with_reducible exact H2_) | (have H2_ := (Option.bind_some _ _).symm.trans H; with_reducible exact H2_) | with_reducible exact H | (rw [hy347]; exact H) | exact H
  have Ny347 := Aside0.mk hy347
  clear hy347
  have H' := Aside0.mk H
  clear H
  go_enter Try.func54, Try.ntmps54
  go_wp2_with (first | ((with_reducible refine gate_dst (N := 17) rfl ?_); refine Kd.R_lit (Kd.int .i64) _ 3 ?hg (N := 17) ?hd (xs := ([a0, a1, (a2.size : Int)] : List Int)) (inner := [.int .i64 a0, .int .i64 a1, .int .i64 (a2.size : Int)]) (ok := fun _ => True) (okp := fun _ => True) ?hr ?hp (fun _ hk => hk) trivial (Below.refl _ _) (Nat.le_refl _) (by simp) ?_; (case hd => rfl); (case hg => rfl); (case hr => first | (go_simp; done) | (go_simp; rfl)); (case hp => exact (Reps.one (show Kd.M (Kd.int .i64) _ _ _ a0 [.int .i64 a0] from rfl) (Reps.one (show Kd.M (Kd.int .i64) _ _ _ a1 [.int .i64 a1] from rfl) (Reps.one (show Kd.M (Kd.int .i64) _ _ _ (a2.size : Int) [.int .i64 (a2.size : Int)] from rfl) (Reps.none _ _))))); intro v348 w4 ho5 hb hg_ hnew_; clear hg_ hnew_; (first | rw [← Ny347.out] at ho5 | (simp only [Int.reduceToNat] at ho5; rw [← Ny347.out] at ho5)); have n0_ := Aside0.mk (Kd.R_lower ho5 (below_size (by repeat (first | (with_reducible first | exact HB.out | apply below_alloc | apply pw_below_drewN | apply below_drew1) | exact HB.out)))); have n1_ := Aside0.mk (below_step (by repeat (first | (with_reducible first | exact HB.out | apply below_alloc | apply pw_below_drewN | apply below_drew1) | exact HB.out)) hb); clear HB; have HO349 := n0_; have HB := n1_; clear n0_ n1_; clear hb ho5; obtain ⟨Ao6, co6, eo6⟩ := Kd.R_slice HO349.out; subst eo6))
  go_loopg [7, 19] k (fun kq v7 v19 w' => ∃ (x7_1 : ByteArray) (x19_1 : Int), v7 = .string x7_1 ∧ v19 = .int .i64 x19_1 ∧ Aside0 (journal_piece.l0 kq a2 x7_1 y347 (y347.length : Int) x19_1 = some r) ∧ Aside0 (kq ≤ k) ∧ Aside0 (Kd.R (Kd.int .i64) 3 w' w.heap.size (fun _ => True) (.slice Ao6 y347.length co6) y347) ∧ Aside0 (Below w.heap.size w w'))
  case atStart => exact ⟨((⟨#[]⟩ : ByteArray)), (0), (by first | rfl | (simp; done) | (simp [*]; done)), (by first | rfl | (simp; done) | (simp [*]; done)), H', ⟨Nat.le_refl _⟩, ⟨by (with_reducible repeat (first | apply Kd.R_alloc | apply Kd.R_drewN | apply Kd.R_drew)); exact HO349.out⟩, ⟨by repeat (first | (with_reducible first | exact HB.out | apply below_alloc | apply pw_below_drewN | apply below_drew1) | exact HB.out)⟩⟩
  case round =>
    clear H'
    try clear p2
    try clear c5
    obtain ⟨x7_1, x19_1, rfl, rfl, HA, HK1, HO_17, HB⟩ := hrel
    cases gk with
    | zero => exact absurd HA.out (by simp [journal_piece.l0])
    | succ k1 =>
      have H := HA.out
      clear HA
      simp only [journal_piece.l0] at H
      by_cases c7 : x19_1 < (y347.length : Int)
      · rw [if_pos c7] at H
        have c7b0 : decide (x19_1 < (y347.length : Int)) = true := decide_eq_true c7
        clear c7
        by_cases c8 : 0 ≤ x19_1
        · rw [if_pos c8] at H
          have c8b0 : decide (0 ≤ x19_1) = true := decide_eq_true c8
          clear c8
          by_cases c9 : x19_1 < (y347.length : Int)
          · rw [if_pos c9] at H
            have c9b0 : decide (x19_1 < (y347.length : Int)) = true := decide_eq_true c9
            clear c9
            by_cases c10 : x19_1 = 0
            · rw [if_pos c10] at H
              have c10b0 : (x19_1 == 0) = true := beq_iff_eq.mpr c10
              have c10b1 : (x19_1 != 0) = false := bne_eq_false_iff_eq.mpr c10
              clear c10
              replace H := Option.bind_eq_some_iff.mp H
              obtain ⟨⟨t351, t352⟩, A110, H⟩ := H
              replace H : (if x7_1.size + t351.size ≤ 9223372036854775807 then (journal_piece.l0 k1 a2 (x7_1 ++ t351) y347 (y347.length : Int) (wrap64 (x19_1 + 1))) else (none)) = some r := H
              have A11 := Aside0.mk A110
              clear A110
              by_cases c12 : x7_1.size + t351.size ≤ 9223372036854775807
              · rw [if_pos c12] at H
                have c12b0 := eq_true c12
                have c12b1 : decide (x7_1.size + t351.size ≤ 9223372036854775807) = true := decide_eq_true c12
                try have c12b2 : (9223372036854775807 < x7_1.size + t351.size) = False := eq_false (Nat.not_lt.2 c12)
                clear c12
                have H' := Aside0.mk H
                clear H
                have p350 : 0 ≤ (x19_1 : Int) := of_decide_eq_true (by first | (with_reducible assumption) | assumption)
                have q350 : x19_1 < (y347.length : Int) := of_decide_eq_true (by first | (with_reducible assumption) | assumption)
                obtain ⟨ad350, e350, hx350_0⟩ := Kd.at_int (Kd.R_reads' HO_17.out).2.2 x19_1 p350 q350
                cases e350
                replace p350 := eq_true p350
                replace q350 := eq_true q350
                go_wp2_with (first | ((with_reducible refine gate_callee (f := 63) rfl ?_); refine goesL_ (some 30) rfl rfl Try.func63 (by kernel_rfl) rfl #[.int .u64 (IntKind.u64.wrap (rd y347 x19_1)), .int .i64 4] rfl (by (try simp only [List.map_toArray, List.map_cons, List.map_nil]); first | done | rfl | (simp only [List.length_drop, List.length_take]; rfl)) ?_; (with_reducible refine (pack_Num.calls k1 (IntKind.u64.wrap (rd y347 x19_1)) 4 t351 t352 _ A11.out).mono ?_); rintro e w13 ⟨rfl, hb⟩; refine ⟨_, rfl, ?_⟩; have n0_ := Aside0.mk (Kd.R_below (by (with_reducible repeat (first | apply Kd.R_alloc | apply Kd.R_drewN | apply Kd.R_drew)); exact HO_17.out) hb); have n1_ := Aside0.mk (below_step (by repeat (first | (with_reducible first | exact HB.out | apply below_alloc | apply pw_below_drewN | apply below_drew1) | exact HB.out)) hb); clear HO_17; clear HB; have HO_17 := n0_; have HB := n1_; clear n0_ n1_; (try clear hb); (try clear hb2); (try clear hk); (try clear hi)))
                go_roundg k1
                case measure => have := HK1.out; omega
                case rel => exact ⟨(x7_1 ++ t351), (wrap64 (x19_1 + 1)), (by first | rfl | (simp; done) | (simp [*]; done)), (by first | rfl | (simp; done) | (simp [*]; done)), H', ⟨by have := HK1.out; omega⟩, ⟨by (with_reducible repeat (first | apply Kd.R_alloc | apply Kd.R_drewN | apply Kd.R_drew)); exact HO_17.out⟩, ⟨by repeat (first | (with_reducible first | exact HB.out | apply below_alloc | apply pw_below_drewN | apply below_drew1) | exact HB.out)⟩⟩
              · rw [if_neg c12] at H
                exact absurd H (by simp)
            · rw [if_neg c10] at H
              have c10b0 : (x19_1 == 0) = false := beq_eq_false_iff_ne.mpr c10
              have c10b1 : (x19_1 != 0) = true := bne_iff_ne.mpr c10
              replace H := Option.bind_eq_some_iff.mp H
              obtain ⟨⟨t353, t354⟩, A140, H⟩ := H
              replace H : (if x7_1.size + t353.size ≤ 9223372036854775807 then (journal_piece.l0 k1 a2 (x7_1 ++ t353) y347 (y347.length : Int) (wrap64 (x19_1 + 1))) else (none)) = some r := H
              have A14 := Aside0.mk A140
              clear A140
              by_cases c15 : x7_1.size + t353.size ≤ 9223372036854775807
              · rw [if_pos c15] at H
                have c15b0 := eq_true c15
                have c15b1 : decide (x7_1.size + t353.size ≤ 9223372036854775807) = true := decide_eq_true c15
                try have c15b2 : (9223372036854775807 < x7_1.size + t353.size) = False := eq_false (Nat.not_lt.2 c15)
                clear c15
                have H' := Aside0.mk H
                clear H
                have p350 : 0 ≤ (x19_1 : Int) := of_decide_eq_true (by first | (with_reducible assumption) | assumption)
                have q350 : x19_1 < (y347.length : Int) := of_decide_eq_true (by first | (with_reducible assumption) | assumption)
                obtain ⟨ad350, e350, hx350_0⟩ := Kd.at_int (Kd.R_reads' HO_17.out).2.2 x19_1 p350 q350
                cases e350
                replace p350 := eq_true p350
                replace q350 := eq_true q350
                go_wp2_with (first | ((with_reducible refine gate_callee (f := 63) rfl ?_); refine goesL_ (some 30) rfl rfl Try.func63 (by kernel_rfl) rfl #[.int .u64 (IntKind.u64.wrap (rd y347 x19_1)), .int .i64 2] rfl (by (try simp only [List.map_toArray, List.map_cons, List.map_nil]); first | done | rfl | (simp only [List.length_drop, List.length_take]; rfl)) ?_; (with_reducible refine (pack_Num.calls k1 (IntKind.u64.wrap (rd y347 x19_1)) 2 t353 t354 _ A14.out).mono ?_); rintro e w16 ⟨rfl, hb⟩; refine ⟨_, rfl, ?_⟩; have n0_ := Aside0.mk (Kd.R_below (by (with_reducible repeat (first | apply Kd.R_alloc | apply Kd.R_drewN | apply Kd.R_drew)); exact HO_17.out) hb); have n1_ := Aside0.mk (below_step (by repeat (first | (with_reducible first | exact HB.out | apply below_alloc | apply pw_below_drewN | apply below_drew1) | exact HB.out)) hb); clear HO_17; clear HB; have HO_17 := n0_; have HB := n1_; clear n0_ n1_; (try clear hb); (try clear hb2); (try clear hk); (try clear hi)))
                go_roundg k1
                case measure => have := HK1.out; omega
                case rel => exact ⟨(x7_1 ++ t353), (wrap64 (x19_1 + 1)), (by first | rfl | (simp; done) | (simp [*]; done)), (by first | rfl | (simp; done) | (simp [*]; done)), H', ⟨by have := HK1.out; omega⟩, ⟨by (with_reducible repeat (first | apply Kd.R_alloc | apply Kd.R_drewN | apply Kd.R_drew)); exact HO_17.out⟩, ⟨by repeat (first | (with_reducible first | exact HB.out | apply below_alloc | apply pw_below_drewN | apply below_drew1) | exact HB.out)⟩⟩
              · rw [if_neg c15] at H
                exact absurd H (by simp)
          · rw [if_neg c9] at H
            exact absurd H (by simp)
        · rw [if_neg c8] at H
          exact absurd H (by simp)
      · rw [if_neg c7] at H
        have c7b0 : decide (x19_1 < (y347.length : Int)) = false := decide_eq_false c7
        clear c7
        obtain ⟨ji17, hji17⟩ : ∃ j_ : Int, (mn 24 (a2.size : Int)) = j_ := ⟨_, rfl⟩
        replace H : (if 0 ≤ (ji17) then (if (ji17) ≤ (a2.size : Int) then (if x7_1.size + (a2.extract 0 ((ji17) : Int).toNat).size ≤ 9223372036854775807 then ((block_Cut.f (x7_1 ++ (a2.extract 0 ((ji17) : Int).toNat))).bind fun t355 => (if 0 < (t355.length : Int) then (some (rdOf ByteArray.empty t355 0)) else (none))) else (none)) else (none)) else (none)) = some r := by first | (rw [hji17] at H; exact H) | (simp only [hji17] at H ⊢; exact H)
        have hji17_ : (if (a2.size : Int) < 24 then (a2.size : Int) else 24) = ji17 := hji17
        by_cases c18 : 0 ≤ (ji17)
        · rw [if_pos c18] at H
          have c18b0 := eq_true c18
          have c18b1 : decide (0 ≤ (ji17)) = true := decide_eq_true c18
          clear c18
          by_cases c19 : (ji17) ≤ (a2.size : Int)
          · rw [if_pos c19] at H
            have c19b0 := eq_true c19
            have c19b1 : decide ((ji17) ≤ (a2.size : Int)) = true := decide_eq_true c19
            clear c19
            by_cases c20 : x7_1.size + (a2.extract 0 ((ji17) : Int).toNat).size ≤ 9223372036854775807
            · rw [if_pos c20] at H
              have c20b0 := eq_true c20
              have c20b1 : decide (x7_1.size + (a2.extract 0 ((ji17) : Int).toNat).size ≤ 9223372036854775807) = true := decide_eq_true c20
              have c20b8 : (9223372036854775807 < x7_1.size + ji17.toNat) = False := eq_false (by rw [ByteArray.size_extract] at c20; have h1 := of_decide_eq_true c18b1; have h2 := of_decide_eq_true c19b1; omega)
              try have c20b2 : (9223372036854775807 < x7_1.size + (a2.extract 0 ((ji17) : Int).toNat).size) = False := eq_false (Nat.not_lt.2 c20)
              clear c20
              try (have c20b9 := c20b2; simp only [ByteArray.size_append, ByteArray.size_extract, Nat.min_self] at c20b9)
              replace H := Option.bind_eq_some_iff.mp H
              obtain ⟨t355, A210, H⟩ := H
              replace H : (if 0 < (t355.length : Int) then (some (rdOf ByteArray.empty t355 0)) else (none)) = some r := H
              have A21 := Aside0.mk A210
              clear A210
              by_cases c22 : 0 < (t355.length : Int)
              · rw [if_pos c22] at H
                have c22b0 : decide (0 < (t355.length : Int)) = true := decide_eq_true c22
                have c22b1 : decide (0 < t355.length) = true := decide_eq_true (by omega)
                clear c22
                obtain rfl := Option.some.inj H
                go_wp2_with (first | ((with_reducible refine gate_callee (f := 26) rfl ?_); refine goesL_ (some 44) rfl rfl Try.func26 (by kernel_rfl) rfl #[.string (x7_1 ++ (a2.extract 0 ((ji17) : Int).toNat))] rfl (by (try simp only [List.map_toArray, List.map_cons, List.map_nil]); first | done | (simp only [hji17]; rfl) | rfl | (simp only [List.length_drop, List.length_take]; rfl)) ?_; (with_reducible refine (block_Cut.calls (x7_1 ++ (a2.extract 0 ((ji17) : Int).toNat)) t355 _ A21.out).mono ?_); rintro e w23 ⟨v356, rfl, ho0, hb⟩; refine ⟨_, rfl, ?_⟩; have n0_ := Aside0.mk (Kd.R_below (by (with_reducible repeat (first | apply Kd.R_alloc | apply Kd.R_drewN | apply Kd.R_drew)); exact HO_17.out) hb); have n1_ := Aside0.mk (Kd.R_lower ho0 (below_size (by repeat (first | (with_reducible first | exact HB.out | apply below_alloc | apply pw_below_drewN | apply below_drew1) | exact HB.out)))); have n2_ := Aside0.mk (below_step (by repeat (first | (with_reducible first | exact HB.out | apply below_alloc | apply pw_below_drewN | apply below_drew1) | exact HB.out)) hb); clear HO_17; clear HB; have HO_17 := n0_; have HO357 := n1_; have HB := n2_; clear n0_ n1_ n2_; (try clear hb); (try clear hb2); (try clear hk); (try clear hi); (try clear ho0); obtain ⟨Ao24, co24, eo24⟩ := Kd.R_slice HO357.out; subst eo24; have p358 : 0 ≤ (0 : Int) := (by omega); have q358 : 0 < (t355.length : Int) := of_decide_eq_true (by first | (with_reducible assumption) | assumption); obtain ⟨ad358, e358, hx358_0⟩ := Kd.at_string (Kd.R_reads' HO357.out).2.2 0 p358 q358; cases e358; have qi358 : (0 < t355.length) = True := eq_true (by omega); (try rw [show ((0 : Int)).toNat = 0 from rfl] at hx358_0); (try rw [Addr.add_zero'] at hx358_0); replace p358 := eq_true p358; replace q358 := eq_true q358))
                go_ret
                exact ⟨by first | rfl | (simp [errW_none, errW_some] <;> rfl) | (simp only [← hji17]; first | rfl | (simp [errW_none, errW_some] <;> rfl)) | (simp [*, errW_none, errW_some] <;> rfl), by repeat (first | (with_reducible first | exact HB.out | apply below_alloc | apply pw_below_drewN | apply below_drew1) | exact HB.out)⟩
              · rw [if_neg c22] at H
                exact absurd H (by simp)
            · rw [if_neg c20] at H
              exact absurd H (by simp)
          · rw [if_neg c19] at H
            exact absurd H (by simp)
        · rw [if_neg c18] at H
          exact absurd H (by simp)

/-! ### journal_Pieces: function 28 -/
mutual
def journal_Pieces.j0 : Nat → Int → Int → ByteArray → Bool → Option (List ByteArray × Int)
  | 0, _, _, _, _ => none
  | k + 1, x0, x1, x2, x9 => if x9 = true then (some (([] : List ByteArray), 1)) else ((journal_Need.f (x2.size : Int)).bind fun t361 => (if (wrap64 (x1 + t361)) > 128 then (some (([] : List ByteArray), 6)) else (journal_Pieces.l0 k x0 x1 x2 ([] : List ByteArray))))
def journal_Pieces.l0 : Nat → Int → Int → ByteArray → List ByteArray → Option (List ByteArray × Int)
  | 0, _, _, _, _ => none
  | k + 1, x0, x1, x2, x8 => (journal_piece.f k x0 (wrap64 (x1 + (x8.length : Int))) x2).bind fun t362 => (if x8.length < 8796093022208 then ((some (x8 ++ [t362] : List ByteArray)).bind fun y363 => (if (x2.size : Int) ≤ 24 then (some (y363, 0)) else (if 24 ≤ (x2.size : Int) then (journal_Pieces.l0 k x0 x1 (x2.extract 24 x2.size) y363) else (none)))) else (none))
end
def journal_Pieces.f (k : Nat) (a0 : Int) (a1 : Int) (a2 : ByteArray) : Option (List ByteArray × Int) := (journal_aging.f a0).bind fun t359 => (if t359 = true then ((journal_placed.f a1).bind fun t360 => (if t360 = true then (journal_Pieces.j0 k a0 a1 a2 (decide ((a2.size : Int) > 1000))) else (journal_Pieces.j0 k a0 a1 a2 true))) else (journal_Pieces.j0 k a0 a1 a2 true))
theorem journal_Pieces.mono_l : ∀ k, (∀ y0 y1 y2 y3, LeO (journal_Pieces.j0 k y0 y1 y2 y3) (journal_Pieces.j0 (k + 1) y0 y1 y2 y3)) ∧ (∀ y0 y1 y2 y3, LeO (journal_Pieces.l0 k y0 y1 y2 y3) (journal_Pieces.l0 (k + 1) y0 y1 y2 y3))
  | 0 => ⟨fun _ _ _ _ r h => by simp [journal_Pieces.j0] at h, fun _ _ _ _ r h => by simp [journal_Pieces.l0] at h⟩
  | k + 1 => by
    obtain ⟨ih0, ih1⟩ := journal_Pieces.mono_l k
    refine ⟨?_, ?_⟩
    · intro y0 y1 y2 y3
      unfold journal_Pieces.j0
      repeat' first
      | (with_reducible exact ih0 _ _ _ _)
      | (with_reducible exact ih1 _ _ _ _)
      | (with_reducible exact journal_piece.mono _ _ _ _)
      | (with_reducible exact LeO.refl _)
      | (with_reducible exact LeO.none _)
      | (with_reducible refine LeO.ite ?_ ?_)
      | (with_reducible refine LeO.bind ?_ (fun _ => ?_))
      | exact ih0 _ _ _ _
      | exact ih1 _ _ _ _
      | exact journal_piece.mono _ _ _ _
      | exact LeO.none _
      | refine LeO.ite ?_ ?_
      | refine LeO.bind ?_ (fun _ => ?_)
    · intro y0 y1 y2 y3
      unfold journal_Pieces.l0
      repeat' first
      | (with_reducible exact ih0 _ _ _ _)
      | (with_reducible exact ih1 _ _ _ _)
      | (with_reducible exact journal_piece.mono _ _ _ _)
      | (with_reducible exact LeO.refl _)
      | (with_reducible exact LeO.none _)
      | (with_reducible refine LeO.ite ?_ ?_)
      | (with_reducible refine LeO.bind ?_ (fun _ => ?_))
      | exact ih0 _ _ _ _
      | exact ih1 _ _ _ _
      | exact journal_piece.mono _ _ _ _
      | exact LeO.none _
      | refine LeO.ite ?_ ?_
      | refine LeO.bind ?_ (fun _ => ?_)
theorem journal_Pieces.mono : ∀ a0 a1 a2 k, LeO (journal_Pieces.f k a0 a1 a2) (journal_Pieces.f (k + 1) a0 a1 a2) := by
  intro a0 a1 a2 k
  obtain ⟨ih0, ih1⟩ := journal_Pieces.mono_l k
  unfold journal_Pieces.f
  repeat' first
      | (with_reducible exact ih0 _ _ _ _)
      | (with_reducible exact ih1 _ _ _ _)
      | (with_reducible exact journal_piece.mono _ _ _ _)
      | (with_reducible exact LeO.refl _)
      | (with_reducible exact LeO.none _)
      | (with_reducible refine LeO.ite ?_ ?_)
      | (with_reducible refine LeO.bind ?_ (fun _ => ?_))
      | exact ih0 _ _ _ _
      | exact ih1 _ _ _ _
      | exact journal_piece.mono _ _ _ _
      | exact LeO.none _
      | refine LeO.ite ?_ ?_
      | refine LeO.bind ?_ (fun _ => ?_)
set_option maxHeartbeats 8000000 in
set_option maxRecDepth 100000 in
theorem journal_Pieces.calls (k : Nat) (a0 : Int) (a1 : Int) (a2 : ByteArray) (r1 : List ByteArray) (r2 : Int) (w : World) (h : journal_Pieces.f k a0 a1 a2 = some (r1, r2)) :
    Calls Try.prog 28 #[.int .i64 a0, .int .i64 a1, .string a2] w fun e w' => ∃ v0_ : Value, e = .returned (.tuple #[v0_, .int .i64 r2]) ∧ Kd.R Kd.string 9 w' w.heap.size (fun _ => True) v0_ r1 ∧ Below w.heap.size w w' := by
  have HB := Aside0.mk (Below.refl w.heap.size w)
  have H : ((journal_aging.f a0).bind fun t359 => (if t359 = true then ((journal_placed.f a1).bind fun t360 => (if t360 = true then (journal_Pieces.j0 k a0 a1 a2 (decide ((a2.size : Int) > 1000))) else (journal_Pieces.j0 k a0 a1 a2 true))) else (journal_Pieces.j0 k a0 a1 a2 true))) = some (r1, r2) := h
  clear h
  have HC4 := Aside0.mk H
  clear H
  go_enter Try.func28, Try.ntmps28
  go_upto_region 1 with (fail)
  go_cut [9] (fun v9 wc => ∃ (kq : Nat) (x9_3 : Bool), v9 = .bool x9_3 ∧ Aside0 (journal_Pieces.j0 kq a0 a1 a2 x9_3 = some (r1, r2)) ∧ Aside0 (kq ≤ k) ∧ Aside0 (Below w.heap.size w wc))
  case first =>
    have H := HC4.out
    clear HC4
    replace H := Option.bind_eq_some_iff.mp H
    obtain ⟨t359, A50, H⟩ := H
    replace H : (if t359 = true then ((journal_placed.f a1).bind fun t360 => (if t360 = true then (journal_Pieces.j0 k a0 a1 a2 (decide ((a2.size : Int) > 1000))) else (journal_Pieces.j0 k a0 a1 a2 true))) else (journal_Pieces.j0 k a0 a1 a2 true)) = some (r1, r2) := H
    have A5 := Aside0.mk A50
    clear A50
    by_cases c6 : t359 = true
    · subst c6
      have H1 : ((journal_placed.f a1).bind fun t360 => (if t360 = true then (journal_Pieces.j0 k a0 a1 a2 (decide ((a2.size : Int) > 1000))) else (journal_Pieces.j0 k a0 a1 a2 true))) = some (r1, r2) := by rw [if_pos rfl] at H; exact H
      clear H
      have H := H1
      clear H1
      replace H := Option.bind_eq_some_iff.mp H
      obtain ⟨t360, A70, H⟩ := H
      replace H : (if t360 = true then (journal_Pieces.j0 k a0 a1 a2 (decide ((a2.size : Int) > 1000))) else (journal_Pieces.j0 k a0 a1 a2 true)) = some (r1, r2) := H
      have A7 := Aside0.mk A70
      clear A70
      by_cases c8 : t360 = true
      · subst c8
        have H1 : (journal_Pieces.j0 k a0 a1 a2 (decide ((a2.size : Int) > 1000))) = some (r1, r2) := by rw [if_pos rfl] at H; exact H
        clear H
        have H := H1
        clear H1
        have H' := Aside0.mk H
        clear H
        go_wp2_with (first | ((with_reducible refine gate_callee (f := 52) rfl ?_); refine goesL_ (some 11) rfl rfl Try.func52 (by kernel_rfl) rfl #[.int .i64 a0] rfl (by (try simp only [List.map_toArray, List.map_cons, List.map_nil]); first | done | rfl | (simp only [List.length_drop, List.length_take]; rfl)) ?_; (with_reducible refine (journal_aging.calls a0 true _ A5.out).mono ?_); rintro e w' ⟨rfl, ⟨nd, rfl⟩⟩; refine ⟨_, rfl, ?_⟩) | (go_at_call 53; (with_reducible refine (journal_placed.calls a1 true _ A7.out).mono ?_); rintro e w' ⟨rfl, ⟨nd, rfl⟩⟩))
        go_meet
        case rel => exact ⟨_, (decide ((a2.size : Int) > 1000)), (by first | rfl | (simp; done) | (simp [*]; done)), H', ⟨by first | omega | exact Nat.le_refl _⟩, ⟨by repeat (first | (with_reducible first | exact HB.out | apply below_alloc | apply pw_below_drewN | apply below_drew1) | exact HB.out)⟩⟩
      · replace c8 := Bool.eq_false_iff.mpr c8
        subst c8
        have H1 : (journal_Pieces.j0 k a0 a1 a2 true) = some (r1, r2) := by rw [if_neg (show ¬ (false = true) by decide)] at H; exact H
        clear H
        have H := H1
        clear H1
        have H' := Aside0.mk H
        clear H
        go_wp2_with (first | ((with_reducible refine gate_callee (f := 52) rfl ?_); refine goesL_ (some 11) rfl rfl Try.func52 (by kernel_rfl) rfl #[.int .i64 a0] rfl (by (try simp only [List.map_toArray, List.map_cons, List.map_nil]); first | done | rfl | (simp only [List.length_drop, List.length_take]; rfl)) ?_; (with_reducible refine (journal_aging.calls a0 true _ A5.out).mono ?_); rintro e w' ⟨rfl, ⟨nd, rfl⟩⟩; refine ⟨_, rfl, ?_⟩) | (go_at_call 53; (with_reducible refine (journal_placed.calls a1 false _ A7.out).mono ?_); rintro e w' ⟨rfl, ⟨nd, rfl⟩⟩))
        go_meet
        case rel => exact ⟨_, (true), (by first | rfl | (simp; done) | (simp [*]; done)), H', ⟨by first | omega | exact Nat.le_refl _⟩, ⟨by repeat (first | (with_reducible first | exact HB.out | apply below_alloc | apply pw_below_drewN | apply below_drew1) | exact HB.out)⟩⟩
    · replace c6 := Bool.eq_false_iff.mpr c6
      subst c6
      have H1 : (journal_Pieces.j0 k a0 a1 a2 true) = some (r1, r2) := by rw [if_neg (show ¬ (false = true) by decide)] at H; exact H
      clear H
      have H := H1
      clear H1
      have H' := Aside0.mk H
      clear H
      go_wp2_with (first | ((with_reducible refine gate_callee (f := 52) rfl ?_); refine goesL_ (some 11) rfl rfl Try.func52 (by kernel_rfl) rfl #[.int .i64 a0] rfl (by (try simp only [List.map_toArray, List.map_cons, List.map_nil]); first | done | rfl | (simp only [List.length_drop, List.length_take]; rfl)) ?_; (with_reducible refine (journal_aging.calls a0 false _ A5.out).mono ?_); rintro e w' ⟨rfl, ⟨nd, rfl⟩⟩; refine ⟨_, rfl, ?_⟩))
      go_meet
      case rel => exact ⟨_, (true), (by first | rfl | (simp; done) | (simp [*]; done)), H', ⟨by first | omega | exact Nat.le_refl _⟩, ⟨by repeat (first | (with_reducible first | exact HB.out | apply below_alloc | apply pw_below_drewN | apply below_drew1) | exact HB.out)⟩⟩
  case rest =>
    clear HC4
    try clear c2
    try clear p2
    try clear c5
    try clear c6
    try clear c8
    obtain ⟨kq, x9_3, rfl, HA, HJ3, HB⟩ := hcut
    cases kq with
    | zero => exact absurd HA.out (by simp [journal_Pieces.j0])
    | succ kj3 =>
      have H := HA.out
      clear HA
      simp only [journal_Pieces.j0] at H
      by_cases c9 : x9_3 = true
      · subst c9
        have H1 : (some (([] : List ByteArray), 1)) = some (r1, r2) := by rw [if_pos rfl] at H; exact H
        clear H
        have H := H1
        clear H1
        simp only [Option.some.injEq, Prod.mk.injEq] at H
        obtain ⟨rfl, rfl⟩ := H
        go_wp2
        go_ret2
        exact ⟨_, by first | rfl | (simp [errW_none, errW_some] <;> rfl) | (simp [*, errW_none, errW_some] <;> rfl), by first | exact Kd.R_nil _ _ _ _ _ | exact Kd.N_nil _ _ _ _ _ | exact Kd.V_nil _ _ _ _ _ | exact Kd.Q_nil _ _ _ _ _ | exact Kd.S_nil _ _ _ _ _, by repeat (first | (with_reducible first | exact HB.out | apply below_alloc | apply pw_below_drewN | apply below_drew1) | exact HB.out)⟩
      · replace c9 := Bool.eq_false_iff.mpr c9
        subst c9
        have H1 : ((journal_Need.f (a2.size : Int)).bind fun t361 => (if (wrap64 (a1 + t361)) > 128 then (some (([] : List ByteArray), 6)) else (journal_Pieces.l0 kj3 a0 a1 a2 ([] : List ByteArray)))) = some (r1, r2) := by rw [if_neg (show ¬ (false = true) by decide)] at H; exact H
        clear H
        have H := H1
        clear H1
        replace H := Option.bind_eq_some_iff.mp H
        obtain ⟨t361, A100, H⟩ := H
        replace H : (if (wrap64 (a1 + t361)) > 128 then (some (([] : List ByteArray), 6)) else (journal_Pieces.l0 kj3 a0 a1 a2 ([] : List ByteArray))) = some (r1, r2) := H
        have A10 := Aside0.mk A100
        clear A100
        by_cases c11 : (wrap64 (a1 + t361)) > 128
        · rw [if_pos c11] at H
          have c11b0 : decide (128 < (wrap64 (a1 + t361))) = true := decide_eq_true c11
          clear c11
          simp only [Option.some.injEq, Prod.mk.injEq] at H
          obtain ⟨rfl, rfl⟩ := H
          go_wp2_with (first | ((with_reducible refine gate_callee (f := 33) rfl ?_); refine goesL_ (some 27) rfl rfl Try.func33 (by kernel_rfl) rfl #[.int .i64 (a2.size : Int)] rfl (by (try simp only [List.map_toArray, List.map_cons, List.map_nil]); first | done | rfl | (simp only [List.length_drop, List.length_take]; rfl)) ?_; (with_reducible refine (journal_Need.calls (a2.size : Int) t361 _ A10.out).mono ?_); rintro e w12 ⟨rfl, hb⟩; refine ⟨_, rfl, ?_⟩; have n0_ := Aside0.mk (below_step (by repeat (first | (with_reducible first | exact HB.out | apply below_alloc | apply pw_below_drewN | apply below_drew1) | exact HB.out)) hb); clear HB; have HB := n0_; clear n0_; (try clear hb); (try clear hb2); (try clear hk); (try clear hi)))
          go_ret2
          exact ⟨_, by first | rfl | (simp [errW_none, errW_some] <;> rfl) | (simp [*, errW_none, errW_some] <;> rfl), by first | exact Kd.R_nil _ _ _ _ _ | exact Kd.N_nil _ _ _ _ _ | exact Kd.V_nil _ _ _ _ _ | exact Kd.Q_nil _ _ _ _ _ | exact Kd.S_nil _ _ _ _ _, by repeat (first | (with_reducible first | exact HB.out | apply below_alloc | apply pw_below_drewN | apply below_drew1) | exact HB.out)⟩
        · rw [if_neg c11] at H
          have c11b0 : decide (128 < (wrap64 (a1 + t361))) = false := decide_eq_false c11
          clear c11
          have H' := Aside0.mk H
          clear H
          go_wp2_with (first | ((with_reducible refine gate_callee (f := 33) rfl ?_); refine goesL_ (some 27) rfl rfl Try.func33 (by kernel_rfl) rfl #[.int .i64 (a2.size : Int)] rfl (by (try simp only [List.map_toArray, List.map_cons, List.map_nil]); first | done | rfl | (simp only [List.length_drop, List.length_take]; rfl)) ?_; (with_reducible refine (journal_Need.calls (a2.size : Int) t361 _ A10.out).mono ?_); rintro e w13 ⟨rfl, hb⟩; refine ⟨_, rfl, ?_⟩; have n0_ := Aside0.mk (below_step (by repeat (first | (with_reducible first | exact HB.out | apply below_alloc | apply pw_below_drewN | apply below_drew1) | exact HB.out)) hb); clear HB; have HB := n0_; clear n0_; (try clear hb); (try clear hb2); (try clear hk); (try clear hi)))
          go_loopg [2, 8] kj3 (fun kq v2 v8 w' => ∃ (x2_2 : ByteArray) (x8_2 : List ByteArray), v2 = .string x2_2 ∧ Aside0 (journal_Pieces.l0 kq a0 a1 x2_2 x8_2 = some (r1, r2)) ∧ Aside0 (kq ≤ kj3) ∧ Aside0 (Kd.R Kd.string 9 w' w.heap.size (fun _ => True) v8 x8_2) ∧ Aside0 (Below w.heap.size w w'))
          case atStart => exact ⟨(a2), (([] : List ByteArray)), (by first | rfl | (simp; done) | (simp [*]; done)), H', ⟨Nat.le_refl _⟩, ⟨by first | exact Kd.R_nil _ _ _ _ _ | exact Kd.N_nil _ _ _ _ _ | exact Kd.V_nil _ _ _ _ _ | exact Kd.Q_nil _ _ _ _ _ | exact Kd.S_nil _ _ _ _ _⟩, ⟨by repeat (first | (with_reducible first | exact HB.out | apply below_alloc | apply pw_below_drewN | apply below_drew1) | exact HB.out)⟩⟩
          case round =>
            clear H'
            try clear c1
            try clear c2
            try clear p2
            try clear c3
            try clear c5
            try clear c6
            try clear p6
            try clear c8
            try clear c9
            try clear c11
            try clear c11b0
            try clear p2
            obtain ⟨x2_2, x8_2, rfl, HA, HK2, HO_8, HB⟩ := hrel
            cases gk with
            | zero => exact absurd HA.out (by simp [journal_Pieces.l0])
            | succ k2 =>
              have H := HA.out
              clear HA
              simp only [journal_Pieces.l0] at H
              replace H := Option.bind_eq_some_iff.mp H
              obtain ⟨t362, A140, H⟩ := H
              replace H : (if x8_2.length < 8796093022208 then ((some (x8_2 ++ [t362] : List ByteArray)).bind fun y363 => (if (x2_2.size : Int) ≤ 24 then (some (y363, 0)) else (if 24 ≤ (x2_2.size : Int) then (journal_Pieces.l0 k2 a0 a1 (x2_2.extract 24 x2_2.size) y363) else (none)))) else (none)) = some (r1, r2) := H
              have A14 := Aside0.mk A140
              clear A140
              by_cases c15 : x8_2.length < 8796093022208
              · rw [if_pos c15] at H
                have LMc15 := Aside0.mk c15
                clear c15
                obtain ⟨y363, hy363⟩ : ∃ y_ : List ByteArray, y_ = (x8_2 ++ [t362]) := ⟨_, rfl⟩
                replace H : (if (x2_2.size : Int) ≤ 24 then (some (y363, 0)) else (if 24 ≤ (x2_2.size : Int) then (journal_Pieces.l0 k2 a0 a1 (x2_2.extract 24 x2_2.size) y363) else (none))) = some (r1, r2) := by first | (rw [hy363]; with_reducible exact H) | (have H2_ := (Option.bind_some _ _).symm.trans H; rw [hy363]; with_reducible exact H2_) | (have H2_ := (Option.bind_some _ _).symm.trans H; with_reducible exact H2_) | with_reducible exact H | (rw [hy363]; exact H) | exact H
                have Ny363 := Aside0.mk hy363
                clear hy363
                by_cases c16 : (x2_2.size : Int) ≤ 24
                · rw [if_pos c16] at H
                  have c16b0 : decide ((x2_2.size : Int) ≤ 24) = true := decide_eq_true c16
                  have c16b1 : decide (x2_2.size ≤ 24) = true := decide_eq_true (by omega)
                  clear c16
                  simp only [Option.some.injEq, Prod.mk.injEq] at H
                  obtain ⟨rfl, rfl⟩ := H
                  obtain ⟨Ao17, co17, eo17⟩ := Kd.R_slice HO_8.out
                  subst eo17
                  go_wp2_with (first | ((with_reducible refine gate_callee (f := 54) rfl ?_); refine goesL_ (some 37) rfl rfl Try.func54 (by kernel_rfl) rfl #[.int .i64 a0, .int .i64 (wrap64 (a1 + (x8_2.length : Int))), .string x2_2] rfl (by (try simp only [List.map_toArray, List.map_cons, List.map_nil]); first | done | rfl | (simp only [List.length_drop, List.length_take]; rfl)) ?_; (with_reducible refine (journal_piece.calls k2 a0 (wrap64 (a1 + (x8_2.length : Int))) x2_2 t362 _ A14.out).mono ?_); rintro e w18 ⟨rfl, hb⟩; refine ⟨_, rfl, ?_⟩; have n0_ := Aside0.mk (Kd.R_below (by (with_reducible repeat (first | apply Kd.R_alloc | apply Kd.R_drewN | apply Kd.R_drew)); exact HO_8.out) hb); have n1_ := Aside0.mk (below_step (by repeat (first | (with_reducible first | exact HB.out | apply below_alloc | apply pw_below_drewN | apply below_drew1) | exact HB.out)) hb); clear HO_8; clear HB; have HO_8 := n0_; have HB := n1_; clear n0_ n1_; (try clear hb); (try clear hb2); (try clear hk); (try clear hi)) | ((with_reducible refine gate_builtin (b := .append) (xs := #[.tmp 30, .tmp 38]) rfl ?_); (try (refine gate_guard (by rfl) ?_; dsimp only)); at_builtin; refine Kd.R_append Kd.string (w0 := w) w.heap.size rfl (.tmp 30) (.tmp 38) 22 9 (.string ⟨#[]⟩) 16 rfl Try.underlying22 info9 rfl (by decide) (by omega) (.slice Ao17 x8_2.length co17) x8_2 t362 [.string t362] (fun _ => True) (fun _ => False) rfl rfl ?aP (fun _ hk => hk.elim) ?aF ?aO ?aB ?aS ?aL ?_; (case aP => exact rfl); (case aB => exact (by repeat (first | (with_reducible first | exact HB.out | apply below_alloc | apply pw_below_drewN | apply below_drew1) | exact HB.out))); (case aF => exact (fun _ _ => trivial)); (case aO => exact (by (with_reducible repeat (first | apply Kd.R_alloc | apply Kd.R_drewN | apply Kd.R_drew)); exact HO_8.out)); (case aS => exact (below_size (by repeat (first | (with_reducible first | exact HB.out | apply below_alloc | apply pw_below_drewN | apply below_drew1) | exact HB.out)))); (case aL => have := LMc15.out; omega); intro v364 w19 ho hb hg hat; rw [← Ny363.out] at ho; have n0_ := Aside0.mk (hb); have n1_ := Aside0.mk (ho); clear HB; clear HO_8; have HB := n0_; have HO365 := n1_; clear n0_ n1_; clear ho hb hg hat))
                  go_ret2
                  exact ⟨_, by first | rfl | (simp [errW_none, errW_some] <;> rfl) | (simp [*, errW_none, errW_some] <;> rfl), by (with_reducible repeat (first | apply Kd.R_alloc | apply Kd.R_drewN | apply Kd.R_drew)); exact HO365.out, by repeat (first | (with_reducible first | exact HB.out | apply below_alloc | apply pw_below_drewN | apply below_drew1) | exact HB.out)⟩
                · rw [if_neg c16] at H
                  have c16b0 : decide ((x2_2.size : Int) ≤ 24) = false := decide_eq_false c16
                  have c16b1 : decide (x2_2.size ≤ 24) = false := decide_eq_false (by omega)
                  clear c16
                  by_cases c20 : 24 ≤ (x2_2.size : Int)
                  · rw [if_pos c20] at H
                    have c20b0 := eq_true c20
                    have c20b1 : decide (24 ≤ (x2_2.size : Int)) = true := decide_eq_true c20
                    clear c20
                    have H' := Aside0.mk H
                    clear H
                    obtain ⟨Ao21, co21, eo21⟩ := Kd.R_slice HO_8.out
                    subst eo21
                    go_wp2_with (first | ((with_reducible refine gate_callee (f := 54) rfl ?_); refine goesL_ (some 37) rfl rfl Try.func54 (by kernel_rfl) rfl #[.int .i64 a0, .int .i64 (wrap64 (a1 + (x8_2.length : Int))), .string x2_2] rfl (by (try simp only [List.map_toArray, List.map_cons, List.map_nil]); first | done | rfl | (simp only [List.length_drop, List.length_take]; rfl)) ?_; (with_reducible refine (journal_piece.calls k2 a0 (wrap64 (a1 + (x8_2.length : Int))) x2_2 t362 _ A14.out).mono ?_); rintro e w22 ⟨rfl, hb⟩; refine ⟨_, rfl, ?_⟩; have n0_ := Aside0.mk (Kd.R_below (by (with_reducible repeat (first | apply Kd.R_alloc | apply Kd.R_drewN | apply Kd.R_drew)); exact HO_8.out) hb); have n1_ := Aside0.mk (below_step (by repeat (first | (with_reducible first | exact HB.out | apply below_alloc | apply pw_below_drewN | apply below_drew1) | exact HB.out)) hb); clear HO_8; clear HB; have HO_8 := n0_; have HB := n1_; clear n0_ n1_; (try clear hb); (try clear hb2); (try clear hk); (try clear hi)) | ((with_reducible refine gate_builtin (b := .append) (xs := #[.tmp 30, .tmp 38]) rfl ?_); (try (refine gate_guard (by rfl) ?_; dsimp only)); at_builtin; refine Kd.R_append Kd.string (w0 := w) w.heap.size rfl (.tmp 30) (.tmp 38) 22 9 (.string ⟨#[]⟩) 16 rfl Try.underlying22 info9 rfl (by decide) (by omega) (.slice Ao21 x8_2.length co21) x8_2 t362 [.string t362] (fun _ => True) (fun _ => False) rfl rfl ?aP (fun _ hk => hk.elim) ?aF ?aO ?aB ?aS ?aL ?_; (case aP => exact rfl); (case aB => exact (by repeat (first | (with_reducible first | exact HB.out | apply below_alloc | apply pw_below_drewN | apply below_drew1) | exact HB.out))); (case aF => exact (fun _ _ => trivial)); (case aO => exact (by (with_reducible repeat (first | apply Kd.R_alloc | apply Kd.R_drewN | apply Kd.R_drew)); exact HO_8.out)); (case aS => exact (below_size (by repeat (first | (with_reducible first | exact HB.out | apply below_alloc | apply pw_below_drewN | apply below_drew1) | exact HB.out)))); (case aL => have := LMc15.out; omega); intro v364 w23 ho hb hg hat; rw [← Ny363.out] at ho; have n0_ := Aside0.mk (hb); have n1_ := Aside0.mk (ho); clear HB; clear HO_8; have HB := n0_; have HO365 := n1_; clear n0_ n1_; clear ho hb hg hat))
                    go_roundg k2
                    case measure => have := HJ3.out; have := HK2.out; omega
                    case rel => exact ⟨(x2_2.extract 24 x2_2.size), (y363), (by first | rfl | (simp; done) | (simp [*]; done)), H', ⟨by have := HJ3.out; have := HK2.out; omega⟩, ⟨by (with_reducible repeat (first | apply Kd.R_alloc | apply Kd.R_drewN | apply Kd.R_drew)); exact HO365.out⟩, ⟨by repeat (first | (with_reducible first | exact HB.out | apply below_alloc | apply pw_below_drewN | apply below_drew1) | exact HB.out)⟩⟩
                  · rw [if_neg c20] at H
                    exact absurd H (by simp)
              · rw [if_neg c15] at H
                exact absurd H (by simp)

/-! ### journal_told: function 57 -/
def journal_told.f (k : Nat) (a0 : Int) (a1 : Int) (a2 : ByteArray) : Option (Int × ByteArray × Bool) := if (a2.size : Int) = 32 then (if 6 ≤ (a2.size : Int) then ((pack_Take.f k (a2.extract 6 a2.size) 2).bind fun bt368 => (if 0 ≤ (mn (wrap64 (bt368.1)) 24) then (if (mn (wrap64 (bt368.1)) 24) ≤ (bt368.2.1.size : Int) then ((journal_piece.f k a0 a1 (bt368.2.1.extract 0 ((mn (wrap64 (bt368.1)) 24) : Int).toNat)).bind fun t371 => ((pack_Num.f k bt368.1 2).bind fun bt372 => (if (wrap64 (bt368.1)) ≤ 1000 then (if 0 ≤ 6 then (if 6 ≤ (t371.size : Int) then (if (t371.extract 0 6).size + bt372.1.size ≤ 9223372036854775807 then (if 8 ≤ (t371.size : Int) then (if ((t371.extract 0 6) ++ bt372.1).size + (t371.extract 8 t371.size).size ≤ 9223372036854775807 then (some (wrap64 (bt368.1), bt368.2.1.extract 0 ((mn (wrap64 (bt368.1)) 24) : Int).toNat, (a2.toList == (((t371.extract 0 6) ++ bt372.1) ++ (t371.extract 8 t371.size)).toList))) else (none)) else (none)) else (none)) else (none)) else (none)) else (some (wrap64 (bt368.1), bt368.2.1.extract 0 ((mn (wrap64 (bt368.1)) 24) : Int).toNat, false))))) else (none)) else (none))) else (none)) else (some (0, (⟨#[]⟩ : ByteArray), false))
theorem journal_told.mono : ∀ a0 a1 a2 k, LeO (journal_told.f k a0 a1 a2) (journal_told.f (k + 1) a0 a1 a2) := by
  intro a0 a1 a2 k
  unfold journal_told.f
  repeat' first
      | (with_reducible exact journal_piece.mono _ _ _ _)
      | (with_reducible exact pack_Num.mono _ _ _)
      | (with_reducible exact pack_Take.mono _ _ _)
      | (with_reducible exact LeO.refl _)
      | (with_reducible exact LeO.none _)
      | (with_reducible refine LeO.ite ?_ ?_)
      | (with_reducible refine LeO.bind ?_ (fun _ => ?_))
      | exact journal_piece.mono _ _ _ _
      | exact pack_Num.mono _ _ _
      | exact pack_Take.mono _ _ _
      | exact LeO.none _
      | refine LeO.ite ?_ ?_
      | refine LeO.bind ?_ (fun _ => ?_)
set_option maxHeartbeats 8000000 in
set_option maxRecDepth 100000 in
theorem journal_told.calls (k : Nat) (a0 : Int) (a1 : Int) (a2 : ByteArray) (r1 : Int) (r2 : ByteArray) (r3 : Bool) (w : World) (h : journal_told.f k a0 a1 a2 = some (r1, r2, r3)) :
    Calls Try.prog 57 #[.int .i64 a0, .int .i64 a1, .string a2] w fun e w' => e = .returned (.tuple #[.int .i64 r1, .string r2, .bool r3]) ∧ Below w.heap.size w w' := by
  have HB := Aside0.mk (Below.refl w.heap.size w)
  have H : (if (a2.size : Int) = 32 then (if 6 ≤ (a2.size : Int) then ((pack_Take.f k (a2.extract 6 a2.size) 2).bind fun bt368 => (if 0 ≤ (mn (wrap64 (bt368.1)) 24) then (if (mn (wrap64 (bt368.1)) 24) ≤ (bt368.2.1.size : Int) then ((journal_piece.f k a0 a1 (bt368.2.1.extract 0 ((mn (wrap64 (bt368.1)) 24) : Int).toNat)).bind fun t371 => ((pack_Num.f k bt368.1 2).bind fun bt372 => (if (wrap64 (bt368.1)) ≤ 1000 then (if 0 ≤ 6 then (if 6 ≤ (t371.size : Int) then (if (t371.extract 0 6).size + bt372.1.size ≤ 9223372036854775807 then (if 8 ≤ (t371.size : Int) then (if ((t371.extract 0 6) ++ bt372.1).size + (t371.extract 8 t371.size).size ≤ 9223372036854775807 then (some (wrap64 (bt368.1), bt368.2.1.extract 0 ((mn (wrap64 (bt368.1)) 24) : Int).toNat, (a2.toList == (((t371.extract 0 6) ++ bt372.1) ++ (t371.extract 8 t371.size)).toList))) else (none)) else (none)) else (none)) else (none)) else (none)) else (some (wrap64 (bt368.1), bt368.2.1.extract 0 ((mn (wrap64 (bt368.1)) 24) : Int).toNat, false))))) else (none)) else (none))) else (none)) else (some (0, (⟨#[]⟩ : ByteArray), false))) = some (r1, r2, r3) := h
  clear h
  by_cases c4 : (a2.size : Int) = 32
  · rw [if_pos c4] at H
    have c4b0 : ((a2.size : Int) == 32) = true := beq_iff_eq.mpr c4
    have c4b1 : ((a2.size : Int) != 32) = false := bne_eq_false_iff_eq.mpr c4
    clear c4
    by_cases c5 : 6 ≤ (a2.size : Int)
    · rw [if_pos c5] at H
      have c5b0 := eq_true c5
      have c5b1 : decide (6 ≤ (a2.size : Int)) = true := decide_eq_true c5
      clear c5
      replace H := Option.bind_eq_some_iff.mp H
      obtain ⟨⟨t368, t369, t370⟩, A60, H⟩ := H
      replace H : (if 0 ≤ (mn (wrap64 (t368)) 24) then (if (mn (wrap64 (t368)) 24) ≤ (t369.size : Int) then ((journal_piece.f k a0 a1 (t369.extract 0 ((mn (wrap64 (t368)) 24) : Int).toNat)).bind fun t371 => ((pack_Num.f k t368 2).bind fun bt372 => (if (wrap64 (t368)) ≤ 1000 then (if 0 ≤ 6 then (if 6 ≤ (t371.size : Int) then (if (t371.extract 0 6).size + bt372.1.size ≤ 9223372036854775807 then (if 8 ≤ (t371.size : Int) then (if ((t371.extract 0 6) ++ bt372.1).size + (t371.extract 8 t371.size).size ≤ 9223372036854775807 then (some (wrap64 (t368), t369.extract 0 ((mn (wrap64 (t368)) 24) : Int).toNat, (a2.toList == (((t371.extract 0 6) ++ bt372.1) ++ (t371.extract 8 t371.size)).toList))) else (none)) else (none)) else (none)) else (none)) else (none)) else (some (wrap64 (t368), t369.extract 0 ((mn (wrap64 (t368)) 24) : Int).toNat, false))))) else (none)) else (none)) = some (r1, r2, r3) := H
      have A6 := Aside0.mk A60
      clear A60
      obtain ⟨ji7, hji7⟩ : ∃ j_ : Int, (mn (wrap64 (t368)) 24) = j_ := ⟨_, rfl⟩
      replace H : (if 0 ≤ (ji7) then (if (ji7) ≤ (t369.size : Int) then ((journal_piece.f k a0 a1 (t369.extract 0 ((ji7) : Int).toNat)).bind fun t371 => ((pack_Num.f k t368 2).bind fun bt372 => (if (wrap64 (t368)) ≤ 1000 then (if 0 ≤ 6 then (if 6 ≤ (t371.size : Int) then (if (t371.extract 0 6).size + bt372.1.size ≤ 9223372036854775807 then (if 8 ≤ (t371.size : Int) then (if ((t371.extract 0 6) ++ bt372.1).size + (t371.extract 8 t371.size).size ≤ 9223372036854775807 then (some (wrap64 (t368), t369.extract 0 ((ji7) : Int).toNat, (a2.toList == (((t371.extract 0 6) ++ bt372.1) ++ (t371.extract 8 t371.size)).toList))) else (none)) else (none)) else (none)) else (none)) else (none)) else (some (wrap64 (t368), t369.extract 0 ((ji7) : Int).toNat, false))))) else (none)) else (none)) = some (r1, r2, r3) := by first | (rw [hji7] at H; exact H) | (simp only [hji7] at H ⊢; exact H)
      (try rw [hji7] at A6)
      (try (have hji7h : ji7 ≤ 24 := by (rw [← hji7]; unfold mn; (repeat' split) <;> omega)))
      (try (have hji7g : ji7 ≤ 64 := by omega))
      have hji7_ : (if 24 < (wrap64 (t368)) then 24 else (wrap64 (t368))) = ji7 := hji7
      by_cases c8 : 0 ≤ (ji7)
      · rw [if_pos c8] at H
        have c8b0 := eq_true c8
        have c8b1 : decide (0 ≤ (ji7)) = true := decide_eq_true c8
        clear c8
        by_cases c9 : (ji7) ≤ (t369.size : Int)
        · rw [if_pos c9] at H
          have c9b0 := eq_true c9
          have c9b1 : decide ((ji7) ≤ (t369.size : Int)) = true := decide_eq_true c9
          clear c9
          replace H := Option.bind_eq_some_iff.mp H
          obtain ⟨t371, A100, H⟩ := H
          replace H : ((pack_Num.f k t368 2).bind fun bt372 => (if (wrap64 (t368)) ≤ 1000 then (if 0 ≤ 6 then (if 6 ≤ (t371.size : Int) then (if (t371.extract 0 6).size + bt372.1.size ≤ 9223372036854775807 then (if 8 ≤ (t371.size : Int) then (if ((t371.extract 0 6) ++ bt372.1).size + (t371.extract 8 t371.size).size ≤ 9223372036854775807 then (some (wrap64 (t368), t369.extract 0 ((ji7) : Int).toNat, (a2.toList == (((t371.extract 0 6) ++ bt372.1) ++ (t371.extract 8 t371.size)).toList))) else (none)) else (none)) else (none)) else (none)) else (none)) else (some (wrap64 (t368), t369.extract 0 ((ji7) : Int).toNat, false)))) = some (r1, r2, r3) := H
          have A10 := Aside0.mk A100
          clear A100
          replace H := Option.bind_eq_some_iff.mp H
          obtain ⟨⟨t372, t373⟩, A110, H⟩ := H
          replace H : (if (wrap64 (t368)) ≤ 1000 then (if 0 ≤ 6 then (if 6 ≤ (t371.size : Int) then (if (t371.extract 0 6).size + t372.size ≤ 9223372036854775807 then (if 8 ≤ (t371.size : Int) then (if ((t371.extract 0 6) ++ t372).size + (t371.extract 8 t371.size).size ≤ 9223372036854775807 then (some (wrap64 (t368), t369.extract 0 ((ji7) : Int).toNat, (a2.toList == (((t371.extract 0 6) ++ t372) ++ (t371.extract 8 t371.size)).toList))) else (none)) else (none)) else (none)) else (none)) else (none)) else (some (wrap64 (t368), t369.extract 0 ((ji7) : Int).toNat, false))) = some (r1, r2, r3) := H
          have A11 := Aside0.mk A110
          clear A110
          by_cases c12 : (wrap64 (t368)) ≤ 1000
          · rw [if_pos c12] at H
            have c12b0 : decide ((wrap64 (t368)) ≤ 1000) = true := decide_eq_true c12
            clear c12
            by_cases c13 : 0 ≤ 6
            · rw [if_pos c13] at H
              have c13b0 := eq_true c13
              have c13b1 : decide (0 ≤ 6) = true := decide_eq_true c13
              clear c13
              by_cases c14 : 6 ≤ (t371.size : Int)
              · rw [if_pos c14] at H
                have c14b0 := eq_true c14
                have c14b1 : decide (6 ≤ (t371.size : Int)) = true := decide_eq_true c14
                clear c14
                by_cases c15 : (t371.extract 0 6).size + t372.size ≤ 9223372036854775807
                · rw [if_pos c15] at H
                  have c15b0 := eq_true c15
                  have c15b1 : decide ((t371.extract 0 6).size + t372.size ≤ 9223372036854775807) = true := decide_eq_true c15
                  try have c15b2 : (9223372036854775807 < (t371.extract 0 6).size + t372.size) = False := eq_false (Nat.not_lt.2 c15)
                  clear c15
                  try (have c15b9 := c15b2; simp only [ByteArray.size_append, ByteArray.size_extract, Nat.min_self] at c15b9)
                  try (have c15b7 := c15b2; simp only [ByteArray.size_append, ByteArray.size_extract, Nat.min_self, Nat.sub_zero] at c15b7)
                  by_cases c16 : 8 ≤ (t371.size : Int)
                  · rw [if_pos c16] at H
                    have c16b0 := eq_true c16
                    have c16b1 : decide (8 ≤ (t371.size : Int)) = true := decide_eq_true c16
                    clear c16
                    by_cases c17 : ((t371.extract 0 6) ++ t372).size + (t371.extract 8 t371.size).size ≤ 9223372036854775807
                    · rw [if_pos c17] at H
                      have c17b0 := eq_true c17
                      have c17b1 : decide (((t371.extract 0 6) ++ t372).size + (t371.extract 8 t371.size).size ≤ 9223372036854775807) = true := decide_eq_true c17
                      try have c17b2 : (9223372036854775807 < ((t371.extract 0 6) ++ t372).size + (t371.extract 8 t371.size).size) = False := eq_false (Nat.not_lt.2 c17)
                      clear c17
                      try (have c17b9 := c17b2; simp only [ByteArray.size_append, ByteArray.size_extract, Nat.min_self] at c17b9)
                      try (have c17b7 := c17b2; simp only [ByteArray.size_append, ByteArray.size_extract, Nat.min_self, Nat.sub_zero] at c17b7)
                      simp only [Option.some.injEq, Prod.mk.injEq] at H
                      obtain ⟨rfl, rfl, rfl⟩ := H
                      go_enter Try.func57, Try.ntmps57
                      go_wp2_with (first | (go_at_call 41; (with_reducible refine (pack_Take.calls k (a2.extract 6 a2.size) 2 t368 t369 t370 _ A6.out).mono ?_); rintro e w' ⟨rfl, ⟨nd, rfl⟩⟩; (try first | exact ⟨rfl, _, World.drewN_drewN _ _ _⟩ | exact ⟨rfl, _, Eq.trans (World.drewN_drewN _ _ _) (congrArg (World.drewN _) (Nat.add_assoc _ _ _))⟩)) | (go_at_call 54; (with_reducible refine (journal_piece.calls k a0 a1 (t369.extract 0 ((ji7) : Int).toNat) t371 _ A10.out).mono ?_); rintro e w18 ⟨rfl, hb⟩; have n0_ := Aside0.mk (below_step (by repeat (first | (with_reducible first | exact HB.out | apply below_alloc | apply pw_below_drewN | apply below_drew1) | exact HB.out)) hb); clear HB; have HB := n0_; clear n0_; (try clear hb); (try clear hb2); (try clear hk); (try clear hi)) | (go_at_call 63; (with_reducible refine (pack_Num.calls k t368 2 t372 t373 _ A11.out).mono ?_); rintro e w19 ⟨rfl, hb⟩; have n0_ := Aside0.mk (below_step (by repeat (first | (with_reducible first | exact HB.out | apply below_alloc | apply pw_below_drewN | apply below_drew1) | exact HB.out)) hb); clear HB; have HB := n0_; clear n0_; (try clear hb); (try clear hb2); (try clear hk); (try clear hi)))
                      repeat (go_quiet (first | (go_at_call 41; (with_reducible refine (pack_Take.calls k (a2.extract 6 a2.size) 2 t368 t369 t370 _ A6.out).mono ?_); rintro e w' ⟨rfl, ⟨nd, rfl⟩⟩; (try first | exact ⟨rfl, _, World.drewN_drewN _ _ _⟩ | exact ⟨rfl, _, Eq.trans (World.drewN_drewN _ _ _) (congrArg (World.drewN _) (Nat.add_assoc _ _ _))⟩)) | (go_at_call 54; (with_reducible refine (journal_piece.calls k a0 a1 (t369.extract 0 ((ji7) : Int).toNat) t371 _ A10.out).mono ?_); rintro e w18 ⟨rfl, hb⟩; have n0_ := Aside0.mk (below_step (by repeat (first | (with_reducible first | exact HB.out | apply below_alloc | apply pw_below_drewN | apply below_drew1) | exact HB.out)) hb); clear HB; have HB := n0_; clear n0_; (try clear hb); (try clear hb2); (try clear hk); (try clear hi)) | (go_at_call 63; (with_reducible refine (pack_Num.calls k t368 2 t372 t373 _ A11.out).mono ?_); rintro e w19 ⟨rfl, hb⟩; have n0_ := Aside0.mk (below_step (by repeat (first | (with_reducible first | exact HB.out | apply below_alloc | apply pw_below_drewN | apply below_drew1) | exact HB.out)) hb); clear HB; have HB := n0_; clear n0_; (try clear hb); (try clear hb2); (try clear hk); (try clear hi))); try go_wp2_with (first | (go_at_call 41; (with_reducible refine (pack_Take.calls k (a2.extract 6 a2.size) 2 t368 t369 t370 _ A6.out).mono ?_); rintro e w' ⟨rfl, ⟨nd, rfl⟩⟩; (try first | exact ⟨rfl, _, World.drewN_drewN _ _ _⟩ | exact ⟨rfl, _, Eq.trans (World.drewN_drewN _ _ _) (congrArg (World.drewN _) (Nat.add_assoc _ _ _))⟩)) | (go_at_call 54; (with_reducible refine (journal_piece.calls k a0 a1 (t369.extract 0 ((ji7) : Int).toNat) t371 _ A10.out).mono ?_); rintro e w18 ⟨rfl, hb⟩; have n0_ := Aside0.mk (below_step (by repeat (first | (with_reducible first | exact HB.out | apply below_alloc | apply pw_below_drewN | apply below_drew1) | exact HB.out)) hb); clear HB; have HB := n0_; clear n0_; (try clear hb); (try clear hb2); (try clear hk); (try clear hi)) | (go_at_call 63; (with_reducible refine (pack_Num.calls k t368 2 t372 t373 _ A11.out).mono ?_); rintro e w19 ⟨rfl, hb⟩; have n0_ := Aside0.mk (below_step (by repeat (first | (with_reducible first | exact HB.out | apply below_alloc | apply pw_below_drewN | apply below_drew1) | exact HB.out)) hb); clear HB; have HB := n0_; clear n0_; (try clear hb); (try clear hb2); (try clear hk); (try clear hi))))
                      go_ret3
                      exact ⟨by first | rfl | (simp [errW_none, errW_some] <;> rfl) | (simp only [← hji7]; first | rfl | (simp [errW_none, errW_some] <;> rfl)) | (simp [*, errW_none, errW_some] <;> rfl), by repeat (first | (with_reducible first | exact HB.out | apply below_alloc | apply pw_below_drewN | apply below_drew1) | exact HB.out)⟩
                    · rw [if_neg c17] at H
                      exact absurd H (by simp)
                  · rw [if_neg c16] at H
                    exact absurd H (by simp)
                · rw [if_neg c15] at H
                  exact absurd H (by simp)
              · rw [if_neg c14] at H
                exact absurd H (by simp)
            · rw [if_neg c13] at H
              exact absurd H (by simp)
          · rw [if_neg c12] at H
            have c12b0 : decide ((wrap64 (t368)) ≤ 1000) = false := decide_eq_false c12
            clear c12
            simp only [Option.some.injEq, Prod.mk.injEq] at H
            obtain ⟨rfl, rfl, rfl⟩ := H
            go_enter Try.func57, Try.ntmps57
            go_wp2_with (first | (go_at_call 41; (with_reducible refine (pack_Take.calls k (a2.extract 6 a2.size) 2 t368 t369 t370 _ A6.out).mono ?_); rintro e w' ⟨rfl, ⟨nd, rfl⟩⟩; (try first | exact ⟨rfl, _, World.drewN_drewN _ _ _⟩ | exact ⟨rfl, _, Eq.trans (World.drewN_drewN _ _ _) (congrArg (World.drewN _) (Nat.add_assoc _ _ _))⟩)) | (go_at_call 54; (with_reducible refine (journal_piece.calls k a0 a1 (t369.extract 0 ((ji7) : Int).toNat) t371 _ A10.out).mono ?_); rintro e w20 ⟨rfl, hb⟩; have n0_ := Aside0.mk (below_step (by repeat (first | (with_reducible first | exact HB.out | apply below_alloc | apply pw_below_drewN | apply below_drew1) | exact HB.out)) hb); clear HB; have HB := n0_; clear n0_; (try clear hb); (try clear hb2); (try clear hk); (try clear hi)) | (go_at_call 63; (with_reducible refine (pack_Num.calls k t368 2 t372 t373 _ A11.out).mono ?_); rintro e w21 ⟨rfl, hb⟩; have n0_ := Aside0.mk (below_step (by repeat (first | (with_reducible first | exact HB.out | apply below_alloc | apply pw_below_drewN | apply below_drew1) | exact HB.out)) hb); clear HB; have HB := n0_; clear n0_; (try clear hb); (try clear hb2); (try clear hk); (try clear hi)))
            repeat (go_quiet (first | (go_at_call 41; (with_reducible refine (pack_Take.calls k (a2.extract 6 a2.size) 2 t368 t369 t370 _ A6.out).mono ?_); rintro e w' ⟨rfl, ⟨nd, rfl⟩⟩; (try first | exact ⟨rfl, _, World.drewN_drewN _ _ _⟩ | exact ⟨rfl, _, Eq.trans (World.drewN_drewN _ _ _) (congrArg (World.drewN _) (Nat.add_assoc _ _ _))⟩)) | (go_at_call 54; (with_reducible refine (journal_piece.calls k a0 a1 (t369.extract 0 ((ji7) : Int).toNat) t371 _ A10.out).mono ?_); rintro e w20 ⟨rfl, hb⟩; have n0_ := Aside0.mk (below_step (by repeat (first | (with_reducible first | exact HB.out | apply below_alloc | apply pw_below_drewN | apply below_drew1) | exact HB.out)) hb); clear HB; have HB := n0_; clear n0_; (try clear hb); (try clear hb2); (try clear hk); (try clear hi)) | (go_at_call 63; (with_reducible refine (pack_Num.calls k t368 2 t372 t373 _ A11.out).mono ?_); rintro e w21 ⟨rfl, hb⟩; have n0_ := Aside0.mk (below_step (by repeat (first | (with_reducible first | exact HB.out | apply below_alloc | apply pw_below_drewN | apply below_drew1) | exact HB.out)) hb); clear HB; have HB := n0_; clear n0_; (try clear hb); (try clear hb2); (try clear hk); (try clear hi))); try go_wp2_with (first | (go_at_call 41; (with_reducible refine (pack_Take.calls k (a2.extract 6 a2.size) 2 t368 t369 t370 _ A6.out).mono ?_); rintro e w' ⟨rfl, ⟨nd, rfl⟩⟩; (try first | exact ⟨rfl, _, World.drewN_drewN _ _ _⟩ | exact ⟨rfl, _, Eq.trans (World.drewN_drewN _ _ _) (congrArg (World.drewN _) (Nat.add_assoc _ _ _))⟩)) | (go_at_call 54; (with_reducible refine (journal_piece.calls k a0 a1 (t369.extract 0 ((ji7) : Int).toNat) t371 _ A10.out).mono ?_); rintro e w20 ⟨rfl, hb⟩; have n0_ := Aside0.mk (below_step (by repeat (first | (with_reducible first | exact HB.out | apply below_alloc | apply pw_below_drewN | apply below_drew1) | exact HB.out)) hb); clear HB; have HB := n0_; clear n0_; (try clear hb); (try clear hb2); (try clear hk); (try clear hi)) | (go_at_call 63; (with_reducible refine (pack_Num.calls k t368 2 t372 t373 _ A11.out).mono ?_); rintro e w21 ⟨rfl, hb⟩; have n0_ := Aside0.mk (below_step (by repeat (first | (with_reducible first | exact HB.out | apply below_alloc | apply pw_below_drewN | apply below_drew1) | exact HB.out)) hb); clear HB; have HB := n0_; clear n0_; (try clear hb); (try clear hb2); (try clear hk); (try clear hi))))
            go_ret3
            exact ⟨by first | rfl | (simp [errW_none, errW_some] <;> rfl) | (simp only [← hji7]; first | rfl | (simp [errW_none, errW_some] <;> rfl)) | (simp [*, errW_none, errW_some] <;> rfl), by repeat (first | (with_reducible first | exact HB.out | apply below_alloc | apply pw_below_drewN | apply below_drew1) | exact HB.out)⟩
        · rw [if_neg c9] at H
          exact absurd H (by simp)
      · rw [if_neg c8] at H
        exact absurd H (by simp)
    · rw [if_neg c5] at H
      exact absurd H (by simp)
  · rw [if_neg c4] at H
    have c4b0 : ((a2.size : Int) == 32) = false := beq_eq_false_iff_ne.mpr c4
    have c4b1 : ((a2.size : Int) != 32) = true := bne_iff_ne.mpr c4
    simp only [Option.some.injEq, Prod.mk.injEq] at H
    obtain ⟨rfl, rfl, rfl⟩ := H
    go_enter Try.func57, Try.ntmps57
    go_wp2
    repeat (go_quiet (fail); try go_wp2)
    go_ret3
    exact ⟨by first | rfl | (simp [errW_none, errW_some] <;> rfl) | (simp [*, errW_none, errW_some] <;> rfl), by repeat (first | (with_reducible first | exact HB.out | apply below_alloc | apply pw_below_drewN | apply below_drew1) | exact HB.out)⟩

end Go.Proofs.Ytpkapldkmleppaa.F
