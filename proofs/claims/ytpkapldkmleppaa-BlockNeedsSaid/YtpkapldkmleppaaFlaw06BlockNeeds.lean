/- Contracts of Go functions of the seat Ytpkapldkmleppaa: what a call comes to; no condition but those that each theorem names. -/
import Derived.Test.YtpkapldkmleppaaFPre
import Derived.Test.YtpkapldkmleppaaFblockC
import Derived.Test.YtpkapldkmleppaaFblockN
import Derived.Test.YtpkapldkmleppaaFlaw06awake
namespace Go.Proofs.Ytpkapldkmleppaa.F
open Go.RowKit Go.Proofs.YtpkapldkmleppaaW.PrintWords Go.Proofs.YtpkapldkmleppaaW.PrintLast Go.Proofs.YtpkapldkmleppaaW.PrintMore
attribute [local go_sem] max2_int min2_int max_two min_two max_three min_three max_four min_four   -- for this text's walks alone
set_option linter.unusedVariables false
set_option linter.unusedSimpArgs false

attribute [local go_sem] fieldD25_0 fieldD25_1
/-! ### weirkeeperlaw06_BlockNeeds: function 6 -/
def weirkeeperlaw06_BlockNeeds.f (k : Nat) (a0 : Int) (a1 : Int) : Option (Bool) := (block_Need.f (mn (wrap64 (Int.tmod a0 3000)) (wrap64 (Int.tmod a1 3000)))).bind fun t288 => ((block_Need.f (mx (wrap64 (Int.tmod a0 3000)) (wrap64 (Int.tmod a1 3000)))).bind fun t289 => (if t288 ≤ t289 then (if t288 ≥ 1 then (if 0 ≤ (wrap64 ((wrap64 (Int.tmod a0 3000)) + 7)) then (if (wrap64 ((wrap64 (Int.tmod a0 3000)) + 7) : Int).toNat ≤ 281474976710656 then ((block_Cut.f (strOfNums (List.replicate (wrap64 ((wrap64 (Int.tmod a0 3000)) + 7) : Int).toNat 0))).bind fun t293 => ((block_Need.f (wrap64 (Int.tmod a0 3000))).bind fun t296 => (if (t293.length : Int) = t296 then ((weirkeeperlaw06_awake.f k).bind fun t297 => (some t297)) else (some false)))) else (none)) else (none)) else (some false)) else (some false)))
theorem weirkeeperlaw06_BlockNeeds.mono : ∀ a0 a1 k, LeO (weirkeeperlaw06_BlockNeeds.f k a0 a1) (weirkeeperlaw06_BlockNeeds.f (k + 1) a0 a1) := by
  intro a0 a1 k
  unfold weirkeeperlaw06_BlockNeeds.f
  repeat' first
      | (with_reducible exact weirkeeperlaw06_awake.mono _)
      | (with_reducible exact LeO.refl _)
      | (with_reducible exact LeO.none _)
      | (with_reducible refine LeO.ite ?_ ?_)
      | (with_reducible refine LeO.bind ?_ (fun _ => ?_))
      | exact weirkeeperlaw06_awake.mono _
      | exact LeO.none _
      | refine LeO.ite ?_ ?_
      | refine LeO.bind ?_ (fun _ => ?_)
set_option maxHeartbeats 8000000 in
set_option maxRecDepth 100000 in
theorem weirkeeperlaw06_BlockNeeds.calls (k : Nat) (a0 : Int) (a1 : Int) (w : World) (h : weirkeeperlaw06_BlockNeeds.f k a0 a1 = some true) :
    Calls Try.prog 6 #[.int .u16 a0, .int .u16 a1] w fun e w' => e = .returned (.bool true) ∧ Below w.heap.size w w' := by
  have HB := Aside0.mk (Below.refl w.heap.size w)
  have H : ((block_Need.f (mn (wrap64 (Int.tmod a0 3000)) (wrap64 (Int.tmod a1 3000)))).bind fun t288 => ((block_Need.f (mx (wrap64 (Int.tmod a0 3000)) (wrap64 (Int.tmod a1 3000)))).bind fun t289 => (if t288 ≤ t289 then (if t288 ≥ 1 then (if 0 ≤ (wrap64 ((wrap64 (Int.tmod a0 3000)) + 7)) then (if (wrap64 ((wrap64 (Int.tmod a0 3000)) + 7) : Int).toNat ≤ 281474976710656 then ((block_Cut.f (strOfNums (List.replicate (wrap64 ((wrap64 (Int.tmod a0 3000)) + 7) : Int).toNat 0))).bind fun t293 => ((block_Need.f (wrap64 (Int.tmod a0 3000))).bind fun t296 => (if (t293.length : Int) = t296 then ((weirkeeperlaw06_awake.f k).bind fun t297 => (some t297)) else (some false)))) else (none)) else (none)) else (some false)) else (some false)))) = some true := h
  clear h
  obtain ⟨ji3, hji3⟩ : ∃ j_ : Int, (mn (wrap64 (Int.tmod a0 3000)) (wrap64 (Int.tmod a1 3000))) = j_ := ⟨_, rfl⟩
  replace H : ((block_Need.f (ji3)).bind fun t288 => ((block_Need.f (mx (wrap64 (Int.tmod a0 3000)) (wrap64 (Int.tmod a1 3000)))).bind fun t289 => (if t288 ≤ t289 then (if t288 ≥ 1 then (if 0 ≤ (wrap64 ((wrap64 (Int.tmod a0 3000)) + 7)) then (if (wrap64 ((wrap64 (Int.tmod a0 3000)) + 7) : Int).toNat ≤ 281474976710656 then ((block_Cut.f (strOfNums (List.replicate (wrap64 ((wrap64 (Int.tmod a0 3000)) + 7) : Int).toNat 0))).bind fun t293 => ((block_Need.f (wrap64 (Int.tmod a0 3000))).bind fun t296 => (if (t293.length : Int) = t296 then ((weirkeeperlaw06_awake.f k).bind fun t297 => (some t297)) else (some false)))) else (none)) else (none)) else (some false)) else (some false)))) = some true := by first | (rw [hji3] at H; exact H) | (simp only [hji3] at H ⊢; exact H)
  have hji3_ : (if (wrap64 (Int.tmod a1 3000)) < (wrap64 (Int.tmod a0 3000)) then (wrap64 (Int.tmod a1 3000)) else (wrap64 (Int.tmod a0 3000))) = ji3 := hji3
  replace H := Option.bind_eq_some_iff.mp H
  obtain ⟨t288, A40, H⟩ := H
  replace H : ((block_Need.f (mx (wrap64 (Int.tmod a0 3000)) (wrap64 (Int.tmod a1 3000)))).bind fun t289 => (if t288 ≤ t289 then (if t288 ≥ 1 then (if 0 ≤ (wrap64 ((wrap64 (Int.tmod a0 3000)) + 7)) then (if (wrap64 ((wrap64 (Int.tmod a0 3000)) + 7) : Int).toNat ≤ 281474976710656 then ((block_Cut.f (strOfNums (List.replicate (wrap64 ((wrap64 (Int.tmod a0 3000)) + 7) : Int).toNat 0))).bind fun t293 => ((block_Need.f (wrap64 (Int.tmod a0 3000))).bind fun t296 => (if (t293.length : Int) = t296 then ((weirkeeperlaw06_awake.f k).bind fun t297 => (some t297)) else (some false)))) else (none)) else (none)) else (some false)) else (some false))) = some true := H
  have A4 := Aside0.mk A40
  clear A40
  obtain ⟨ji5, hji5⟩ : ∃ j_ : Int, (mx (wrap64 (Int.tmod a0 3000)) (wrap64 (Int.tmod a1 3000))) = j_ := ⟨_, rfl⟩
  replace H : ((block_Need.f (ji5)).bind fun t289 => (if t288 ≤ t289 then (if t288 ≥ 1 then (if 0 ≤ (wrap64 ((wrap64 (Int.tmod a0 3000)) + 7)) then (if (wrap64 ((wrap64 (Int.tmod a0 3000)) + 7) : Int).toNat ≤ 281474976710656 then ((block_Cut.f (strOfNums (List.replicate (wrap64 ((wrap64 (Int.tmod a0 3000)) + 7) : Int).toNat 0))).bind fun t293 => ((block_Need.f (wrap64 (Int.tmod a0 3000))).bind fun t296 => (if (t293.length : Int) = t296 then ((weirkeeperlaw06_awake.f k).bind fun t297 => (some t297)) else (some false)))) else (none)) else (none)) else (some false)) else (some false))) = some true := by first | (rw [hji5] at H; exact H) | (simp only [hji5] at H ⊢; exact H)
  (try rw [hji5] at A4)
  have hji5_ : (if (wrap64 (Int.tmod a0 3000)) < (wrap64 (Int.tmod a1 3000)) then (wrap64 (Int.tmod a1 3000)) else (wrap64 (Int.tmod a0 3000))) = ji5 := hji5
  replace H := Option.bind_eq_some_iff.mp H
  obtain ⟨t289, A60, H⟩ := H
  replace H : (if t288 ≤ t289 then (if t288 ≥ 1 then (if 0 ≤ (wrap64 ((wrap64 (Int.tmod a0 3000)) + 7)) then (if (wrap64 ((wrap64 (Int.tmod a0 3000)) + 7) : Int).toNat ≤ 281474976710656 then ((block_Cut.f (strOfNums (List.replicate (wrap64 ((wrap64 (Int.tmod a0 3000)) + 7) : Int).toNat 0))).bind fun t293 => ((block_Need.f (wrap64 (Int.tmod a0 3000))).bind fun t296 => (if (t293.length : Int) = t296 then ((weirkeeperlaw06_awake.f k).bind fun t297 => (some t297)) else (some false)))) else (none)) else (none)) else (some false)) else (some false)) = some true := H
  have A6 := Aside0.mk A60
  clear A60
  by_cases c7 : t288 ≤ t289
  · rw [if_pos c7] at H
    have c7b0 : decide (t288 ≤ t289) = true := decide_eq_true c7
    clear c7
    by_cases c8 : t288 ≥ 1
    · rw [if_pos c8] at H
      have c8b0 : decide (1 ≤ t288) = true := decide_eq_true c8
      clear c8
      obtain ⟨ji9, hji9⟩ : ∃ j_ : Int, (wrap64 ((wrap64 (Int.tmod a0 3000)) + 7)) = j_ := ⟨_, rfl⟩
      replace H : (if 0 ≤ (ji9) then (if (ji9 : Int).toNat ≤ 281474976710656 then ((block_Cut.f (strOfNums (List.replicate (ji9 : Int).toNat 0))).bind fun t293 => ((block_Need.f (wrap64 (Int.tmod a0 3000))).bind fun t296 => (if (t293.length : Int) = t296 then ((weirkeeperlaw06_awake.f k).bind fun t297 => (some t297)) else (some false)))) else (none)) else (none)) = some true := by first | (rw [hji9] at H; exact H) | (simp only [hji9] at H ⊢; exact H)
      (try rw [hji9] at A4)
      (try rw [hji9] at A6)
      have hji9w : (IntKind.i64.wrap ((wrap64 (Int.tmod a0 3000)) + 7)) = ji9 := (i64_w _).trans hji9
      by_cases c10 : 0 ≤ (ji9)
      · rw [if_pos c10] at H
        have c10b0 := eq_true c10
        have c10b1 : decide (0 ≤ (ji9)) = true := decide_eq_true c10
        clear c10
        by_cases c11 : (ji9 : Int).toNat ≤ 281474976710656
        · rw [if_pos c11] at H
          have c11b0 := eq_true c11
          have c11b1 : decide ((ji9 : Int).toNat ≤ 281474976710656) = true := decide_eq_true c11
          clear c11
          obtain ⟨y290, hy290⟩ : ∃ y_ : List Int, y_ = (List.replicate (ji9 : Int).toNat 0) := ⟨_, rfl⟩
          replace H : ((block_Cut.f (strOfNums y290)).bind fun t293 => ((block_Need.f (wrap64 (Int.tmod a0 3000))).bind fun t296 => (if (t293.length : Int) = t296 then ((weirkeeperlaw06_awake.f k).bind fun t297 => (some t297)) else (some false)))) = some true := by first | (rw [hy290]; with_reducible exact H) | (have H2_ := (Option.bind_some _ _).symm.trans H; rw [hy290]; with_reducible exact H2_) | (have H2_ := (Option.bind_some _ _).symm.trans H; with_reducible exact H2_) | with_reducible exact H | (rw [hy290]; exact H) | exact H
          have Ny290 := Aside0.mk hy290
          clear hy290
          replace H := Option.bind_eq_some_iff.mp H
          obtain ⟨t293, A120, H⟩ := H
          replace H : ((block_Need.f (wrap64 (Int.tmod a0 3000))).bind fun t296 => (if (t293.length : Int) = t296 then ((weirkeeperlaw06_awake.f k).bind fun t297 => (some t297)) else (some false))) = some true := H
          have A12 := Aside0.mk A120
          clear A120
          replace H := Option.bind_eq_some_iff.mp H
          obtain ⟨t296, A130, H⟩ := H
          replace H : (if (t293.length : Int) = t296 then ((weirkeeperlaw06_awake.f k).bind fun t297 => (some t297)) else (some false)) = some true := H
          have A13 := Aside0.mk A130
          clear A130
          by_cases c14 : (t293.length : Int) = t296
          · rw [if_pos c14] at H
            have c14b0 : ((t293.length : Int) == t296) = true := beq_iff_eq.mpr c14
            have c14b1 : ((t293.length : Int) != t296) = false := bne_eq_false_iff_eq.mpr c14
            clear c14
            replace H := Option.bind_eq_some_iff.mp H
            obtain ⟨t297, A150, H⟩ := H
            replace H : (some t297) = some true := H
            have A15 := Aside0.mk A150
            clear A150
            (have H9_ := Option.some.inj H; first | subst H9_ | (have h9_ := Aside0.mk H9_; clear H9_))
            go_enter Try.func6, Try.ntmps6
            go_wp2_with (first | ((with_reducible refine gate_callee (f := 20) rfl ?_); refine goesL_ (some 18) rfl rfl Try.func20 (by kernel_rfl) rfl #[.int .i64 ji3] rfl (by (try simp only [List.map_toArray, List.map_cons, List.map_nil]); first | done | (simp only [hji3]; rfl) | rfl | (simp only [List.length_drop, List.length_take]; rfl)) ?_; (with_reducible refine (block_Need.calls ji3 t288 _ A4.out).mono ?_); rintro e w' ⟨rfl, ⟨nd, rfl⟩⟩; refine ⟨_, rfl, ?_⟩) | ((with_reducible refine gate_callee (f := 20) rfl ?_); refine goesL_ (some 22) rfl rfl Try.func20 (by kernel_rfl) rfl #[.int .i64 ji5] rfl (by (try simp only [List.map_toArray, List.map_cons, List.map_nil]); first | done | (simp only [hji5]; rfl) | rfl | (simp only [List.length_drop, List.length_take]; rfl)) ?_; (with_reducible refine (block_Need.calls ji5 t289 _ A6.out).mono ?_); rintro e w' ⟨rfl, ⟨nd, rfl⟩⟩; refine ⟨_, rfl, ?_⟩) | ((with_reducible refine gate_dst (N := 33) rfl ?_); (try (refine gate_guard (by rfl) ?_; dsimp only)); refine Kd.R_make (Kd.int .u8) _ 5 rfl (N := 33) rfl 44 _ _ rfl ji9 rfl rfl Try.underlying44 (.int .u8 0) 1 info5 rfl (by decide) (by omega) 0 (ok := fun _ => True) (okp := fun _ => True) rfl (fun _ hk => hk) trivial (of_decide_eq_true (by first | (with_reducible assumption) | assumption)) (Nat.le_trans (Nat.mul_le_mul_right _ (of_decide_eq_true (by first | (with_reducible assumption) | assumption) : ji9.toNat ≤ 281474976710656)) (by omega)) (Below.refl _ _) (Nat.le_refl _) ?_; intro v291 w16 ho17 hb hg_ hnew_; clear hg_ hnew_; (first | rw [← Ny290.out] at ho17 | (simp only [Int.reduceToNat] at ho17; rw [← Ny290.out] at ho17)); have n0_ := Aside0.mk (Kd.R_lower ho17 (below_size (by repeat (first | (with_reducible first | exact HB.out | apply below_alloc | apply pw_below_drewN | apply below_drew1) | exact HB.out)))); have n1_ := Aside0.mk (below_step (by repeat (first | (with_reducible first | exact HB.out | apply below_alloc | apply pw_below_drewN | apply below_drew1) | exact HB.out)) hb); clear HB; have HO292 := n0_; have HB := n1_; clear n0_ n1_; clear hb ho17; have hcv18 := own_string (P := Try.prog) Try.underlying44 Try.underlying5 Try.underlying9 (Kd.own_of_R HO292.out)) | (go_at_call 26; (with_reducible refine (block_Cut.calls (strOfNums y290) t293 _ A12.out).mono ?_); rintro e w19 ⟨v294, rfl, ho0, hb⟩; have n0_ := Aside0.mk (Kd.R_below (by (with_reducible repeat (first | apply Kd.R_alloc | apply Kd.R_drewN | apply Kd.R_drew)); exact HO292.out) hb); have n1_ := Aside0.mk (Kd.R_lower ho0 (below_size (by repeat (first | (with_reducible first | exact HB.out | apply below_alloc | apply pw_below_drewN | apply below_drew1) | exact HB.out)))); have n2_ := Aside0.mk (below_step (by repeat (first | (with_reducible first | exact HB.out | apply below_alloc | apply pw_below_drewN | apply below_drew1) | exact HB.out)) hb); clear HO292; clear HB; have HO292 := n0_; have HO295 := n1_; have HB := n2_; clear n0_ n1_ n2_; (try clear hb); (try clear hb2); (try clear hk); (try clear hi); (try clear ho0); obtain ⟨Ao20, co20, eo20⟩ := Kd.R_slice HO295.out; subst eo20) | (go_at_call 20; (with_reducible refine (block_Need.calls (wrap64 (Int.tmod a0 3000)) t296 _ A13.out).mono ?_); rintro e w' ⟨rfl, ⟨nd, rfl⟩⟩) | (go_at_call 17; (with_reducible refine (weirkeeperlaw06_awake.calls k _ A15.out).mono ?_); rintro e w21 ⟨rfl, hb⟩; have n0_ := Aside0.mk (Kd.R_below (by (with_reducible repeat (first | apply Kd.R_alloc | apply Kd.R_drewN | apply Kd.R_drew)); exact HO292.out) hb); have n1_ := Aside0.mk (Kd.R_below (by (with_reducible repeat (first | apply Kd.R_alloc | apply Kd.R_drewN | apply Kd.R_drew)); exact HO295.out) hb); have n2_ := Aside0.mk (below_step (by repeat (first | (with_reducible first | exact HB.out | apply below_alloc | apply pw_below_drewN | apply below_drew1) | exact HB.out)) hb); clear HO292; clear HO295; clear HB; have HO292 := n0_; have HO295 := n1_; have HB := n2_; clear n0_ n1_ n2_; (try clear hb); (try clear hb2); (try clear hk); (try clear hi)))
            go_ret
            exact ⟨by first | rfl | (simp only [h9_.out]; done) | (have h8_ := h9_.out; simp [h8_]; done) | (simp [errW_none, errW_some] <;> rfl) | (simp only [← hji3, ← hji5, ← hji9]; first | rfl | (simp [errW_none, errW_some] <;> rfl)) | (simp [*, errW_none, errW_some] <;> rfl), by repeat (first | (with_reducible first | exact HB.out | apply below_alloc | apply pw_below_drewN | apply below_drew1) | exact HB.out)⟩
          · rw [if_neg c14] at H
            have c14b0 : ((t293.length : Int) == t296) = false := beq_eq_false_iff_ne.mpr c14
            have c14b1 : ((t293.length : Int) != t296) = true := bne_iff_ne.mpr c14
            exact absurd H (by simp)
        · rw [if_neg c11] at H
          exact absurd H (by simp)
      · rw [if_neg c10] at H
        exact absurd H (by simp)
    · rw [if_neg c8] at H
      have c8b0 : decide (1 ≤ t288) = false := decide_eq_false c8
      clear c8
      exact absurd H (by simp)
  · rw [if_neg c7] at H
    have c7b0 : decide (t288 ≤ t289) = false := decide_eq_false c7
    clear c7
    exact absurd H (by simp)


end Go.Proofs.Ytpkapldkmleppaa.F
