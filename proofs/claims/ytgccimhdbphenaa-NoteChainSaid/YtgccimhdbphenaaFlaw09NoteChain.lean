/- Contracts of Go functions of the seat Ytgccimhdbphenaa: what a call comes to; no condition but those that each theorem names. -/
import Derived.Test.YtgccimhdbphenaaFPre
import Derived.Test.YtgccimhdbphenaaFnote
import Derived.Test.YtgccimhdbphenaaFlaw09awake
import Derived.Test.YtgccimhdbphenaaFlaw09short
namespace Go.Proofs.Ytgccimhdbphenaa.F
open Go.RowKit Go.Proofs.YtgccimhdbphenaaW.PrintWords Go.Proofs.YtgccimhdbphenaaW.PrintLast Go.Proofs.YtgccimhdbphenaaW.PrintMore
attribute [local go_sem] max2_int min2_int max_two min_two max_three min_three max_four min_four   -- for this text's walks alone
set_option linter.unusedVariables false
set_option linter.unusedSimpArgs false

/-! ### weirkeeperlaw09_NoteChain: function 13 -/
mutual
def weirkeeperlaw09_NoteChain.j0 : Nat → ByteArray → Bool → List (S55) → Bool → Option (Bool)
  | 0, _, _, _, _ => none
  | k + 1, x0, x1, x2, x31 => if x31 = true then ((weirkeeperlaw09_awake.f k).bind fun t438 => (some t438)) else (if 0 < (x2.length : Int) then (if 1 ≤ (x2.length : Int) then ((some (x2.drop 1 : List (S55))).bind fun y441 => (weirkeeperlaw09_NoteChain.l0 k x0 x1 x2 y441 (y441.length : Int) 0 ((rd_T55 x2 0).f0) ((rd_T55 x2 0).f1) ((rd_T55 x2 0).f2) ((rd_T55 x2 0).f3))) else (none)) else (none))
def weirkeeperlaw09_NoteChain.l0 : Nat → ByteArray → Bool → List (S55) → List (S55) → Int → Int → Int → ByteArray → ByteArray → Int → Option (Bool)
  | 0, _, _, _, _, _, _, _, _, _, _ => none
  | k + 1, x0, x1, x2, x37, x38, x39, x441000, x441001, x441002, x441003 => if x39 < x38 then (if 0 ≤ x39 then (if x39 < (x37.length : Int) then ((note_Both.f k x441000 x441001 x441002 x441003 ((rd_T55 x37 x39).f0) ((rd_T55 x37 x39).f1) ((rd_T55 x37 x39).f2) ((rd_T55 x37 x39).f3)).bind fun bt447 => (weirkeeperlaw09_NoteChain.l0 k x0 x1 x2 x37 x38 (wrap64 (x39 + 1)) bt447.1 bt447.2.1 bt447.2.2.1 bt447.2.2.2)) else (none)) else (none)) else ((note_Done.f k x0 x1 x2).bind fun bt451 => ((note_Done.f k x0 x1 (([(⟨x441000, x441001, x441002, x441003⟩ : S55)] : List (S55)))).bind fun bt456 => (if bt451.1.toList = bt456.1.toList then (if (bt451.2 == bt456.2) = true then (if 0 ≤ (wrap64 ((x2.length : Int) - 1)) then (if (wrap64 ((x2.length : Int) - 1)) < (x2.length : Int) then (if x441001.toList = ((rd_T55 x2 (wrap64 ((x2.length : Int) - 1))).f1).toList then ((weirkeeperlaw09_awake.f k).bind fun t459 => (some t459)) else (some false)) else (none)) else (none)) else (some false)) else (some false))))
end
def weirkeeperlaw09_NoteChain.f (k : Nat) (a0 : ByteArray) (a1 : Bool) (l2 : List (S55)) : Option (Bool) := if (a0.size : Int) > 300 then (weirkeeperlaw09_NoteChain.j0 k a0 a1 l2 true) else (if (l2.length : Int) > 60 then (weirkeeperlaw09_NoteChain.j0 k a0 a1 l2 true) else (if (l2.length : Int) = 0 then (weirkeeperlaw09_NoteChain.j0 k a0 a1 l2 true) else ((weirkeeperlaw09_short.f k l2).bind fun t437 => (weirkeeperlaw09_NoteChain.j0 k a0 a1 l2 (!t437)))))
theorem weirkeeperlaw09_NoteChain.mono_l : ∀ k, (∀ y0 y1 y2 y3, LeO (weirkeeperlaw09_NoteChain.j0 k y0 y1 y2 y3) (weirkeeperlaw09_NoteChain.j0 (k + 1) y0 y1 y2 y3)) ∧ (∀ y0 y1 y2 y3 y4 y5 y6 y7 y8 y9, LeO (weirkeeperlaw09_NoteChain.l0 k y0 y1 y2 y3 y4 y5 y6 y7 y8 y9) (weirkeeperlaw09_NoteChain.l0 (k + 1) y0 y1 y2 y3 y4 y5 y6 y7 y8 y9))
  | 0 => ⟨fun _ _ _ _ r h => by simp [weirkeeperlaw09_NoteChain.j0] at h, fun _ _ _ _ _ _ _ _ _ _ r h => by simp [weirkeeperlaw09_NoteChain.l0] at h⟩
  | k + 1 => by
    obtain ⟨ih0, ih1⟩ := weirkeeperlaw09_NoteChain.mono_l k
    refine ⟨?_, ?_⟩
    · intro y0 y1 y2 y3
      unfold weirkeeperlaw09_NoteChain.j0
      repeat' first
      | (with_reducible exact ih0 _ _ _ _)
      | (with_reducible exact ih1 _ _ _ _ _ _ _ _ _ _)
      | (with_reducible exact note_Both.mono _ _ _ _ _ _ _ _ _)
      | (with_reducible exact note_Done.mono _ _ _ _)
      | (with_reducible exact weirkeeperlaw09_awake.mono _)
      | (with_reducible exact weirkeeperlaw09_short.mono _ _)
      | (with_reducible exact LeO.refl _)
      | (with_reducible exact LeO.none _)
      | (with_reducible refine LeO.ite ?_ ?_)
      | (with_reducible refine LeO.bind ?_ (fun _ => ?_))
      | exact ih0 _ _ _ _
      | exact ih1 _ _ _ _ _ _ _ _ _ _
      | exact note_Both.mono _ _ _ _ _ _ _ _ _
      | exact note_Done.mono _ _ _ _
      | exact weirkeeperlaw09_awake.mono _
      | exact weirkeeperlaw09_short.mono _ _
      | exact LeO.none _
      | refine LeO.ite ?_ ?_
      | refine LeO.bind ?_ (fun _ => ?_)
    · intro y0 y1 y2 y3 y4 y5 y6 y7 y8 y9
      unfold weirkeeperlaw09_NoteChain.l0
      repeat' first
      | (with_reducible exact ih0 _ _ _ _)
      | (with_reducible exact ih1 _ _ _ _ _ _ _ _ _ _)
      | (with_reducible exact note_Both.mono _ _ _ _ _ _ _ _ _)
      | (with_reducible exact note_Done.mono _ _ _ _)
      | (with_reducible exact weirkeeperlaw09_awake.mono _)
      | (with_reducible exact weirkeeperlaw09_short.mono _ _)
      | (with_reducible exact LeO.refl _)
      | (with_reducible exact LeO.none _)
      | (with_reducible refine LeO.ite ?_ ?_)
      | (with_reducible refine LeO.bind ?_ (fun _ => ?_))
      | exact ih0 _ _ _ _
      | exact ih1 _ _ _ _ _ _ _ _ _ _
      | exact note_Both.mono _ _ _ _ _ _ _ _ _
      | exact note_Done.mono _ _ _ _
      | exact weirkeeperlaw09_awake.mono _
      | exact weirkeeperlaw09_short.mono _ _
      | exact LeO.none _
      | refine LeO.ite ?_ ?_
      | refine LeO.bind ?_ (fun _ => ?_)
theorem weirkeeperlaw09_NoteChain.mono : ∀ a0 a1 a2 k, LeO (weirkeeperlaw09_NoteChain.f k a0 a1 a2) (weirkeeperlaw09_NoteChain.f (k + 1) a0 a1 a2) := by
  intro a0 a1 a2 k
  obtain ⟨ih0, ih1⟩ := weirkeeperlaw09_NoteChain.mono_l k
  unfold weirkeeperlaw09_NoteChain.f
  repeat' first
      | (with_reducible exact ih0 _ _ _ _)
      | (with_reducible exact ih1 _ _ _ _ _ _ _ _ _ _)
      | (with_reducible exact note_Both.mono _ _ _ _ _ _ _ _ _)
      | (with_reducible exact note_Done.mono _ _ _ _)
      | (with_reducible exact weirkeeperlaw09_awake.mono _)
      | (with_reducible exact weirkeeperlaw09_short.mono _ _)
      | (with_reducible exact LeO.refl _)
      | (with_reducible exact LeO.none _)
      | (with_reducible refine LeO.ite ?_ ?_)
      | (with_reducible refine LeO.bind ?_ (fun _ => ?_))
      | exact ih0 _ _ _ _
      | exact ih1 _ _ _ _ _ _ _ _ _ _
      | exact note_Both.mono _ _ _ _ _ _ _ _ _
      | exact note_Done.mono _ _ _ _
      | exact weirkeeperlaw09_awake.mono _
      | exact weirkeeperlaw09_short.mono _ _
      | exact LeO.none _
      | refine LeO.ite ?_ ?_
      | refine LeO.bind ?_ (fun _ => ?_)
def weirkeeperlaw09_NoteChain.T11 : Bool × List (List Nat × List Nat) := (true, [([], []), ([], []), ([0, 1], [0, 1]), ([2], [2]), ([3], [3]), ([3], [3]), ([4, 5, 3], [3, 4, 5]), ([3, 6], [3, 6]), ([7, 3], [7]), ([8], [8]), ([9, 8], [8, 9]), ([8], [8]), ([8], [8]), ([12, 8], [8, 12]), ([13, 8], [8, 13]), ([11, 14, 8], [8, 11, 14]), ([15, 8], [8, 15]), ([16, 8], [8, 16]), ([10, 17, 8], [8, 10, 17]), ([8, 18], [8, 18]), ([19, 8], [19]), ([20, 20], [20]), ([20, 21], [20, 21]), ([22, 21, 0, 1, 2, 3, 4, 5, 6, 7, 8, 9, 10, 11, 12, 13, 14, 15, 16, 17, 18, 19, 20, 21, 22], [22])])
def weirkeeperlaw09_NoteChain.B11 : List Nat := [0, 0, 3, 7, 15, 15, 63, 127, 255, 511, 1023, 511, 511, 4607, 12799, 31231, 63999, 129535, 262143, 524287, 1048575, 2097151, 4194303, 8388607]
theorem weirkeeperlaw09_NoteChain.tab11 : rtab .any (opsOf Try.f13 11) = weirkeeperlaw09_NoteChain.T11 := by kernel_rfl
theorem weirkeeperlaw09_NoteChain.bits11 : waitsOk weirkeeperlaw09_NoteChain.T11.2 weirkeeperlaw09_NoteChain.B11 = true := by kernel_rfl
set_option maxHeartbeats 8000000 in
set_option maxRecDepth 100000 in
theorem weirkeeperlaw09_NoteChain.calls (k : Nat) (a0 : ByteArray) (a1 : Bool) (A2 : Option Addr) (c2 : Nat) (l2 : List (S55)) (w : World) (hr2 : Kd.C k55 w A2 l2.length l2) (hc2 : l2.length ≤ c2) (h : weirkeeperlaw09_NoteChain.f k a0 a1 l2 = some true) :
    Calls Try.prog 13 #[.string a0, .bool a1, .slice A2 l2.length c2] w fun e w' => e = .returned (.bool true) ∧ Below w.heap.size w w' := by
  have hu55 := Try.underlying55
  have HR2 := Aside0.mk hr2
  have HC2 := Aside0.mk hc2
  clear hr2 hc2
  have HB := Aside0.mk (Below.refl w.heap.size w)
  have H : (if (a0.size : Int) > 300 then (weirkeeperlaw09_NoteChain.j0 k a0 a1 l2 true) else (if (l2.length : Int) > 60 then (weirkeeperlaw09_NoteChain.j0 k a0 a1 l2 true) else (if (l2.length : Int) = 0 then (weirkeeperlaw09_NoteChain.j0 k a0 a1 l2 true) else ((weirkeeperlaw09_short.f k l2).bind fun t437 => (weirkeeperlaw09_NoteChain.j0 k a0 a1 l2 (!t437)))))) = some true := h
  clear h
  have HC4 := Aside0.mk H
  clear H
  go_enter Try.func13, Try.ntmps13
  go_upto_region 1 with (fail)
  go_cut [31] (fun v31 wc => ∃ (kq : Nat) (x31_3 : Bool), v31 = .bool x31_3 ∧ Aside0 (weirkeeperlaw09_NoteChain.j0 kq a0 a1 l2 x31_3 = some true) ∧ Aside0 (kq ≤ k) ∧ Aside0 (Below w.heap.size w wc))
  case first =>
    have H := HC4.out
    clear HC4
    by_cases c5 : (a0.size : Int) > 300
    · rw [if_pos c5] at H
      have c5b0 : decide (300 < (a0.size : Int)) = true := decide_eq_true c5
      have c5b1 : decide (300 < a0.size) = true := decide_eq_true (by omega)
      clear c5
      (first | rw [c5b0] | (simp only [i64_w, i32_w]; rw [c5b0]) | skip)
      have H' := Aside0.mk H
      clear H
      go_wp2
      go_meet
      case rel => exact ⟨_, (true), (by first | rfl | (simp; done) | (simp [*]; done)), H', ⟨by first | omega | exact Nat.le_refl _⟩, ⟨by repeat (first | (with_reducible first | exact HB.out | apply below_alloc | apply pw_below_drewN | apply below_drew1) | exact HB.out)⟩⟩
    · rw [if_neg c5] at H
      have c5b0 : decide (300 < (a0.size : Int)) = false := decide_eq_false c5
      have c5b1 : decide (300 < a0.size) = false := decide_eq_false (by omega)
      clear c5
      (first | rw [c5b0] | (simp only [i64_w, i32_w]; rw [c5b0]) | skip)
      by_cases c6 : (l2.length : Int) > 60
      · rw [if_pos c6] at H
        have c6b0 : decide (60 < (l2.length : Int)) = true := decide_eq_true c6
        have c6b1 : decide (60 < l2.length) = true := decide_eq_true (by omega)
        clear c6
        have H' := Aside0.mk H
        clear H
        go_wp2
        go_meet
        case rel => exact ⟨_, (true), (by first | rfl | (simp; done) | (simp [*]; done)), H', ⟨by first | omega | exact Nat.le_refl _⟩, ⟨by repeat (first | (with_reducible first | exact HB.out | apply below_alloc | apply pw_below_drewN | apply below_drew1) | exact HB.out)⟩⟩
      · rw [if_neg c6] at H
        have c6b0 : decide (60 < (l2.length : Int)) = false := decide_eq_false c6
        have c6b1 : decide (60 < l2.length) = false := decide_eq_false (by omega)
        clear c6
        by_cases c7 : (l2.length : Int) = 0
        · rw [if_pos c7] at H
          have c7b0 : ((l2.length : Int) == 0) = true := beq_iff_eq.mpr c7
          have c7b1 : ((l2.length : Int) != 0) = false := bne_eq_false_iff_eq.mpr c7
          clear c7
          have H' := Aside0.mk H
          clear H
          go_wp2
          go_meet
          case rel => exact ⟨_, (true), (by first | rfl | (simp; done) | (simp [*]; done)), H', ⟨by first | omega | exact Nat.le_refl _⟩, ⟨by repeat (first | (with_reducible first | exact HB.out | apply below_alloc | apply pw_below_drewN | apply below_drew1) | exact HB.out)⟩⟩
        · rw [if_neg c7] at H
          have c7b0 : ((l2.length : Int) == 0) = false := beq_eq_false_iff_ne.mpr c7
          have c7b1 : ((l2.length : Int) != 0) = true := bne_iff_ne.mpr c7
          have c7b2 : ¬ (l2 = []) := fun h_ => c7 (by rw [h_]; rfl)
          replace H := Option.bind_eq_some_iff.mp H
          obtain ⟨t437, A80, H⟩ := H
          replace H : (weirkeeperlaw09_NoteChain.j0 k a0 a1 l2 (!t437)) = some true := H
          have A8 := Aside0.mk A80
          clear A80
          have H' := Aside0.mk H
          clear H
          go_wp2_with (first | (go_at_call 28; (with_reducible refine (weirkeeperlaw09_short.calls k _ _ l2 t437 _ ?side1 ?side2 A8.out).mono ?_); (case side1 => repeat (first | exact (Kd.C_below HR2.out HB.out) | (with_reducible refine Kd.C_alloc ?_ _) | (with_reducible refine Kd.C_drewN ?_ _) | (with_reducible refine Kd.C_drew ?_))); (case side2 => exact HC2.out); rintro e w9 ⟨rfl, hb⟩; have n0_ := Aside0.mk (below_step (by repeat (first | (with_reducible first | exact HB.out | apply below_alloc | apply pw_below_drewN | apply below_drew1) | exact HB.out)) hb); clear HB; have HB := n0_; clear n0_; (try clear hb); (try clear hb2); (try clear hk); (try clear hi)))
          go_meet
          case rel => exact ⟨_, (!t437), (by first | rfl | (simp; done) | (simp [*]; done)), H', ⟨by first | omega | exact Nat.le_refl _⟩, ⟨by repeat (first | (with_reducible first | exact HB.out | apply below_alloc | apply pw_below_drewN | apply below_drew1) | exact HB.out)⟩⟩
  case rest =>
    clear HC4
    try clear c1
    try clear c2
    try clear p2
    try clear c5
    try clear c5b0
    try clear c5b1
    try clear c6
    try clear c6b0
    try clear c6b1
    try clear c7
    try clear c7b0
    try clear c7b1
    try clear c7b2
    obtain ⟨kq, x31_3, rfl, HA, HJ3, HB⟩ := hcut
    cases kq with
    | zero => exact absurd HA.out (by simp [weirkeeperlaw09_NoteChain.j0])
    | succ kj3 =>
      have H := HA.out
      clear HA
      simp only [weirkeeperlaw09_NoteChain.j0] at H
      by_cases c10 : x31_3 = true
      · subst c10
        have H1 : ((weirkeeperlaw09_awake.f kj3).bind fun t438 => (some t438)) = some true := by rw [if_pos rfl] at H; exact H
        clear H
        have H := H1
        clear H1
        replace H := Option.bind_eq_some_iff.mp H
        obtain ⟨t438, A110, H⟩ := H
        replace H : (some t438) = some true := H
        have A11 := Aside0.mk A110
        clear A110
        (have H9_ := Option.some.inj H; first | subst H9_ | clear H9_)
        go_wp2_with (first | ((with_reducible refine gate_callee (f := 29) rfl ?_); refine goesL_ (some 32) rfl rfl Try.func29 (by kernel_rfl) rfl #[] rfl (by (try simp only [List.map_toArray, List.map_cons, List.map_nil]); first | done | rfl | (simp only [List.length_drop, List.length_take]; rfl)) ?_; (with_reducible refine (weirkeeperlaw09_awake.calls kj3 _ A11.out).mono ?_); rintro e w12 ⟨rfl, hb⟩; refine ⟨_, rfl, ?_⟩; have n0_ := Aside0.mk (below_step (by repeat (first | (with_reducible first | exact HB.out | apply below_alloc | apply pw_below_drewN | apply below_drew1) | exact HB.out)) hb); clear HB; have HB := n0_; clear n0_; (try clear hb); (try clear hb2); (try clear hk); (try clear hi)))
        go_ret
        exact ⟨by first | rfl | (simp [errW_none, errW_some] <;> rfl) | (simp [*, errW_none, errW_some] <;> rfl), by repeat (first | (with_reducible first | exact HB.out | apply below_alloc | apply pw_below_drewN | apply below_drew1) | exact HB.out)⟩
      · replace c10 := Bool.eq_false_iff.mpr c10
        subst c10
        have H1 : (if 0 < (l2.length : Int) then (if 1 ≤ (l2.length : Int) then ((some (l2.drop 1 : List (S55))).bind fun y441 => (weirkeeperlaw09_NoteChain.l0 kj3 a0 a1 l2 y441 (y441.length : Int) 0 ((rd_T55 l2 0).f0) ((rd_T55 l2 0).f1) ((rd_T55 l2 0).f2) ((rd_T55 l2 0).f3))) else (none)) else (none)) = some true := by rw [if_neg (show ¬ (false = true) by decide)] at H; exact H
        clear H
        have H := H1
        clear H1
        by_cases c13 : 0 < (l2.length : Int)
        · rw [if_pos c13] at H
          have c13b0 : decide (0 < (l2.length : Int)) = true := decide_eq_true c13
          have c13b1 : decide (0 < l2.length) = true := decide_eq_true (by omega)
          clear c13
          by_cases c14 : 1 ≤ (l2.length : Int)
          · rw [if_pos c14] at H
            have c14b0 := eq_true c14
            have c14b1 : decide (1 ≤ (l2.length : Int)) = true := decide_eq_true c14
            clear c14
            obtain ⟨y441, hy441⟩ : ∃ y_ : List (S55), y_ = (l2.drop 1) := ⟨_, rfl⟩
            replace H : (weirkeeperlaw09_NoteChain.l0 kj3 a0 a1 l2 y441 (y441.length : Int) 0 ((rd_T55 l2 0).f0) ((rd_T55 l2 0).f1) ((rd_T55 l2 0).f2) ((rd_T55 l2 0).f3)) = some true := by first | (rw [hy441]; with_reducible exact H) | (have H2_ := (Option.bind_some _ _).symm.trans H; rw [hy441]; with_reducible exact H2_) | (have H2_ := (Option.bind_some _ _).symm.trans H; with_reducible exact H2_) | with_reducible exact H | (rw [hy441]; exact H) | exact H
            have Ny441 := Aside0.mk hy441
            clear hy441
            have H' := Aside0.mk H
            clear H
            have p439 : 0 ≤ (0 : Int) := (by omega)
            have q439 : 0 < (l2.length : Int) := of_decide_eq_true (by first | (with_reducible assumption) | assumption)
            obtain ⟨ad439, e439, hx439_0, hx439_1, hx439_2, hx439_3⟩ := at_T55 HR2.out 0 p439 q439
            cases e439
            have qi439 : (0 < l2.length) = True := eq_true (by omega)
            (try rw [show ((0 : Int)).toNat = 0 from rfl] at hx439_0)
            (try rw [show 0 * 4 = 0 from rfl] at hx439_0)
            (try rw [Addr.add_zero'] at hx439_0)
            (try rw [show ((0 : Int)).toNat = 0 from rfl] at hx439_1)
            (try rw [show 0 * 4 = 0 from rfl] at hx439_1)
            (try rw [Addr.add_zero'] at hx439_1)
            (try rw [show ((0 : Int)).toNat = 0 from rfl] at hx439_2)
            (try rw [show 0 * 4 = 0 from rfl] at hx439_2)
            (try rw [Addr.add_zero'] at hx439_2)
            (try rw [show ((0 : Int)).toNat = 0 from rfl] at hx439_3)
            (try rw [show 0 * 4 = 0 from rfl] at hx439_3)
            (try rw [Addr.add_zero'] at hx439_3)
            replace hx439_0 := (HB.out.cell (World.block_lt_of_cell? w _ hx439_0)).trans hx439_0
            replace hx439_1 := (HB.out.cell (World.block_lt_of_cell? w _ hx439_1)).trans hx439_1
            replace hx439_2 := (HB.out.cell (World.block_lt_of_cell? w _ hx439_2)).trans hx439_2
            replace hx439_3 := (HB.out.cell (World.block_lt_of_cell? w _ hx439_3)).trans hx439_3
            replace p439 := eq_true p439
            replace q439 := eq_true q439
            go_wp2_with (first | ((with_reducible refine gate_dst (N := 7) rfl ?_); (try (refine gate_guard (by rfl) ?_; dsimp only)); refine box_event ?hg (N := 7) ?hd (cs := #[.int .i64 0, .string (⟨#[]⟩ : ByteArray), .string (⟨#[]⟩ : ByteArray), .int .u64 0]) (t := 55) ?hr ?_; (case hd => rfl); (case hg => rfl); (case hr => first | (go_simp; done) | (go_simp; rfl)); intro gb440 hg w15 hbox hb; have n0_ := Aside0.mk (below_step (by repeat (first | (with_reducible first | exact HB.out | apply below_alloc | apply pw_below_drewN | apply below_drew1) | exact HB.out)) hb); have n1_ := Aside0.mk (hbox); have n2_ := Aside0.mk ((by rw [hg]; exact (below_size (by repeat (first | (with_reducible first | exact HB.out | apply below_alloc | apply pw_below_drewN | apply below_drew1) | exact HB.out))) : w.heap.size ≤ gb440)); have n3_ := Aside0.mk ((by rw [hg]; exact (below_size (by repeat (first | (with_reducible first | exact HB.out | apply below_alloc | apply pw_below_drewN | apply below_drew1) | exact HB.out))) : w.heap.size ≤ gb440)); clear HB; have HB := n0_; have BK440 := n1_; have GW440 := n2_; have GE440 := n3_; clear n0_ n1_ n2_ n3_; clear hb hbox hg; have hcz16_0 : w15.cell? ⟨gb440, 0, none⟩ = some (.int .i64 0) := (blk_cell BK440.out 0).trans rfl; have hcz16_1 : w15.cell? ⟨gb440, 1, none⟩ = some (.string (⟨#[]⟩ : ByteArray)) := (blk_cell BK440.out 1).trans rfl; have hcz16_2 : w15.cell? ⟨gb440, 2, none⟩ = some (.string (⟨#[]⟩ : ByteArray)) := (blk_cell BK440.out 2).trans rfl; have hcz16_3 : w15.cell? ⟨gb440, 3, none⟩ = some (.int .u64 0) := (blk_cell BK440.out 3).trans rfl; have hfz16_0 := blk_frozen BK440.out 0; have hfz16_1 := blk_frozen BK440.out 1; have hfz16_2 := blk_frozen BK440.out 2; have hfz16_3 := blk_frozen BK440.out 3) | ((with_reducible refine gate_store (t := 55) (p := 7) rfl ?_); refine store_event (t := 55) (p := 7) (v := ?vo_w17) (w1 := ((((w15.setCell ⟨gb440, 0, none⟩ (.int .i64 ((rd_T55 l2 0).f0))).setCell ⟨gb440, 1, none⟩ (.string ((rd_T55 l2 0).f1))).setCell ⟨gb440, 2, none⟩ (.string ((rd_T55 l2 0).f2))).setCell ⟨gb440, 3, none⟩ (.int .u64 ((rd_T55 l2 0).f3)))) ?hg ?ho ?hn ?hr ?_; (case ho => rfl); (case hg => rfl); (case hn => rfl); (case hr => first | (go_simp; done) | (go_simp; rfl)); intro w17 hw; have n0_ : Aside0 (w17.heap[gb440]? = some (.cells #[.int .i64 ((rd_T55 l2 0).f0), .string ((rd_T55 l2 0).f1), .string ((rd_T55 l2 0).f2), .int .u64 ((rd_T55 l2 0).f3)] 55 (0, 0))) := ⟨(by rw [hw]; exact (by (with_reducible repeat (first | refine blk_drewN ?_ _ | refine blk_drew ?_ | refine blk_alloc ?_ _)); refine blk_put (cs := #[.int .i64 ((rd_T55 l2 0).f0), .string ((rd_T55 l2 0).f1), .string ((rd_T55 l2 0).f2), .int .u64 0]) ?_ 3 _ rfl; (with_reducible repeat (first | refine blk_drewN ?_ _ | refine blk_drew ?_ | refine blk_alloc ?_ _)); refine blk_put (cs := #[.int .i64 ((rd_T55 l2 0).f0), .string ((rd_T55 l2 0).f1), .string (⟨#[]⟩ : ByteArray), .int .u64 0]) ?_ 2 _ rfl; (with_reducible repeat (first | refine blk_drewN ?_ _ | refine blk_drew ?_ | refine blk_alloc ?_ _)); refine blk_put (cs := #[.int .i64 ((rd_T55 l2 0).f0), .string (⟨#[]⟩ : ByteArray), .string (⟨#[]⟩ : ByteArray), .int .u64 0]) ?_ 1 _ rfl; (with_reducible repeat (first | refine blk_drewN ?_ _ | refine blk_drew ?_ | refine blk_alloc ?_ _)); refine blk_put (cs := #[.int .i64 0, .string (⟨#[]⟩ : ByteArray), .string (⟨#[]⟩ : ByteArray), .int .u64 0]) ?_ 0 _ rfl; (with_reducible repeat (first | refine blk_drewN ?_ _ | refine blk_drew ?_ | refine blk_alloc ?_ _)); exact BK440.out))⟩; have n1_ : Aside0 (Below w.heap.size w w17) := ⟨(by rw [hw]; exact (by repeat (first | (with_reducible first | exact HB.out | apply below_alloc | apply pw_below_drewN | apply below_drew1 | refine below_set ?_ GE440.out) | exact HB.out)))⟩; clear hw; clear BK440; clear HB; have BK440 := n0_; have HB := n1_; clear n0_ n1_; have q18 : (1 : Int) ≤ ((l2.length : Int) : Int) := of_decide_eq_true (by first | (with_reducible assumption) | assumption); obtain ⟨i018, hi018, _, hsz18, _⟩ := info_parts info55; have hroom18 : l2.length ≤ c2 := HC2.out; have hC18 : Kd.C k55 _ (some ad439) l2.length l2 := HR2.out; have hcut18 := cut_from (P := Try.prog) 63 55 .i64 Try.underlying63 hi018 4 hsz18 (some ad439) l2.length c2 1 (by omega) q18; have hr18 := Kd.C_drop (m := (1 : Int).toNat) (c := c2) hC18 (by omega) hroom18; obtain ⟨A18, hA18⟩ : ∃ A1, A1 = (if c2 = (1 : Int).toNat then (some ad439) else ((some ad439) : Option Addr).map (·.add ((1 : Int).toNat * 4))) := ⟨_, rfl⟩; obtain ⟨c18, hc18⟩ : ∃ c1, c1 = c2 - (1 : Int).toNat := ⟨_, rfl⟩; have hy18 : y441.length = l2.length - (1 : Int).toNat := (by rw [Ny441.out, List.length_drop] <;> omega); rw [show (l2).drop (1 : Int).toNat = y441 from Ny441.out.symm] at hr18; replace hr18 : Kd.C k55 _ A18 y441.length y441 := (by rw [hA18]; exact hr18); rw [← hy18, ← hA18, ← hc18] at hcut18; have HR444 := Aside0.mk hr18; have HC444 := Aside0.mk (show y441.length ≤ c18 from by rw [hy18, hc18]; exact Nat.sub_le_sub_right hroom18 _); clear hr18 hC18 hroom18 hi018 hsz18 hc18; have KY18 := Aside0.mk hy18; have KA18 := Aside0.mk hA18; clear hy18 hA18; replace q18 := eq_true q18))
            go_loopg [39] kj3 (fun kq v39 w' => ∃ (x39_2 : Int) (x441000_2 : Int) (x441001_2 : ByteArray) (x441002_2 : ByteArray) (x441003_2 : Int), v39 = .int .i64 x39_2 ∧ Aside0 (weirkeeperlaw09_NoteChain.l0 kq a0 a1 l2 y441 (y441.length : Int) x39_2 x441000_2 x441001_2 x441002_2 x441003_2 = some true) ∧ Aside0 (kq ≤ kj3) ∧ Aside0 (w'.heap[gb440]? = some (.cells #[.int .i64 x441000_2, .string x441001_2, .string x441002_2, .int .u64 x441003_2] 55 (0, 0))) ∧ Aside0 (Below w.heap.size w w'))
            case atStart => exact ⟨(0), ((rd_T55 l2 0).f0), ((rd_T55 l2 0).f1), ((rd_T55 l2 0).f2), ((rd_T55 l2 0).f3), (by first | rfl | (simp; done) | (simp [*]; done)), H', ⟨Nat.le_refl _⟩, ⟨by (with_reducible repeat (first | refine blk_drewN ?_ _ | refine blk_drew ?_ | refine blk_alloc ?_ _)); exact BK440.out⟩, ⟨by repeat (first | (with_reducible first | exact HB.out | apply below_alloc | apply pw_below_drewN | apply below_drew1 | refine below_set ?_ GE440.out) | exact HB.out)⟩⟩
            case round =>
              clear H'
              try clear c1
              try clear q1
              try clear c2
              try clear p2
              try clear p4
              try clear q4
              try clear hx4
              try clear qi4
              try clear c5
              try clear c5b0
              try clear c5b1
              try clear c6
              try clear c6b0
              try clear c6b1
              try clear c7
              try clear c7b0
              try clear c7b1
              try clear c7b2
              try clear c10
              try clear c13
              try clear c13b0
              try clear c13b1
              try clear c14
              try clear c14b0
              try clear c14b1
              try clear c18
              try clear q18
              try clear hcz16_0
              try clear hcz16_1
              try clear hcz16_2
              try clear hcz16_3
              try clear hfz16_0
              try clear hfz16_1
              try clear hfz16_2
              try clear hfz16_3
              try clear hx439_0
              try clear hx439_1
              try clear hx439_2
              try clear hx439_3
              try clear p2
              try clear p439
              try clear q18
              try clear q439
              obtain ⟨x39_2, x441000_2, x441001_2, x441002_2, x441003_2, rfl, HA, HK2, BK440, HB⟩ := hrel
              cases gk with
              | zero => exact absurd HA.out (by simp [weirkeeperlaw09_NoteChain.l0])
              | succ k2 =>
                have H := HA.out
                clear HA
                simp only [weirkeeperlaw09_NoteChain.l0] at H
                by_cases c19 : x39_2 < (y441.length : Int)
                · rw [if_pos c19] at H
                  have c19b0 : decide (x39_2 < (y441.length : Int)) = true := decide_eq_true c19
                  clear c19
                  by_cases c20 : 0 ≤ x39_2
                  · rw [if_pos c20] at H
                    have c20b0 : decide (0 ≤ x39_2) = true := decide_eq_true c20
                    clear c20
                    by_cases c21 : x39_2 < (y441.length : Int)
                    · rw [if_pos c21] at H
                      have c21b0 : decide (x39_2 < (y441.length : Int)) = true := decide_eq_true c21
                      clear c21
                      replace H := Option.bind_eq_some_iff.mp H
                      obtain ⟨⟨t447, t448, t449, t450⟩, A220, H⟩ := H
                      replace H : (weirkeeperlaw09_NoteChain.l0 k2 a0 a1 l2 y441 (y441.length : Int) (wrap64 (x39_2 + 1)) t447 t448 t449 t450) = some true := H
                      have A22 := Aside0.mk A220
                      clear A220
                      have H' := Aside0.mk H
                      clear H
                      have p445 : 0 ≤ (x39_2 : Int) := of_decide_eq_true (by first | (with_reducible assumption) | assumption)
                      have q445 : x39_2 < (y441.length : Int) := of_decide_eq_true (by first | (with_reducible assumption) | assumption)
                      obtain ⟨ad445, e445, hx445_0, hx445_1, hx445_2, hx445_3⟩ := at_T55 HR444.out x39_2 p445 q445
                      cases e445
                      replace hx445_0 := (HB.out.cell (World.block_lt_of_cell? w _ hx445_0)).trans hx445_0
                      replace hx445_1 := (HB.out.cell (World.block_lt_of_cell? w _ hx445_1)).trans hx445_1
                      replace hx445_2 := (HB.out.cell (World.block_lt_of_cell? w _ hx445_2)).trans hx445_2
                      replace hx445_3 := (HB.out.cell (World.block_lt_of_cell? w _ hx445_3)).trans hx445_3
                      replace p445 := eq_true p445
                      replace q445 := eq_true q445
                      go_wp2_with (first | ((with_reducible refine gate_dst (N := 9) rfl ?_); (try (refine gate_guard (by rfl) ?_; dsimp only)); refine box_event ?hg (N := 9) ?hd (cs := #[.int .i64 0, .string (⟨#[]⟩ : ByteArray), .string (⟨#[]⟩ : ByteArray), .int .u64 0]) (t := 55) ?hr ?_; (case hd => rfl); (case hg => rfl); (case hr => first | (go_simp; done) | (go_simp; rfl)); intro gb446 hg w23 hbox hb; have n0_ := Aside0.mk (blk_below (g := gb440) (o := .cells #[.int .i64 x441000_2, .string x441001_2, .string x441002_2, .int .u64 x441003_2] 55 (0, 0)) (by (with_reducible repeat (first | refine blk_drewN ?_ _ | refine blk_drew ?_ | refine blk_alloc ?_ _)); exact BK440.out) hb); have n1_ := Aside0.mk (below_step (by repeat (first | (with_reducible first | exact HB.out | apply below_alloc | apply pw_below_drewN | apply below_drew1 | refine below_set ?_ GE440.out) | exact HB.out)) hb); have n2_ := Aside0.mk (hbox); have n3_ := Aside0.mk ((by rw [hg]; exact (below_size (by repeat (first | (with_reducible first | exact HB.out | apply below_alloc | apply pw_below_drewN | apply below_drew1 | refine below_set ?_ GE440.out) | exact HB.out))) : w.heap.size ≤ gb446)); have n4_ := Aside0.mk ((by rw [hg]; exact (below_size (by repeat (first | (with_reducible first | exact HB.out | apply below_alloc | apply pw_below_drewN | apply below_drew1 | refine below_set ?_ GE440.out) | exact HB.out))) : w.heap.size ≤ gb446)); have n5_ := Aside0.mk ((by rw [hg]; exact Nat.ne_of_lt (blk_lt (g := gb440) (o := .cells #[.int .i64 x441000_2, .string x441001_2, .string x441002_2, .int .u64 x441003_2] 55 (0, 0)) (by (with_reducible repeat (first | refine blk_drewN ?_ _ | refine blk_drew ?_ | refine blk_alloc ?_ _)); exact BK440.out)) : gb440 ≠ gb446)); have n6_ := Aside0.mk ((by rw [hg]; exact Nat.ne_of_gt (blk_lt (g := gb440) (o := .cells #[.int .i64 x441000_2, .string x441001_2, .string x441002_2, .int .u64 x441003_2] 55 (0, 0)) (by (with_reducible repeat (first | refine blk_drewN ?_ _ | refine blk_drew ?_ | refine blk_alloc ?_ _)); exact BK440.out)) : gb446 ≠ gb440)); clear BK440; clear HB; have BK440 := n0_; have HB := n1_; have BK446 := n2_; have GW446 := n3_; have GE446 := n4_; have NB440_446 := n5_; have NB446_440 := n6_; clear n0_ n1_ n2_ n3_ n4_ n5_ n6_; clear hb hbox hg; have hnb24 := NB446_440.out; have hnc24 := NB440_446.out; have hcz25_0 : w23.cell? ⟨gb446, 0, none⟩ = some (.int .i64 0) := (blk_cell BK446.out 0).trans rfl; have hcz25_1 : w23.cell? ⟨gb446, 1, none⟩ = some (.string (⟨#[]⟩ : ByteArray)) := (blk_cell BK446.out 1).trans rfl; have hcz25_2 : w23.cell? ⟨gb446, 2, none⟩ = some (.string (⟨#[]⟩ : ByteArray)) := (blk_cell BK446.out 2).trans rfl; have hcz25_3 : w23.cell? ⟨gb446, 3, none⟩ = some (.int .u64 0) := (blk_cell BK446.out 3).trans rfl; have hfz25_0 := blk_frozen BK446.out 0; have hfz25_1 := blk_frozen BK446.out 1; have hfz25_2 := blk_frozen BK446.out 2; have hfz25_3 := blk_frozen BK446.out 3; have hcz26_0 : w23.cell? ⟨gb440, 0, none⟩ = some (.int .i64 x441000_2) := (blk_cell BK440.out 0).trans rfl; have hcz26_1 : w23.cell? ⟨gb440, 1, none⟩ = some (.string x441001_2) := (blk_cell BK440.out 1).trans rfl; have hcz26_2 : w23.cell? ⟨gb440, 2, none⟩ = some (.string x441002_2) := (blk_cell BK440.out 2).trans rfl; have hcz26_3 : w23.cell? ⟨gb440, 3, none⟩ = some (.int .u64 x441003_2) := (blk_cell BK440.out 3).trans rfl; have hfz26_0 := blk_frozen BK440.out 0; have hfz26_1 := blk_frozen BK440.out 1; have hfz26_2 := blk_frozen BK440.out 2; have hfz26_3 := blk_frozen BK440.out 3) | ((with_reducible refine gate_callee (f := 31) rfl ?_); refine goesL_ (some 45) rfl rfl Try.func31 (by kernel_rfl) rfl #[.agg #[.int .i64 x441000_2, .string x441001_2, .string x441002_2, .int .u64 x441003_2], .agg #[.int .i64 ((rd_T55 y441 x39_2).f0), .string ((rd_T55 y441 x39_2).f1), .string ((rd_T55 y441 x39_2).f2), .int .u64 ((rd_T55 y441 x39_2).f3)]] rfl (by (try simp only [List.map_toArray, List.map_cons, List.map_nil]); first | done | rfl | (simp only [List.length_drop, List.length_take]; rfl)) ?_; (with_reducible refine (note_Both.calls k2 x441000_2 x441001_2 x441002_2 x441003_2 ((rd_T55 y441 x39_2).f0) ((rd_T55 y441 x39_2).f1) ((rd_T55 y441 x39_2).f2) ((rd_T55 y441 x39_2).f3) t447 t448 t449 t450 _ A22.out).mono ?_); rintro e w27 ⟨rfl, hb⟩; refine ⟨_, rfl, ?_⟩; have n0_ := Aside0.mk (blk_below (g := gb440) (o := .cells #[.int .i64 x441000_2, .string x441001_2, .string x441002_2, .int .u64 x441003_2] 55 (0, 0)) (by (with_reducible repeat (first | refine blk_drewN ?_ _ | refine blk_drew ?_ | refine blk_alloc ?_ _)); refine blk_far ?_ NB440_446.out _; (with_reducible repeat (first | refine blk_drewN ?_ _ | refine blk_drew ?_ | refine blk_alloc ?_ _)); refine blk_far ?_ NB440_446.out _; (with_reducible repeat (first | refine blk_drewN ?_ _ | refine blk_drew ?_ | refine blk_alloc ?_ _)); refine blk_far ?_ NB440_446.out _; (with_reducible repeat (first | refine blk_drewN ?_ _ | refine blk_drew ?_ | refine blk_alloc ?_ _)); refine blk_far ?_ NB440_446.out _; (with_reducible repeat (first | refine blk_drewN ?_ _ | refine blk_drew ?_ | refine blk_alloc ?_ _)); exact BK440.out) hb); have n1_ := Aside0.mk (blk_below (g := gb446) (o := .cells #[.int .i64 ((rd_T55 y441 x39_2).f0), .string ((rd_T55 y441 x39_2).f1), .string ((rd_T55 y441 x39_2).f2), .int .u64 ((rd_T55 y441 x39_2).f3)] 55 (0, 0)) (by (with_reducible repeat (first | refine blk_drewN ?_ _ | refine blk_drew ?_ | refine blk_alloc ?_ _)); refine blk_put (cs := #[.int .i64 ((rd_T55 y441 x39_2).f0), .string ((rd_T55 y441 x39_2).f1), .string ((rd_T55 y441 x39_2).f2), .int .u64 0]) ?_ 3 _ rfl; (with_reducible repeat (first | refine blk_drewN ?_ _ | refine blk_drew ?_ | refine blk_alloc ?_ _)); refine blk_put (cs := #[.int .i64 ((rd_T55 y441 x39_2).f0), .string ((rd_T55 y441 x39_2).f1), .string (⟨#[]⟩ : ByteArray), .int .u64 0]) ?_ 2 _ rfl; (with_reducible repeat (first | refine blk_drewN ?_ _ | refine blk_drew ?_ | refine blk_alloc ?_ _)); refine blk_put (cs := #[.int .i64 ((rd_T55 y441 x39_2).f0), .string (⟨#[]⟩ : ByteArray), .string (⟨#[]⟩ : ByteArray), .int .u64 0]) ?_ 1 _ rfl; (with_reducible repeat (first | refine blk_drewN ?_ _ | refine blk_drew ?_ | refine blk_alloc ?_ _)); refine blk_put (cs := #[.int .i64 0, .string (⟨#[]⟩ : ByteArray), .string (⟨#[]⟩ : ByteArray), .int .u64 0]) ?_ 0 _ rfl; (with_reducible repeat (first | refine blk_drewN ?_ _ | refine blk_drew ?_ | refine blk_alloc ?_ _)); exact BK446.out) hb); have n2_ := Aside0.mk (below_step (by repeat (first | (with_reducible first | exact HB.out | apply below_alloc | apply pw_below_drewN | apply below_drew1 | refine below_set ?_ GE440.out | refine below_set ?_ GE446.out) | exact HB.out)) hb); clear BK440; clear BK446; clear HB; have BK440 := n0_; have BK446 := n1_; have HB := n2_; clear n0_ n1_ n2_; (try clear hb); (try clear hb2); (try clear hk); (try clear hi); have hcz28_0 : w27.cell? ⟨gb440, 0, none⟩ = some (.int .i64 x441000_2) := (blk_cell BK440.out 0).trans rfl; have hcz28_1 : w27.cell? ⟨gb440, 1, none⟩ = some (.string x441001_2) := (blk_cell BK440.out 1).trans rfl; have hcz28_2 : w27.cell? ⟨gb440, 2, none⟩ = some (.string x441002_2) := (blk_cell BK440.out 2).trans rfl; have hcz28_3 : w27.cell? ⟨gb440, 3, none⟩ = some (.int .u64 x441003_2) := (blk_cell BK440.out 3).trans rfl; have hfz28_0 := blk_frozen BK440.out 0; have hfz28_1 := blk_frozen BK440.out 1; have hfz28_2 := blk_frozen BK440.out 2; have hfz28_3 := blk_frozen BK440.out 3))
                      go_roundg k2
                      case measure => have := HJ3.out; have := HK2.out; omega
                      case rel => exact ⟨(wrap64 (x39_2 + 1)), (t447), (t448), (t449), (t450), (by first | rfl | (simp; done) | (simp [*]; done)), H', ⟨by have := HJ3.out; have := HK2.out; omega⟩, ⟨by (with_reducible repeat (first | refine blk_drewN ?_ _ | refine blk_drew ?_ | refine blk_alloc ?_ _)); refine blk_put (cs := #[.int .i64 t447, .string t448, .string t449, .int .u64 x441003_2]) ?_ 3 _ rfl; (with_reducible repeat (first | refine blk_drewN ?_ _ | refine blk_drew ?_ | refine blk_alloc ?_ _)); refine blk_put (cs := #[.int .i64 t447, .string t448, .string x441002_2, .int .u64 x441003_2]) ?_ 2 _ rfl; (with_reducible repeat (first | refine blk_drewN ?_ _ | refine blk_drew ?_ | refine blk_alloc ?_ _)); refine blk_put (cs := #[.int .i64 t447, .string x441001_2, .string x441002_2, .int .u64 x441003_2]) ?_ 1 _ rfl; (with_reducible repeat (first | refine blk_drewN ?_ _ | refine blk_drew ?_ | refine blk_alloc ?_ _)); refine blk_put (cs := #[.int .i64 x441000_2, .string x441001_2, .string x441002_2, .int .u64 x441003_2]) ?_ 0 _ rfl; (with_reducible repeat (first | refine blk_drewN ?_ _ | refine blk_drew ?_ | refine blk_alloc ?_ _)); exact BK440.out⟩, ⟨by repeat (first | (with_reducible first | exact HB.out | apply below_alloc | apply pw_below_drewN | apply below_drew1 | refine below_set ?_ GE440.out | refine below_set ?_ GE446.out) | exact HB.out)⟩⟩
                    · rw [if_neg c21] at H
                      exact absurd H (by simp)
                  · rw [if_neg c20] at H
                    exact absurd H (by simp)
                · rw [if_neg c19] at H
                  have c19b0 : decide (x39_2 < (y441.length : Int)) = false := decide_eq_false c19
                  clear c19
                  replace H := Option.bind_eq_some_iff.mp H
                  obtain ⟨⟨t451, t452⟩, A290, H⟩ := H
                  replace H : ((note_Done.f k2 a0 a1 (([(⟨x441000_2, x441001_2, x441002_2, x441003_2⟩ : S55)] : List (S55)))).bind fun bt456 => (if t451.toList = bt456.1.toList then (if (t452 == bt456.2) = true then (if 0 ≤ (wrap64 ((l2.length : Int) - 1)) then (if (wrap64 ((l2.length : Int) - 1)) < (l2.length : Int) then (if x441001_2.toList = ((rd_T55 l2 (wrap64 ((l2.length : Int) - 1))).f1).toList then ((weirkeeperlaw09_awake.f k2).bind fun t459 => (some t459)) else (some false)) else (none)) else (none)) else (some false)) else (some false))) = some true := H
                  have A29 := Aside0.mk A290
                  clear A290
                  obtain ⟨y453, hy453⟩ : ∃ y_ : List (S55), y_ = (([(⟨x441000_2, x441001_2, x441002_2, x441003_2⟩ : S55)] : List (S55))) := ⟨_, rfl⟩
                  replace H : ((note_Done.f k2 a0 a1 y453).bind fun bt456 => (if t451.toList = bt456.1.toList then (if (t452 == bt456.2) = true then (if 0 ≤ (wrap64 ((l2.length : Int) - 1)) then (if (wrap64 ((l2.length : Int) - 1)) < (l2.length : Int) then (if x441001_2.toList = ((rd_T55 l2 (wrap64 ((l2.length : Int) - 1))).f1).toList then ((weirkeeperlaw09_awake.f k2).bind fun t459 => (some t459)) else (some false)) else (none)) else (none)) else (some false)) else (some false))) = some true := by first | (rw [hy453]; with_reducible exact H) | (have H2_ := (Option.bind_some _ _).symm.trans H; rw [hy453]; with_reducible exact H2_) | (have H2_ := (Option.bind_some _ _).symm.trans H; with_reducible exact H2_) | with_reducible exact H | (rw [hy453]; exact H) | exact H
                  have Ny453 := Aside0.mk hy453
                  clear hy453
                  replace H := Option.bind_eq_some_iff.mp H
                  obtain ⟨⟨t456, t457⟩, A300, H⟩ := H
                  replace H : (if t451.toList = t456.toList then (if (t452 == t457) = true then (if 0 ≤ (wrap64 ((l2.length : Int) - 1)) then (if (wrap64 ((l2.length : Int) - 1)) < (l2.length : Int) then (if x441001_2.toList = ((rd_T55 l2 (wrap64 ((l2.length : Int) - 1))).f1).toList then ((weirkeeperlaw09_awake.f k2).bind fun t459 => (some t459)) else (some false)) else (none)) else (none)) else (some false)) else (some false)) = some true := H
                  have A30 := Aside0.mk A300
                  clear A300
                  by_cases c31 : t451.toList = t456.toList
                  · rw [if_pos c31] at H
                    have c31b0 : (t451.toList == t456.toList) = true := beq_iff_eq.mpr c31
                    have c31b1 : (t451.toList != t456.toList) = false := bne_eq_false_iff_eq.mpr c31
                    clear c31
                    by_cases c32 : (t452 == t457) = true
                    · rw [if_pos c32] at H
                      have c32b0 : (t452 == t457) = true := c32
                      (try (have c32b1 : decide (t452 = t457) = true := by simpa using c32))
                      (try (have c32b2 : (t452 == t457) = true := by simpa using c32))
                      clear c32
                      obtain ⟨ji33, hji33⟩ : ∃ j_ : Int, (wrap64 ((l2.length : Int) - 1)) = j_ := ⟨_, rfl⟩
                      replace H : (if 0 ≤ (ji33) then (if (ji33) < (l2.length : Int) then (if x441001_2.toList = ((rd_T55 l2 (ji33)).f1).toList then ((weirkeeperlaw09_awake.f k2).bind fun t459 => (some t459)) else (some false)) else (none)) else (none)) = some true := by first | (rw [hji33] at H; exact H) | (simp only [hji33] at H ⊢; exact H)
                      (try rw [hji33] at A29)
                      (try rw [hji33] at A30)
                      have hji33w : (IntKind.i64.wrap ((l2.length : Int) - 1)) = ji33 := (i64_w _).trans hji33
                      by_cases c34 : 0 ≤ (ji33)
                      · rw [if_pos c34] at H
                        have c34b0 : decide (0 ≤ (ji33)) = true := decide_eq_true c34
                        clear c34
                        by_cases c35 : (ji33) < (l2.length : Int)
                        · rw [if_pos c35] at H
                          have c35b0 : decide ((ji33) < (l2.length : Int)) = true := decide_eq_true c35
                          clear c35
                          by_cases c36 : x441001_2.toList = ((rd_T55 l2 (ji33)).f1).toList
                          · rw [if_pos c36] at H
                            have c36b0 : (x441001_2.toList == ((rd_T55 l2 (ji33)).f1).toList) = true := beq_iff_eq.mpr c36
                            have c36b1 : (x441001_2.toList != ((rd_T55 l2 (ji33)).f1).toList) = false := bne_eq_false_iff_eq.mpr c36
                            clear c36
                            replace H := Option.bind_eq_some_iff.mp H
                            obtain ⟨t459, A370, H⟩ := H
                            replace H : (some t459) = some true := H
                            have A37 := Aside0.mk A370
                            clear A370
                            (have H9_ := Option.some.inj H; first | subst H9_ | clear H9_)
                            try go_wp2_with (first | ((with_reducible refine gate_callee (f := 30) rfl ?_); refine goesL_ (some 51) rfl rfl Try.func30 (by kernel_rfl) rfl #[.string a0, .bool a1, .slice (some ad439) l2.length c2] rfl (by (try simp only [List.map_toArray, List.map_cons, List.map_nil]); first | done | rfl | (simp only [List.length_drop, List.length_take]; rfl)) ?_; (with_reducible refine (note_Done.calls k2 a0 a1 _ _ l2 t451 t452 _ ?side1 ?side2 A29.out).mono ?_); (case side1 => repeat (first | exact (Kd.C_below HR2.out HB.out) | (with_reducible refine Kd.C_alloc ?_ _) | (with_reducible refine Kd.C_drewN ?_ _) | (with_reducible refine Kd.C_drew ?_))); (case side2 => exact HC2.out); rintro e w38 ⟨rfl, hb⟩; refine ⟨_, rfl, ?_⟩; have n0_ := Aside0.mk (blk_below (g := gb440) (o := .cells #[.int .i64 x441000_2, .string x441001_2, .string x441002_2, .int .u64 x441003_2] 55 (0, 0)) (by (with_reducible repeat (first | refine blk_drewN ?_ _ | refine blk_drew ?_ | refine blk_alloc ?_ _)); exact BK440.out) hb); have n1_ := Aside0.mk (below_step (by repeat (first | (with_reducible first | exact HB.out | apply below_alloc | apply pw_below_drewN | apply below_drew1 | refine below_set ?_ GE440.out) | exact HB.out)) hb); clear BK440; clear HB; have BK440 := n0_; have HB := n1_; clear n0_ n1_; (try clear hb); (try clear hb2); (try clear hk); (try clear hi); have hcz39_0 : w38.cell? ⟨gb440, 0, none⟩ = some (.int .i64 x441000_2) := (blk_cell BK440.out 0).trans rfl; have hcz39_1 : w38.cell? ⟨gb440, 1, none⟩ = some (.string x441001_2) := (blk_cell BK440.out 1).trans rfl; have hcz39_2 : w38.cell? ⟨gb440, 2, none⟩ = some (.string x441002_2) := (blk_cell BK440.out 2).trans rfl; have hcz39_3 : w38.cell? ⟨gb440, 3, none⟩ = some (.int .u64 x441003_2) := (blk_cell BK440.out 3).trans rfl; have hfz39_0 := blk_frozen BK440.out 0; have hfz39_1 := blk_frozen BK440.out 1; have hfz39_2 := blk_frozen BK440.out 2; have hfz39_3 := blk_frozen BK440.out 3) | ((with_reducible refine gate_dst (N := 58) rfl ?_); (try (refine gate_guard (by rfl) ?_; dsimp only)); refine Kd.R_lit k55 _ 55 ?hg (N := 58) ?hd (xs := ([(⟨x441000_2, x441001_2, x441002_2, x441003_2⟩ : S55)] : List (S55))) (inner := [.int .i64 x441000_2, .string x441001_2, .string x441002_2, .int .u64 x441003_2]) (ok := fun _ => True) (okp := fun _ => True) ?hr ?hp (fun _ hk => hk) trivial (Below.refl _ _) (Nat.le_refl _) (by simp) ?_; (case hd => rfl); (case hg => rfl); (case hr => first | (go_simp; done) | (go_simp; rfl)); (case hp => exact (Reps.c4 (show Kd.M k55 _ _ _ (⟨x441000_2, x441001_2, x441002_2, x441003_2⟩ : S55) [.int .i64 x441000_2, .string x441001_2, .string x441002_2, .int .u64 x441003_2] from (k55_mkM _ _ _ (⟨x441000_2, x441001_2, x441002_2, x441003_2⟩ : S55) )) (Reps.none _ _))); intro v454 w40 ho41 hb hg_ hnew_; clear hg_ hnew_; (first | rw [← Ny453.out] at ho41 | (simp only [Int.reduceToNat] at ho41; rw [← Ny453.out] at ho41)); have n0_ := Aside0.mk (Kd.R_lower (Kd.R_newB ho41 (g := gb440) (o := .cells #[.int .i64 x441000_2, .string x441001_2, .string x441002_2, .int .u64 x441003_2] 55 (0, 0)) (by (with_reducible repeat (first | refine blk_drewN ?_ _ | refine blk_drew ?_ | refine blk_alloc ?_ _)); exact BK440.out)) (below_size (by repeat (first | (with_reducible first | exact HB.out | apply below_alloc | apply pw_below_drewN | apply below_drew1 | refine below_set ?_ GE440.out) | exact HB.out)))); have n1_ := Aside0.mk (blk_below (g := gb440) (o := .cells #[.int .i64 x441000_2, .string x441001_2, .string x441002_2, .int .u64 x441003_2] 55 (0, 0)) (by (with_reducible repeat (first | refine blk_drewN ?_ _ | refine blk_drew ?_ | refine blk_alloc ?_ _)); exact BK440.out) hb); have n2_ := Aside0.mk (below_step (by repeat (first | (with_reducible first | exact HB.out | apply below_alloc | apply pw_below_drewN | apply below_drew1 | refine below_set ?_ GE440.out) | exact HB.out)) hb); clear BK440; clear HB; have HO455 := n0_; have BK440 := n1_; have HB := n2_; clear n0_ n1_ n2_; clear hb ho41; obtain ⟨Ao42, co42, eo42⟩ := Kd.R_slice HO455.out; subst eo42) | ((with_reducible refine gate_callee (f := 30) rfl ?_); refine goesL_ (some 59) rfl rfl Try.func30 (by kernel_rfl) rfl #[.string a0, .bool a1, .slice Ao42 y453.length co42] rfl (by (try simp only [List.map_toArray, List.map_cons, List.map_nil]); first | done | rfl | (simp only [List.length_drop, List.length_take]; rfl)) ?_; (with_reducible refine (note_Done.calls k2 a0 a1 _ _ y453 t456 t457 _ ?side1 ?side2 A30.out).mono ?_); (case side1 => repeat (first | exact (Kd.R_reads' HO455.out).2.2 | (with_reducible refine Kd.C_alloc ?_ _) | (with_reducible refine Kd.C_drewN ?_ _) | (with_reducible refine Kd.C_drew ?_))); (case side2 => exact (Kd.R_reads' HO455.out).2.1); rintro e w43 ⟨rfl, hb⟩; refine ⟨_, rfl, ?_⟩; have n0_ := Aside0.mk (Kd.R_below (by (with_reducible repeat (first | apply Kd.R_alloc | apply Kd.R_drewN | apply Kd.R_drew)); exact HO455.out) hb); have n1_ := Aside0.mk (blk_below (g := gb440) (o := .cells #[.int .i64 x441000_2, .string x441001_2, .string x441002_2, .int .u64 x441003_2] 55 (0, 0)) (by (with_reducible repeat (first | refine blk_drewN ?_ _ | refine blk_drew ?_ | refine blk_alloc ?_ _)); exact BK440.out) hb); have n2_ := Aside0.mk (below_step (by repeat (first | (with_reducible first | exact HB.out | apply below_alloc | apply pw_below_drewN | apply below_drew1 | refine below_set ?_ GE440.out) | exact HB.out)) hb); clear HO455; clear BK440; clear HB; have HO455 := n0_; have BK440 := n1_; have HB := n2_; clear n0_ n1_ n2_; (try clear hb); (try clear hb2); (try clear hk); (try clear hi)))
                            have n0_ := Aside0.mk (Kd.R_drew HO455.out)
                            have n1_ := Aside0.mk (blk_drew BK440.out)
                            have n2_ := Aside0.mk (below_drew1 HB.out)
                            clear HO455
                            clear BK440
                            clear HB
                            have HO455 := n0_
                            have BK440 := n1_
                            have HB := n2_
                            clear n0_ n1_ n2_
                            have p458 : 0 ≤ ((ji33) : Int) := of_decide_eq_true (by first | (with_reducible assumption) | assumption)
                            have q458 : (ji33) < (l2.length : Int) := of_decide_eq_true (by first | (with_reducible assumption) | assumption)
                            obtain ⟨ad458, e458, hx458_0, hx458_1, hx458_2, hx458_3⟩ := at_T55 HR2.out (ji33) p458 q458
                            have hw458_3 := hx458_3
                            have hw458_2 := hx458_2
                            have hw458_1 := hx458_1
                            have hw458_0 := hx458_0
                            obtain rfl : ad439 = ad458 := (by injection e458)
                            replace hx458_0 := (HB.out.cell (World.block_lt_of_cell? w _ hx458_0)).trans hx458_0
                            replace hx458_1 := (HB.out.cell (World.block_lt_of_cell? w _ hx458_1)).trans hx458_1
                            replace hx458_2 := (HB.out.cell (World.block_lt_of_cell? w _ hx458_2)).trans hx458_2
                            replace hx458_3 := (HB.out.cell (World.block_lt_of_cell? w _ hx458_3)).trans hx458_3
                            replace p458 := eq_true p458
                            replace q458 := eq_true q458
                            refine start_ (n := 24) (S := fun w' => w'.cell? ⟨gb440, 0, none⟩ = some (.int .i64 x441000_2) ∧ w'.cell? ⟨gb440, 1, none⟩ = some (.string x441001_2) ∧ w'.cell? ⟨gb440, 2, none⟩ = some (.string x441002_2) ∧ w'.cell? ⟨gb440, 3, none⟩ = some (.int .u64 x441003_2) ∧ w'.cell? (ad439.add (((ji33)).toNat * 4)) = some (.int .i64 ((rd_T55 l2 (ji33)).f0)) ∧ w'.cell? ⟨(ad439.add (((ji33)).toNat * 4)).block, (ad439.add (((ji33)).toNat * 4)).off + 1, none⟩ = some (.string ((rd_T55 l2 (ji33)).f1)) ∧ w'.cell? ⟨(ad439.add (((ji33)).toNat * 4)).block, (ad439.add (((ji33)).toNat * 4)).off + 2, none⟩ = some (.string ((rd_T55 l2 (ji33)).f2)) ∧ w'.cell? ⟨(ad439.add (((ji33)).toNat * 4)).block, (ad439.add (((ji33)).toNat * 4)).off + 3, none⟩ = some (.int .u64 ((rd_T55 l2 (ji33)).f3))) (ds := []) #[false, false, false, false, false, false, false, false, false, false, false, false, false, false, false, false, false, false, false, false, false, false, false, false] (by kernel_rfl) rfl rfl ⟨(blk_cell BK440.out 0).trans rfl, (blk_cell BK440.out 1).trans rfl, (blk_cell BK440.out 2).trans rfl, (blk_cell BK440.out 3).trans rfl, ((HB.out.cell (World.block_lt_of_cell? w _ hw458_0)).trans hw458_0), ((HB.out.cell (World.block_lt_of_cell? w _ hw458_1)).trans hw458_1), ((HB.out.cell (World.block_lt_of_cell? w _ hw458_2)).trans hw458_2), ((HB.out.cell (World.block_lt_of_cell? w _ hw458_3)).trans hw458_3)⟩ (fun hHeld => ?_); refine with_tabW weirkeeperlaw09_NoteChain.tab11 weirkeeperlaw09_NoteChain.bits11 (fun HT_ HW_ => ?_)
                            generalize w43.drew = w44 at HO455 BK440 HB hx458_0 hx458_1 hx458_2 hx458_3 hHeld ⊢
                            refine pure_ (i := 0) (N := some 62) (v := ?_) (a' := ?_) #[true, false, false, false, false, false, false, false, false, false, false, false, false, false, false, false, false, false, false, false, false, false, false, false] rfl rfl (any_of HT_.out (by kernel_rfl)) (fun _ _ _ h => h) (Or.inl ⟨by rfl, ?_⟩) ?_ ?_
                            rotate_left
                            · intro w'
                              go_simp
                              with_reducible rfl
                            rotate_left
                            · simp only [Act.put, List.setIfInBounds_toArray, List.set_cons_zero, List.set_cons_succ, i64_w, i32_w]
                              rfl
                            refine pure_ (i := 1) (N := some 63) (v := ?_) (a' := ?_) #[true, true, false, false, false, false, false, false, false, false, false, false, false, false, false, false, false, false, false, false, false, false, false, false] rfl rfl (any_of HT_.out (by kernel_rfl)) (fun _ _ _ h => h) (Or.inl ⟨by rfl, ?_⟩) ?_ ?_
                            rotate_left
                            · intro w'
                              go_simp
                              with_reducible rfl
                            rotate_left
                            · simp only [Act.put, List.setIfInBounds_toArray, List.set_cons_zero, List.set_cons_succ, i64_w, i32_w]
                              rfl
                            refine pure_ (i := 2) (N := some 64) (v := ?_) (a' := ?_) #[true, true, true, false, false, false, false, false, false, false, false, false, false, false, false, false, false, false, false, false, false, false, false, false] rfl rfl (any_of HT_.out (by kernel_rfl)) (fun _ _ _ h => h) (Or.inl ⟨by rfl, ?_⟩) ?_ ?_
                            rotate_left
                            · intro w'
                              go_simp
                              with_reducible rfl
                            rotate_left
                            · simp only [Act.put, List.setIfInBounds_toArray, List.set_cons_zero, List.set_cons_succ, i64_w, i32_w]
                              rfl
                            refine pure_ (i := 3) (N := some 65) (v := ?_) (a' := ?_) #[true, true, true, true, false, false, false, false, false, false, false, false, false, false, false, false, false, false, false, false, false, false, false, false] rfl rfl (any_of HT_.out (by kernel_rfl)) (fun _ _ _ h => h) (Or.inl ⟨by rfl, ?_⟩) ?_ ?_
                            rotate_left
                            · intro w'
                              go_simp
                              with_reducible rfl
                            rotate_left
                            · simp only [Act.put, List.setIfInBounds_toArray, List.set_cons_zero, List.set_cons_succ, i64_w, i32_w]
                              rfl
                            refine pure_ (i := 4) (N := some 66) (v := ?_) (a' := ?_) #[true, true, true, true, true, false, false, false, false, false, false, false, false, false, false, false, false, false, false, false, false, false, false, false] rfl rfl (any_of HT_.out (by kernel_rfl)) (fun _ _ _ h => h) (Or.inl ⟨by rfl, ?_⟩) ?_ ?_
                            rotate_left
                            · intro w'
                              go_simp
                              with_reducible rfl
                            rotate_left
                            · simp only [Act.put, List.setIfInBounds_toArray, List.set_cons_zero, List.set_cons_succ, i64_w, i32_w]
                              rfl
                            refine pure_ (i := 5) (N := some 67) (v := ?_) (a' := ?_) #[true, true, true, true, true, true, false, false, false, false, false, false, false, false, false, false, false, false, false, false, false, false, false, false] rfl rfl (any_of HT_.out (by kernel_rfl)) (fun _ _ _ h => h) (Or.inl ⟨by rfl, ?_⟩) ?_ ?_
                            rotate_left
                            · intro w'
                              go_simp
                              with_reducible rfl
                            rotate_left
                            · simp only [Act.put, List.setIfInBounds_toArray, List.set_cons_zero, List.set_cons_succ, i64_w, i32_w]
                              rfl
                            refine pure_ (i := 6) (N := some 68) (v := ?_) (a' := ?_) #[true, true, true, true, true, true, true, false, false, false, false, false, false, false, false, false, false, false, false, false, false, false, false, false] rfl rfl (any_of HT_.out (by kernel_rfl)) (fun _ _ _ h => h) (Or.inl ⟨by rfl, ?_⟩) ?_ ?_
                            rotate_left
                            · intro w'
                              go_simp
                              with_reducible rfl
                            rotate_left
                            · simp only [Act.put, List.setIfInBounds_toArray, List.set_cons_zero, List.set_cons_succ, i64_w, i32_w]
                              rfl
                            refine pure_ (i := 7) (N := some 69) (v := ?_) (a' := ?_) #[true, true, true, true, true, true, true, true, false, false, false, false, false, false, false, false, false, false, false, false, false, false, false, false] rfl rfl (any_of HT_.out (by kernel_rfl)) (fun _ _ _ h => h) (Or.inl ⟨by rfl, ?_⟩) ?_ ?_
                            rotate_left
                            · intro w'
                              go_simp
                              with_reducible rfl
                            rotate_left
                            · simp only [Act.put, List.setIfInBounds_toArray, List.set_cons_zero, List.set_cons_succ, i64_w, i32_w]
                              rfl
                            refine pure_ (i := 8) (N := some 70) (v := ?_) (a' := ?_) #[true, true, true, true, true, true, true, true, true, false, false, false, false, false, false, false, false, false, false, false, false, false, false, false] rfl rfl (any_of HT_.out (by kernel_rfl)) (fun _ _ _ h => h) (Or.inl ⟨by rfl, ?_⟩) ?_ ?_
                            rotate_left
                            · intro w'
                              go_simp
                              with_reducible rfl
                            rotate_left
                            · simp only [Act.put, List.setIfInBounds_toArray, List.set_cons_zero, List.set_cons_succ, i64_w, i32_w]
                              rfl
                            refine pure_ (i := 9) (N := some 71) (v := ?_) (a' := ?_) #[true, true, true, true, true, true, true, true, true, true, false, false, false, false, false, false, false, false, false, false, false, false, false, false] rfl rfl (any_of HT_.out (by kernel_rfl)) (fun _ _ _ h => h) (Or.inl ⟨by rfl, ?_⟩) ?_ ?_
                            rotate_left
                            · intro w'
                              go_simp
                              with_reducible rfl
                            rotate_left
                            · simp only [Act.put, List.setIfInBounds_toArray, List.set_cons_zero, List.set_cons_succ, i64_w, i32_w]
                              rfl
                            refine pure_ (i := 11) (N := some 73) (v := ?_) (a' := ?_) #[true, true, true, true, true, true, true, true, true, true, false, true, false, false, false, false, false, false, false, false, false, false, false, false] rfl rfl (any_of HT_.out (by kernel_rfl)) (fun _ _ _ h => h) (Or.inl ⟨by rfl, ?_⟩) ?_ ?_
                            rotate_left
                            · intro w'
                              go_simp
                              with_reducible rfl
                            rotate_left
                            · simp only [Act.put, List.setIfInBounds_toArray, List.set_cons_zero, List.set_cons_succ, i64_w, i32_w]
                              rfl
                            refine pure_ (i := 12) (N := some 74) (v := ?_) (a' := ?_) #[true, true, true, true, true, true, true, true, true, true, false, true, true, false, false, false, false, false, false, false, false, false, false, false] rfl rfl (any_of HT_.out (by kernel_rfl)) (fun _ _ _ h => h) (Or.inl ⟨by rfl, ?_⟩) ?_ ?_
                            rotate_left
                            · intro w'
                              go_simp
                              with_reducible rfl
                            rotate_left
                            · simp only [Act.put, List.setIfInBounds_toArray, List.set_cons_zero, List.set_cons_succ, i64_w, i32_w]
                              rfl
                            refine pure_ (i := 13) (N := some 75) (v := ?_) (a' := ?_) #[true, true, true, true, true, true, true, true, true, true, false, true, true, true, false, false, false, false, false, false, false, false, false, false] rfl rfl (any_of HT_.out (by kernel_rfl)) (fun _ _ _ h => h) (Or.inl ⟨by rfl, ?_⟩) ?_ ?_
                            rotate_left
                            · intro w'
                              go_simp
                              with_reducible rfl
                            rotate_left
                            · simp only [Act.put, List.setIfInBounds_toArray, List.set_cons_zero, List.set_cons_succ, i64_w, i32_w]
                              rfl
                            refine pure_ (i := 14) (N := some 76) (v := ?_) (a' := ?_) #[true, true, true, true, true, true, true, true, true, true, false, true, true, true, true, false, false, false, false, false, false, false, false, false] rfl rfl (any_of HT_.out (by kernel_rfl)) (fun _ _ _ h => h) (Or.inl ⟨by rfl, ?_⟩) ?_ ?_
                            rotate_left
                            · intro w'
                              go_simp
                              with_reducible rfl
                            rotate_left
                            · simp only [Act.put, List.setIfInBounds_toArray, List.set_cons_zero, List.set_cons_succ, i64_w, i32_w]
                              rfl
                            refine pure_ (i := 15) (N := some 77) (v := ?_) (a' := ?_) #[true, true, true, true, true, true, true, true, true, true, false, true, true, true, true, true, false, false, false, false, false, false, false, false] rfl rfl (any_of HT_.out (by kernel_rfl)) (fun _ _ _ h => h) (Or.inl ⟨by rfl, ?_⟩) ?_ ?_
                            rotate_left
                            · intro w'
                              go_simp
                              with_reducible rfl
                            rotate_left
                            · simp only [Act.put, List.setIfInBounds_toArray, List.set_cons_zero, List.set_cons_succ, i64_w, i32_w]
                              rfl
                            refine pure_ (i := 16) (N := some 78) (v := ?_) (a' := ?_) #[true, true, true, true, true, true, true, true, true, true, false, true, true, true, true, true, true, false, false, false, false, false, false, false] rfl rfl (any_of HT_.out (by kernel_rfl)) (fun _ _ _ h => h) (Or.inl ⟨by rfl, ?_⟩) ?_ ?_
                            rotate_left
                            · intro w'
                              go_simp
                              with_reducible rfl
                            rotate_left
                            · simp only [Act.put, List.setIfInBounds_toArray, List.set_cons_zero, List.set_cons_succ, i64_w, i32_w]
                              rfl
                            refine take_ (i := 10) (N := some 72) (v := ?_) (a' := ?_) #[true, true, true, true, true, true, true, true, true, true, true, true, true, true, true, true, true, false, false, false, false, false, false, false] rfl rfl (take_ofW HT_.out HW_.out (by kernel_rfl)) (fun _ _ _ h => h) (Or.inl ⟨by rfl, ?_⟩) hHeld ?_ ?_
                            rotate_left
                            · rintro w' ⟨s0, s1, s2, s3, s4, s5, s6, s7⟩
                              go_simp
                              with_reducible rfl
                            rotate_left
                            · simp only [Act.put, List.setIfInBounds_toArray, List.set_cons_zero, List.set_cons_succ, i64_w, i32_w]
                              rfl
                            refine take_ (i := 17) (N := some 79) (v := ?_) (a' := ?_) #[true, true, true, true, true, true, true, true, true, true, true, true, true, true, true, true, true, true, false, false, false, false, false, false] rfl rfl (take_ofW HT_.out HW_.out (by kernel_rfl)) (fun _ _ _ h => h) (Or.inl ⟨by rfl, ?_⟩) hHeld ?_ ?_
                            rotate_left
                            · rintro w' ⟨s0, s1, s2, s3, s4, s5, s6, s7⟩
                              go_simp
                              with_reducible rfl
                            rotate_left
                            · simp only [Act.put, List.setIfInBounds_toArray, List.set_cons_zero, List.set_cons_succ, i64_w, i32_w]
                              rfl
                            refine pure_ (i := 18) (N := some 80) (v := ?_) (a' := ?_) #[true, true, true, true, true, true, true, true, true, true, true, true, true, true, true, true, true, true, true, false, false, false, false, false] rfl rfl (any_of HT_.out (by kernel_rfl)) (fun _ _ _ h => h) (Or.inl ⟨by rfl, ?_⟩) ?_ ?_
                            rotate_left
                            · intro w'
                              go_simp
                              with_reducible rfl
                            rotate_left
                            · simp only [Act.put, List.setIfInBounds_toArray, List.set_cons_zero, List.set_cons_succ, i64_w, i32_w]
                              rfl
                            refine pure_ (i := 19) (N := some 81) (v := ?_) (a' := ?_) #[true, true, true, true, true, true, true, true, true, true, true, true, true, true, true, true, true, true, true, true, false, false, false, false] rfl rfl (any_of HT_.out (by kernel_rfl)) (fun _ _ _ h => h) (Or.inl ⟨by rfl, ?_⟩) ?_ ?_
                            rotate_left
                            · intro w'
                              go_simp
                              with_reducible rfl
                            rotate_left
                            · simp only [Act.put, List.setIfInBounds_toArray, List.set_cons_zero, List.set_cons_succ, i64_w, i32_w]
                              rfl
                            refine pure_ (i := 20) (N := some 82) (v := ?_) (a' := ?_) #[true, true, true, true, true, true, true, true, true, true, true, true, true, true, true, true, true, true, true, true, true, false, false, false] rfl rfl (any_of HT_.out (by kernel_rfl)) (fun _ _ _ h => h) (Or.inl ⟨by rfl, ?_⟩) ?_ ?_
                            rotate_left
                            · intro w'
                              go_simp
                              with_reducible rfl
                            rotate_left
                            · simp only [Act.put, List.setIfInBounds_toArray, List.set_cons_zero, List.set_cons_succ, i64_w, i32_w]
                              rfl
                            refine one_ (i := 21) (N := some 83) #[true, true, true, true, true, true, true, true, true, true, true, true, true, true, true, true, true, true, true, true, true, true, false, false] rfl rfl (one_of HT_.out (by kernel_rfl)) (by decide) (fun K hK => ?_)
                            refine goes_ Try.func29 (by kernel_rfl) rfl #[] (by rfl) rfl rfl (by (try simp only [List.map_toArray, List.map_cons, List.map_nil]); first | done | rfl | (simp only [List.length_drop, List.length_take]; rfl)) ?_
                            with_reducible refine (weirkeeperlaw09_awake.calls k2 _ A37.out).mono ?_
                            rintro e w45 ⟨rfl, hb⟩
                            refine ⟨_, rfl, ?_⟩
                            have n0_ := Aside0.mk (Kd.R_below (by (with_reducible repeat (first | apply Kd.R_alloc | apply Kd.R_drewN | apply Kd.R_drew)); exact HO455.out) hb)
                            have n1_ := Aside0.mk (blk_below (g := gb440) (o := .cells #[.int .i64 x441000_2, .string x441001_2, .string x441002_2, .int .u64 x441003_2] 55 (0, 0)) (by (with_reducible repeat (first | refine blk_drewN ?_ _ | refine blk_drew ?_ | refine blk_alloc ?_ _)); exact BK440.out) hb)
                            have n2_ := Aside0.mk (below_step (by repeat (first | (with_reducible first | exact HB.out | apply below_alloc | apply pw_below_drewN | apply below_drew1 | refine below_set ?_ GE440.out) | exact HB.out)) hb)
                            clear HO455
                            clear BK440
                            clear HB
                            have HO455 := n0_
                            have BK440 := n1_
                            have HB := n2_
                            clear n0_ n1_ n2_
                            (try clear hb)
                            (try clear hb2)
                            (try clear hk)
                            (try clear hi)
                            refine hK.out _ _ ⟨(blk_cell BK440.out 0).trans rfl, (blk_cell BK440.out 1).trans rfl, (blk_cell BK440.out 2).trans rfl, (blk_cell BK440.out 3).trans rfl, ((HB.out.cell (World.block_lt_of_cell? w _ hw458_0)).trans hw458_0), ((HB.out.cell (World.block_lt_of_cell? w _ hw458_1)).trans hw458_1), ((HB.out.cell (World.block_lt_of_cell? w _ hw458_2)).trans hw458_2), ((HB.out.cell (World.block_lt_of_cell? w _ hw458_3)).trans hw458_3)⟩ (fun hHeld => ?_)
                            clear hK K
                            refine norm_ (a' := ?_) ?_ ?_
                            rotate_left
                            · show Act.put _ (some 83) _ = _
                              simp only [Act.put, List.setIfInBounds_toArray, List.set_cons_zero, List.set_cons_succ, i64_w, i32_w]
                              rfl
                            refine pure_ (i := 22) (N := some 84) (v := ?_) (a' := ?_) #[true, true, true, true, true, true, true, true, true, true, true, true, true, true, true, true, true, true, true, true, true, true, true, false] rfl rfl (any_of HT_.out (by kernel_rfl)) (fun _ _ _ h => h) (Or.inl ⟨by rfl, ?_⟩) ?_ ?_
                            rotate_left
                            · intro w'
                              go_simp
                              with_reducible rfl
                            rotate_left
                            · simp only [Act.put, List.setIfInBounds_toArray, List.set_cons_zero, List.set_cons_succ, i64_w, i32_w]
                              rfl
                            refine pure_ (i := 23) (N := some 6) (v := ?_) (a' := ?_) #[true, true, true, true, true, true, true, true, true, true, true, true, true, true, true, true, true, true, true, true, true, true, true, true] rfl rfl (any_of HT_.out (by kernel_rfl)) (fun _ _ _ h => h) (Or.inl ⟨by rfl, ?_⟩) ?_ ?_
                            rotate_left
                            · intro w'
                              go_simp
                              with_reducible rfl
                            rotate_left
                            · simp only [Act.put, List.setIfInBounds_toArray, List.set_cons_zero, List.set_cons_succ, i64_w, i32_w]
                              rfl
                            refine done_ (done_of HT_.out (by kernel_rfl)) ?_
                            try go_wp2
                            go_ret
                            exact ⟨by first | rfl | (simp [errW_none, errW_some] <;> rfl) | (simp only [← hji33]; first | rfl | (simp [errW_none, errW_some] <;> rfl)) | (simp [*, errW_none, errW_some] <;> rfl), by repeat (first | (with_reducible first | exact HB.out | apply below_alloc | apply pw_below_drewN | apply below_drew1 | refine below_set ?_ GE440.out) | exact HB.out)⟩
                          · rw [if_neg c36] at H
                            have c36b0 : (x441001_2.toList == ((rd_T55 l2 (ji33)).f1).toList) = false := beq_eq_false_iff_ne.mpr c36
                            have c36b1 : (x441001_2.toList != ((rd_T55 l2 (ji33)).f1).toList) = true := bne_iff_ne.mpr c36
                            exact absurd H (by simp)
                        · rw [if_neg c35] at H
                          exact absurd H (by simp)
                      · rw [if_neg c34] at H
                        exact absurd H (by simp)
                    · rw [if_neg c32] at H
                      have c32b0 : (t452 == t457) = false := by simpa using c32
                      (try (have c32b1 : decide (t452 = t457) = false := by simpa using c32))
                      (try (have c32b2 : (t452 == t457) = false := by simpa using c32))
                      (try (have c32b3 : ¬ (t452 = t457) := by simpa using c32))
                      clear c32
                      exact absurd H (by simp)
                  · rw [if_neg c31] at H
                    have c31b0 : (t451.toList == t456.toList) = false := beq_eq_false_iff_ne.mpr c31
                    have c31b1 : (t451.toList != t456.toList) = true := bne_iff_ne.mpr c31
                    exact absurd H (by simp)
          · rw [if_neg c14] at H
            exact absurd H (by simp)
        · rw [if_neg c13] at H
          exact absurd H (by simp)

end Go.Proofs.Ytgccimhdbphenaa.F
