/- Contracts of Go functions of the seat Ytgccimhdbphenaa: what a call comes to; no condition but those that each theorem names. -/
import Derived.Test.YtgccimhdbphenaaFPre
import Derived.Test.YtgccimhdbphenaaFnotex0
import Derived.Test.YtgccimhdbphenaaFlaw09awake
namespace Go.Proofs.Ytgccimhdbphenaa.F
open Go.RowKit Go.Proofs.YtgccimhdbphenaaW.PrintWords Go.Proofs.YtgccimhdbphenaaW.PrintLast Go.Proofs.YtgccimhdbphenaaW.PrintMore
attribute [local go_sem] max2_int min2_int max_two min_two max_three min_three max_four min_four   -- for this text's walks alone
set_option linter.unusedVariables false
set_option linter.unusedSimpArgs false

/-! ### weirkeeperlaw09_NoteAdds: function 11 -/
mutual
def weirkeeperlaw09_NoteAdds.j0 : Nat → ByteArray → Bool → List Int → Int → Bool → Option (Bool)
  | 0, _, _, _, _, _ => none
  | k + 1, x0, x1, x2, x3, x32 => if x32 = true then ((weirkeeperlaw09_awake.f k).bind fun t382 => (some t382)) else (if x1 = true then ((note_Number.f k x0).bind fun t383 => (weirkeeperlaw09_NoteAdds.j1 k x0 x1 x2 x3 ([] : List (S55)) ([] : List (S55)) t383)) else (weirkeeperlaw09_NoteAdds.j1 k x0 x1 x2 x3 ([] : List (S55)) ([] : List (S55)) 0))
def weirkeeperlaw09_NoteAdds.j1 : Nat → ByteArray → Bool → List Int → Int → List (S55) → List (S55) → Int → Option (Bool)
  | 0, _, _, _, _, _, _, _ => none
  | k + 1, x0, x1, x2, x3, x9, x10, x11 => weirkeeperlaw09_NoteAdds.l0 k x0 x1 x2 x3 x9 x10 x11 x2 (x2.length : Int) 0
def weirkeeperlaw09_NoteAdds.l0 : Nat → ByteArray → Bool → List Int → Int → List (S55) → List (S55) → Int → List Int → Int → Int → Option (Bool)
  | 0, _, _, _, _, _, _, _, _, _, _ => none
  | k + 1, x0, x1, x2, x3, x9, x10, x11, x37, x38, x39 => if x39 < x38 then (if 0 ≤ x39 then (if x39 < (x37.length : Int) then (if x9.length < 2932031007402 then (if (x2.length : Int) = 0 then (none) else (if 0 ≤ (Int.tmod (wrap64 ((wrap64 ((x2.length : Int) - x39)) + (wrap64 (x3)))) (x2.length : Int)) then (if (Int.tmod (wrap64 ((wrap64 ((x2.length : Int) - x39)) + (wrap64 (x3)))) (x2.length : Int)) < (x2.length : Int) then (if x10.length < 2932031007402 then (weirkeeperlaw09_NoteAdds.l0 k x0 x1 x2 x3 (x9 ++ [(⟨3, (⟨#[]⟩ : ByteArray), (⟨#[]⟩ : ByteArray), rd x37 x39⟩ : S55)]) (x10 ++ [(⟨3, (⟨#[]⟩ : ByteArray), (⟨#[]⟩ : ByteArray), rd x2 (Int.tmod (wrap64 ((wrap64 ((x2.length : Int) - x39)) + (wrap64 (x3)))) (x2.length : Int))⟩ : S55)]) (IntKind.u64.wrap (x11 + (rd x37 x39))) x37 x38 (wrap64 (x39 + 1))) else (none)) else (none)) else (none))) else (none)) else (none)) else (none)) else ((note_Done.f k x0 x1 x9).bind fun bt392 => ((note_Done.f k x0 x1 x10).bind fun bt394 => ((note_Done.f k bt392.1 bt392.2 (([(⟨2, (⟨#[]⟩ : ByteArray), (⟨#[]⟩ : ByteArray), 0⟩ : S55)] : List (S55)))).bind fun bt399 => (if bt392.2 = true then (if bt394.2 = true then (if bt392.1.toList = bt394.1.toList then (if (bt392.1.size : Int) = 8 then ((note_Number.f k bt392.1).bind fun t401 => (if t401 = x11 then (if bt399.2 = true then (some false) else ((weirkeeperlaw09_awake.f k).bind fun t402 => (some t402))) else (some false))) else (some false)) else (some false)) else (some false)) else (some false)))))
end
def weirkeeperlaw09_NoteAdds.f (k : Nat) (a0 : ByteArray) (a1 : Bool) (l2 : List Int) (a3 : Int) : Option (Bool) := if (a0.size : Int) > 300 then (weirkeeperlaw09_NoteAdds.j0 k a0 a1 l2 a3 true) else (if (l2.length : Int) > 60 then (weirkeeperlaw09_NoteAdds.j0 k a0 a1 l2 a3 true) else (weirkeeperlaw09_NoteAdds.j0 k a0 a1 l2 a3 ((l2.length : Int) == 0)))
theorem weirkeeperlaw09_NoteAdds.mono_l : ∀ k, (∀ y0 y1 y2 y3 y4, LeO (weirkeeperlaw09_NoteAdds.j0 k y0 y1 y2 y3 y4) (weirkeeperlaw09_NoteAdds.j0 (k + 1) y0 y1 y2 y3 y4)) ∧ (∀ y0 y1 y2 y3 y4 y5 y6, LeO (weirkeeperlaw09_NoteAdds.j1 k y0 y1 y2 y3 y4 y5 y6) (weirkeeperlaw09_NoteAdds.j1 (k + 1) y0 y1 y2 y3 y4 y5 y6)) ∧ (∀ y0 y1 y2 y3 y4 y5 y6 y7 y8 y9, LeO (weirkeeperlaw09_NoteAdds.l0 k y0 y1 y2 y3 y4 y5 y6 y7 y8 y9) (weirkeeperlaw09_NoteAdds.l0 (k + 1) y0 y1 y2 y3 y4 y5 y6 y7 y8 y9))
  | 0 => ⟨fun _ _ _ _ _ r h => by simp [weirkeeperlaw09_NoteAdds.j0] at h, fun _ _ _ _ _ _ _ r h => by simp [weirkeeperlaw09_NoteAdds.j1] at h, fun _ _ _ _ _ _ _ _ _ _ r h => by simp [weirkeeperlaw09_NoteAdds.l0] at h⟩
  | k + 1 => by
    obtain ⟨ih0, ih1, ih2⟩ := weirkeeperlaw09_NoteAdds.mono_l k
    refine ⟨?_, ?_, ?_⟩
    · intro y0 y1 y2 y3 y4
      unfold weirkeeperlaw09_NoteAdds.j0
      repeat' first
      | (with_reducible exact ih0 _ _ _ _ _)
      | (with_reducible exact ih1 _ _ _ _ _ _ _)
      | (with_reducible exact ih2 _ _ _ _ _ _ _ _ _ _)
      | (with_reducible exact note_Done.mono _ _ _ _)
      | (with_reducible exact note_Number.mono _ _)
      | (with_reducible exact weirkeeperlaw09_awake.mono _)
      | (with_reducible exact LeO.refl _)
      | (with_reducible exact LeO.none _)
      | (with_reducible refine LeO.ite ?_ ?_)
      | (with_reducible refine LeO.bind ?_ (fun _ => ?_))
      | exact ih0 _ _ _ _ _
      | exact ih1 _ _ _ _ _ _ _
      | exact ih2 _ _ _ _ _ _ _ _ _ _
      | exact note_Done.mono _ _ _ _
      | exact note_Number.mono _ _
      | exact weirkeeperlaw09_awake.mono _
      | exact LeO.none _
      | refine LeO.ite ?_ ?_
      | refine LeO.bind ?_ (fun _ => ?_)
    · intro y0 y1 y2 y3 y4 y5 y6
      unfold weirkeeperlaw09_NoteAdds.j1
      repeat' first
      | (with_reducible exact ih0 _ _ _ _ _)
      | (with_reducible exact ih1 _ _ _ _ _ _ _)
      | (with_reducible exact ih2 _ _ _ _ _ _ _ _ _ _)
      | (with_reducible exact note_Done.mono _ _ _ _)
      | (with_reducible exact note_Number.mono _ _)
      | (with_reducible exact weirkeeperlaw09_awake.mono _)
      | (with_reducible exact LeO.refl _)
      | (with_reducible exact LeO.none _)
      | (with_reducible refine LeO.ite ?_ ?_)
      | (with_reducible refine LeO.bind ?_ (fun _ => ?_))
      | exact ih0 _ _ _ _ _
      | exact ih1 _ _ _ _ _ _ _
      | exact ih2 _ _ _ _ _ _ _ _ _ _
      | exact note_Done.mono _ _ _ _
      | exact note_Number.mono _ _
      | exact weirkeeperlaw09_awake.mono _
      | exact LeO.none _
      | refine LeO.ite ?_ ?_
      | refine LeO.bind ?_ (fun _ => ?_)
    · intro y0 y1 y2 y3 y4 y5 y6 y7 y8 y9
      unfold weirkeeperlaw09_NoteAdds.l0
      repeat' first
      | (with_reducible exact ih0 _ _ _ _ _)
      | (with_reducible exact ih1 _ _ _ _ _ _ _)
      | (with_reducible exact ih2 _ _ _ _ _ _ _ _ _ _)
      | (with_reducible exact note_Done.mono _ _ _ _)
      | (with_reducible exact note_Number.mono _ _)
      | (with_reducible exact weirkeeperlaw09_awake.mono _)
      | (with_reducible exact LeO.refl _)
      | (with_reducible exact LeO.none _)
      | (with_reducible refine LeO.ite ?_ ?_)
      | (with_reducible refine LeO.bind ?_ (fun _ => ?_))
      | exact ih0 _ _ _ _ _
      | exact ih1 _ _ _ _ _ _ _
      | exact ih2 _ _ _ _ _ _ _ _ _ _
      | exact note_Done.mono _ _ _ _
      | exact note_Number.mono _ _
      | exact weirkeeperlaw09_awake.mono _
      | exact LeO.none _
      | refine LeO.ite ?_ ?_
      | refine LeO.bind ?_ (fun _ => ?_)
theorem weirkeeperlaw09_NoteAdds.mono : ∀ a0 a1 a2 a3 k, LeO (weirkeeperlaw09_NoteAdds.f k a0 a1 a2 a3) (weirkeeperlaw09_NoteAdds.f (k + 1) a0 a1 a2 a3) := by
  intro a0 a1 a2 a3 k
  obtain ⟨ih0, ih1, ih2⟩ := weirkeeperlaw09_NoteAdds.mono_l k
  unfold weirkeeperlaw09_NoteAdds.f
  repeat' first
      | (with_reducible exact ih0 _ _ _ _ _)
      | (with_reducible exact ih1 _ _ _ _ _ _ _)
      | (with_reducible exact ih2 _ _ _ _ _ _ _ _ _ _)
      | (with_reducible exact note_Done.mono _ _ _ _)
      | (with_reducible exact note_Number.mono _ _)
      | (with_reducible exact weirkeeperlaw09_awake.mono _)
      | (with_reducible exact LeO.refl _)
      | (with_reducible exact LeO.none _)
      | (with_reducible refine LeO.ite ?_ ?_)
      | (with_reducible refine LeO.bind ?_ (fun _ => ?_))
      | exact ih0 _ _ _ _ _
      | exact ih1 _ _ _ _ _ _ _
      | exact ih2 _ _ _ _ _ _ _ _ _ _
      | exact note_Done.mono _ _ _ _
      | exact note_Number.mono _ _
      | exact weirkeeperlaw09_awake.mono _
      | exact LeO.none _
      | refine LeO.ite ?_ ?_
      | refine LeO.bind ?_ (fun _ => ?_)
set_option maxHeartbeats 8000000 in
set_option maxRecDepth 100000 in
theorem weirkeeperlaw09_NoteAdds.calls (k : Nat) (a0 : ByteArray) (a1 : Bool) (A2 : Option Addr) (c2 : Nat) (l2 : List Int) (a3 : Int) (w : World) (hr2 : Kd.C (Kd.int .u64) w A2 l2.length l2) (hc2 : l2.length ≤ c2) (h : weirkeeperlaw09_NoteAdds.f k a0 a1 l2 a3 = some true) :
    Calls Try.prog 11 #[.string a0, .bool a1, .slice A2 l2.length c2, .int .u8 a3] w fun e w' => e = .returned (.bool true) ∧ Below w.heap.size w w' := by
  have hu55 := Try.underlying55
  have HR2 := Aside0.mk hr2
  have HC2 := Aside0.mk hc2
  clear hr2 hc2
  have HB := Aside0.mk (Below.refl w.heap.size w)
  have H : (if (a0.size : Int) > 300 then (weirkeeperlaw09_NoteAdds.j0 k a0 a1 l2 a3 true) else (if (l2.length : Int) > 60 then (weirkeeperlaw09_NoteAdds.j0 k a0 a1 l2 a3 true) else (weirkeeperlaw09_NoteAdds.j0 k a0 a1 l2 a3 ((l2.length : Int) == 0)))) = some true := h
  clear h
  have HC5 := Aside0.mk H
  clear H
  go_enter Try.func11, Try.ntmps11
  go_upto_region 1 with (fail)
  go_cut [32] (fun v32 wc => ∃ (kq : Nat) (x32_4 : Bool), v32 = .bool x32_4 ∧ Aside0 (weirkeeperlaw09_NoteAdds.j0 kq a0 a1 l2 a3 x32_4 = some true) ∧ Aside0 (kq ≤ k) ∧ Aside0 (Below w.heap.size w wc))
  case first =>
    have H := HC5.out
    clear HC5
    by_cases c6 : (a0.size : Int) > 300
    · rw [if_pos c6] at H
      have c6b0 : decide (300 < (a0.size : Int)) = true := decide_eq_true c6
      have c6b1 : decide (300 < a0.size) = true := decide_eq_true (by omega)
      clear c6
      (first | rw [c6b0] | (simp only [i64_w, i32_w]; rw [c6b0]) | skip)
      have H' := Aside0.mk H
      clear H
      go_wp2
      go_meet
      case rel => exact ⟨_, (true), (by first | rfl | (simp; done) | (simp [*]; done)), H', ⟨by first | omega | exact Nat.le_refl _⟩, ⟨by repeat (first | (with_reducible first | exact HB.out | apply below_alloc | apply pw_below_drewN | apply below_drew1) | exact HB.out)⟩⟩
    · rw [if_neg c6] at H
      have c6b0 : decide (300 < (a0.size : Int)) = false := decide_eq_false c6
      have c6b1 : decide (300 < a0.size) = false := decide_eq_false (by omega)
      clear c6
      (first | rw [c6b0] | (simp only [i64_w, i32_w]; rw [c6b0]) | skip)
      by_cases c7 : (l2.length : Int) > 60
      · rw [if_pos c7] at H
        have c7b0 : decide (60 < (l2.length : Int)) = true := decide_eq_true c7
        have c7b1 : decide (60 < l2.length) = true := decide_eq_true (by omega)
        clear c7
        have H' := Aside0.mk H
        clear H
        go_wp2
        go_meet
        case rel => exact ⟨_, (true), (by first | rfl | (simp; done) | (simp [*]; done)), H', ⟨by first | omega | exact Nat.le_refl _⟩, ⟨by repeat (first | (with_reducible first | exact HB.out | apply below_alloc | apply pw_below_drewN | apply below_drew1) | exact HB.out)⟩⟩
      · rw [if_neg c7] at H
        have c7b0 : decide (60 < (l2.length : Int)) = false := decide_eq_false c7
        have c7b1 : decide (60 < l2.length) = false := decide_eq_false (by omega)
        clear c7
        have H' := Aside0.mk H
        clear H
        go_wp2
        go_meet
        case rel => exact ⟨_, (((l2.length : Int) == 0)), (by first | rfl | (simp; done) | (simp [*]; done)), H', ⟨by first | omega | exact Nat.le_refl _⟩, ⟨by repeat (first | (with_reducible first | exact HB.out | apply below_alloc | apply pw_below_drewN | apply below_drew1) | exact HB.out)⟩⟩
  case rest =>
    clear HC5
    try clear c1
    try clear c2
    try clear p2
    try clear c6
    try clear c6b0
    try clear c6b1
    try clear c7
    try clear c7b0
    try clear c7b1
    obtain ⟨kq, x32_4, rfl, HA, HJ4, HB⟩ := hcut
    cases kq with
    | zero => exact absurd HA.out (by simp [weirkeeperlaw09_NoteAdds.j0])
    | succ kj4 =>
      have H := HA.out
      clear HA
      simp only [weirkeeperlaw09_NoteAdds.j0] at H
      by_cases c8 : x32_4 = true
      · subst c8
        have H1 : ((weirkeeperlaw09_awake.f kj4).bind fun t382 => (some t382)) = some true := by rw [if_pos rfl] at H; exact H
        clear H
        have H := H1
        clear H1
        replace H := Option.bind_eq_some_iff.mp H
        obtain ⟨t382, A90, H⟩ := H
        replace H : (some t382) = some true := H
        have A9 := Aside0.mk A90
        clear A90
        (have H9_ := Option.some.inj H; first | subst H9_ | (have h9_ := Aside0.mk H9_; clear H9_))
        go_wp2_with (first | ((with_reducible refine gate_callee (f := 29) rfl ?_); refine goesL_ (some 33) rfl rfl Try.func29 (by kernel_rfl) rfl #[] rfl (by (try simp only [List.map_toArray, List.map_cons, List.map_nil]); first | done | rfl | (simp only [List.length_drop, List.length_take]; rfl)) ?_; (with_reducible refine (weirkeeperlaw09_awake.calls kj4 _ A9.out).mono ?_); rintro e w10 ⟨rfl, hb⟩; refine ⟨_, rfl, ?_⟩; have n0_ := Aside0.mk (below_step (by repeat (first | (with_reducible first | exact HB.out | apply below_alloc | apply pw_below_drewN | apply below_drew1) | exact HB.out)) hb); clear HB; have HB := n0_; clear n0_; (try clear hb); (try clear hb2); (try clear hk); (try clear hi)))
        go_ret
        exact ⟨by first | rfl | (simp only [h9_.out]; done) | (have h8_ := h9_.out; simp [h8_]; done) | (simp [errW_none, errW_some] <;> rfl) | (simp [*, errW_none, errW_some] <;> rfl), by repeat (first | (with_reducible first | exact HB.out | apply below_alloc | apply pw_below_drewN | apply below_drew1) | exact HB.out)⟩
      · replace c8 := Bool.eq_false_iff.mpr c8
        subst c8
        have H1 : (if a1 = true then ((note_Number.f kj4 a0).bind fun t383 => (weirkeeperlaw09_NoteAdds.j1 kj4 a0 a1 l2 a3 ([] : List (S55)) ([] : List (S55)) t383)) else (weirkeeperlaw09_NoteAdds.j1 kj4 a0 a1 l2 a3 ([] : List (S55)) ([] : List (S55)) 0)) = some true := by rw [if_neg (show ¬ (false = true) by decide)] at H; exact H
        clear H
        have H := H1
        clear H1
        have HC11 := Aside0.mk H
        clear H
        go_upto_if 34 with (fail)
        go_cut [11] (fun v11 wc => ∃ (kq : Nat) (x11_10 : Int), v11 = .int .u64 x11_10 ∧ Aside0 (weirkeeperlaw09_NoteAdds.j1 kq a0 a1 l2 a3 ([] : List (S55)) ([] : List (S55)) x11_10 = some true) ∧ Aside0 (kq ≤ kj4) ∧ Aside0 (Kd.R k55 55 wc w.heap.size (fun k_ => some k_ ≠ ((.slice none 0 0) : Value).ownBlock) (.slice none 0 0) ([] : List (S55))) ∧ Aside0 (Kd.R k55 55 wc w.heap.size (fun k_ => some k_ ≠ ((.slice none 0 0) : Value).ownBlock) (.slice none 0 0) ([] : List (S55))) ∧ Aside0 (Below w.heap.size w wc))
        case first =>
          have H := HC11.out
          clear HC11
          by_cases c12 : a1 = true
          · subst c12
            have H1 : ((note_Number.f kj4 a0).bind fun t383 => (weirkeeperlaw09_NoteAdds.j1 kj4 a0 true l2 a3 ([] : List (S55)) ([] : List (S55)) t383)) = some true := by rw [if_pos rfl] at H; exact H
            clear H
            have H := H1
            clear H1
            replace H := Option.bind_eq_some_iff.mp H
            obtain ⟨t383, A130, H⟩ := H
            replace H : (weirkeeperlaw09_NoteAdds.j1 kj4 a0 true l2 a3 ([] : List (S55)) ([] : List (S55)) t383) = some true := H
            have A13 := Aside0.mk A130
            clear A130
            have H' := Aside0.mk H
            clear H
            go_wp2_with (first | ((with_reducible refine gate_callee (f := 33) rfl ?_); refine goesL_ (some 36) rfl rfl Try.func33 (by kernel_rfl) rfl #[.string a0] rfl (by (try simp only [List.map_toArray, List.map_cons, List.map_nil]); first | done | rfl | (simp only [List.length_drop, List.length_take]; rfl)) ?_; (with_reducible refine (note_Number.calls kj4 a0 t383 _ A13.out).mono ?_); rintro e w' ⟨rfl, ⟨nd, rfl⟩⟩; refine ⟨_, rfl, ?_⟩))
            go_meet
            case rel => exact ⟨_, (t383), (by first | rfl | (simp; done) | (simp [*]; done)), H', ⟨by have := HJ4.out; first | omega | exact Nat.le_refl _⟩, ⟨by first | exact Kd.R_nil _ _ _ _ _ | exact Kd.N_nil _ _ _ _ _ | exact Kd.V_nil _ _ _ _ _ | exact Kd.Q_nil _ _ _ _ _ | exact Kd.S_nil _ _ _ _ _⟩, ⟨by first | exact Kd.R_nil _ _ _ _ _ | exact Kd.N_nil _ _ _ _ _ | exact Kd.V_nil _ _ _ _ _ | exact Kd.Q_nil _ _ _ _ _ | exact Kd.S_nil _ _ _ _ _⟩, ⟨by repeat (first | (with_reducible first | exact HB.out | apply below_alloc | apply pw_below_drewN | apply below_drew1) | exact HB.out)⟩⟩
          · replace c12 := Bool.eq_false_iff.mpr c12
            subst c12
            have H1 : (weirkeeperlaw09_NoteAdds.j1 kj4 a0 false l2 a3 ([] : List (S55)) ([] : List (S55)) 0) = some true := by rw [if_neg (show ¬ (false = true) by decide)] at H; exact H
            clear H
            have H := H1
            clear H1
            have H' := Aside0.mk H
            clear H
            go_wp2
            go_meet
            case rel => exact ⟨_, (0), (by first | rfl | (simp; done) | (simp [*]; done)), H', ⟨by have := HJ4.out; first | omega | exact Nat.le_refl _⟩, ⟨by first | exact Kd.R_nil _ _ _ _ _ | exact Kd.N_nil _ _ _ _ _ | exact Kd.V_nil _ _ _ _ _ | exact Kd.Q_nil _ _ _ _ _ | exact Kd.S_nil _ _ _ _ _⟩, ⟨by first | exact Kd.R_nil _ _ _ _ _ | exact Kd.N_nil _ _ _ _ _ | exact Kd.V_nil _ _ _ _ _ | exact Kd.Q_nil _ _ _ _ _ | exact Kd.S_nil _ _ _ _ _⟩, ⟨by repeat (first | (with_reducible first | exact HB.out | apply below_alloc | apply pw_below_drewN | apply below_drew1) | exact HB.out)⟩⟩
        case rest =>
          clear HC11
          try clear c1
          try clear c2
          try clear p2
          try clear c3
          try clear c6
          try clear c6b0
          try clear c6b1
          try clear c7
          try clear c7b0
          try clear c7b1
          try clear c8
          try clear c11
          try clear c12
          try clear p2
          obtain ⟨kq, x11_10, rfl, HA, HJ10, HO_9, HO_10, HB⟩ := hcut
          cases kq with
          | zero => exact absurd HA.out (by simp [weirkeeperlaw09_NoteAdds.j1])
          | succ kj10 =>
            have H := HA.out
            clear HA
            simp only [weirkeeperlaw09_NoteAdds.j1] at H
            have H' := Aside0.mk H
            clear H
            go_wp2
            go_loopg [9, 10, 11, 39] kj10 (fun kq v9 v10 v11 v39 w' => ∃ (x9_3 : List (S55)) (x10_3 : List (S55)) (x11_3 : Int) (x39_3 : Int), v11 = .int .u64 x11_3 ∧ v39 = .int .i64 x39_3 ∧ Aside0 (weirkeeperlaw09_NoteAdds.l0 kq a0 a1 l2 a3 x9_3 x10_3 x11_3 l2 (l2.length : Int) x39_3 = some true) ∧ Aside0 (kq ≤ kj10) ∧ Aside0 (Kd.R k55 55 w' w.heap.size (fun k_ => some k_ ≠ (v10 : Value).ownBlock) v9 x9_3) ∧ Aside0 (Kd.R k55 55 w' w.heap.size (fun k_ => some k_ ≠ (v9 : Value).ownBlock) v10 x10_3) ∧ Aside0 (Below w.heap.size w w'))
            case atStart => exact ⟨(([] : List (S55))), (([] : List (S55))), (x11_10), (0), (by first | rfl | (simp; done) | (simp [*]; done)), (by first | rfl | (simp; done) | (simp [*]; done)), H', ⟨Nat.le_refl _⟩, ⟨by (with_reducible repeat (first | apply Kd.R_alloc | apply Kd.R_drewN | apply Kd.R_drew)); exact HO_9.out⟩, ⟨by (with_reducible repeat (first | apply Kd.R_alloc | apply Kd.R_drewN | apply Kd.R_drew)); exact HO_10.out⟩, ⟨by repeat (first | (with_reducible first | exact HB.out | apply below_alloc | apply pw_below_drewN | apply below_drew1) | exact HB.out)⟩⟩
            case round =>
              clear H'
              try clear c1
              try clear c2
              try clear p2
              try clear c3
              try clear c6
              try clear c6b0
              try clear c6b1
              try clear c7
              try clear c7b0
              try clear c7b1
              try clear c8
              try clear c11
              try clear c12
              try clear p2
              obtain ⟨x9_3, x10_3, x11_3, x39_3, rfl, rfl, HA, HK3, HO_9, HO_10, HB⟩ := hrel
              cases gk with
              | zero => exact absurd HA.out (by simp [weirkeeperlaw09_NoteAdds.l0])
              | succ k3 =>
                have H := HA.out
                clear HA
                simp only [weirkeeperlaw09_NoteAdds.l0] at H
                by_cases c14 : x39_3 < (l2.length : Int)
                · rw [if_pos c14] at H
                  have c14b0 : decide (x39_3 < (l2.length : Int)) = true := decide_eq_true c14
                  clear c14
                  by_cases c15 : 0 ≤ x39_3
                  · rw [if_pos c15] at H
                    have c15b0 : decide (0 ≤ x39_3) = true := decide_eq_true c15
                    clear c15
                    by_cases c16 : x39_3 < (l2.length : Int)
                    · rw [if_pos c16] at H
                      have c16b0 : decide (x39_3 < (l2.length : Int)) = true := decide_eq_true c16
                      clear c16
                      by_cases c17 : x9_3.length < 2932031007402
                      · rw [if_pos c17] at H
                        have LMc17 := Aside0.mk c17
                        clear c17
                        obtain ⟨y385, hy385⟩ : ∃ y_ : List (S55), y_ = (x9_3 ++ [(⟨3, (⟨#[]⟩ : ByteArray), (⟨#[]⟩ : ByteArray), rd l2 x39_3⟩ : S55)]) := ⟨_, rfl⟩
                        replace H : (if (l2.length : Int) = 0 then (none) else (if 0 ≤ (Int.tmod (wrap64 ((wrap64 ((l2.length : Int) - x39_3)) + (wrap64 (a3)))) (l2.length : Int)) then (if (Int.tmod (wrap64 ((wrap64 ((l2.length : Int) - x39_3)) + (wrap64 (a3)))) (l2.length : Int)) < (l2.length : Int) then (if x10_3.length < 2932031007402 then (weirkeeperlaw09_NoteAdds.l0 k3 a0 a1 l2 a3 y385 (x10_3 ++ [(⟨3, (⟨#[]⟩ : ByteArray), (⟨#[]⟩ : ByteArray), rd l2 (Int.tmod (wrap64 ((wrap64 ((l2.length : Int) - x39_3)) + (wrap64 (a3)))) (l2.length : Int))⟩ : S55)]) (IntKind.u64.wrap (x11_3 + (rd l2 x39_3))) l2 (l2.length : Int) (wrap64 (x39_3 + 1))) else (none)) else (none)) else (none))) = some true := by first | (rw [hy385]; with_reducible exact H) | (have H2_ := (Option.bind_some _ _).symm.trans H; rw [hy385]; with_reducible exact H2_) | (have H2_ := (Option.bind_some _ _).symm.trans H; with_reducible exact H2_) | with_reducible exact H | (rw [hy385]; exact H) | exact H
                        have Ny385 := Aside0.mk hy385
                        clear hy385
                        by_cases c18 : (l2.length : Int) = 0
                        · rw [if_pos c18] at H
                          exact absurd H (by simp)
                        · rw [if_neg c18] at H
                          have c18b0 : ((l2.length : Int) == 0) = false := beq_eq_false_iff_ne.mpr c18
                          have c18b1 : ((l2.length : Int) != 0) = true := bne_iff_ne.mpr c18
                          have c18b2 : ¬ (l2 = []) := fun h_ => c18 (by rw [h_]; rfl)
                          obtain ⟨ji19, hji19⟩ : ∃ j_ : Int, (Int.tmod (wrap64 ((wrap64 ((l2.length : Int) - x39_3)) + (wrap64 (a3)))) (l2.length : Int)) = j_ := ⟨_, rfl⟩
                          replace H : (if 0 ≤ (ji19) then (if (ji19) < (l2.length : Int) then (if x10_3.length < 2932031007402 then (weirkeeperlaw09_NoteAdds.l0 k3 a0 a1 l2 a3 y385 (x10_3 ++ [(⟨3, (⟨#[]⟩ : ByteArray), (⟨#[]⟩ : ByteArray), rd l2 (ji19)⟩ : S55)]) (IntKind.u64.wrap (x11_3 + (rd l2 x39_3))) l2 (l2.length : Int) (wrap64 (x39_3 + 1))) else (none)) else (none)) else (none)) = some true := by first | (rw [hji19] at H; exact H) | (simp only [hji19] at H ⊢; exact H)
                          by_cases c20 : 0 ≤ (ji19)
                          · rw [if_pos c20] at H
                            have c20b0 : decide (0 ≤ (ji19)) = true := decide_eq_true c20
                            clear c20
                            by_cases c21 : (ji19) < (l2.length : Int)
                            · rw [if_pos c21] at H
                              have c21b0 : decide ((ji19) < (l2.length : Int)) = true := decide_eq_true c21
                              clear c21
                              by_cases c22 : x10_3.length < 2932031007402
                              · rw [if_pos c22] at H
                                have LMc22 := Aside0.mk c22
                                clear c22
                                obtain ⟨y389, hy389⟩ : ∃ y_ : List (S55), y_ = (x10_3 ++ [(⟨3, (⟨#[]⟩ : ByteArray), (⟨#[]⟩ : ByteArray), rd l2 (ji19)⟩ : S55)]) := ⟨_, rfl⟩
                                replace H : (weirkeeperlaw09_NoteAdds.l0 k3 a0 a1 l2 a3 y385 y389 (IntKind.u64.wrap (x11_3 + (rd l2 x39_3))) l2 (l2.length : Int) (wrap64 (x39_3 + 1))) = some true := by first | (rw [hy389]; with_reducible exact H) | (have H2_ := (Option.bind_some _ _).symm.trans H; rw [hy389]; with_reducible exact H2_) | (have H2_ := (Option.bind_some _ _).symm.trans H; with_reducible exact H2_) | with_reducible exact H | (rw [hy389]; exact H) | exact H
                                have Ny389 := Aside0.mk hy389
                                clear hy389
                                have H' := Aside0.mk H
                                clear H
                                have p384 : 0 ≤ (x39_3 : Int) := of_decide_eq_true (by first | (with_reducible assumption) | assumption)
                                have q384 : x39_3 < (l2.length : Int) := of_decide_eq_true (by first | (with_reducible assumption) | assumption)
                                obtain ⟨ad384, e384, hx384_0⟩ := Kd.at_int HR2.out x39_3 p384 q384
                                cases e384
                                replace hx384_0 := (HB.out.cell (World.block_lt_of_cell? w _ hx384_0)).trans hx384_0
                                replace p384 := eq_true p384
                                replace q384 := eq_true q384
                                go_wp2_with (first | ((with_reducible refine gate_builtin (b := .append) (xs := #[.tmp 44, .tmp 47]) rfl ?_); (try (refine gate_guard (by rfl) ?_; dsimp only)); at_builtin; refine Kd.R_append k55 (w0 := w) w.heap.size rfl (.tmp 44) (.tmp 47) 63 55 (.agg #[(.int .i64 0), (.string ⟨#[]⟩), (.string ⟨#[]⟩), (.int .u64 0)]) 48 rfl Try.underlying63 info55 rfl (by decide) (by omega) u9 x9_3 (⟨3, (⟨#[]⟩ : ByteArray), (⟨#[]⟩ : ByteArray), rd l2 x39_3⟩ : S55) [.int .i64 3, .string (⟨#[]⟩ : ByteArray), .string (⟨#[]⟩ : ByteArray), .int .u64 (rd l2 x39_3)] (fun k_ => some k_ ≠ (u10 : Value).ownBlock) (fun _ => False) rfl rfl ?aP (fun _ hk => hk.elim) ?aF ?aO ?aB ?aS ?aL ?_; (case aP => exact k55_mkM _ _ _ (⟨3, (⟨#[]⟩ : ByteArray), (⟨#[]⟩ : ByteArray), rd l2 x39_3⟩ : S55)); (case aB => exact (by repeat (first | (with_reducible first | exact HB.out | apply below_alloc | apply pw_below_drewN | apply below_drew1) | exact HB.out))); (case aF => exact (fun k_ hk => Kd.fresh' (Kd.R_lt (by (with_reducible repeat (first | apply Kd.R_alloc | apply Kd.R_drewN | apply Kd.R_drew)); exact HO_10.out)) k_ hk)); (case aO => exact (by (with_reducible repeat (first | apply Kd.R_alloc | apply Kd.R_drewN | apply Kd.R_drew)); exact HO_9.out)); (case aS => exact (below_size (by repeat (first | (with_reducible first | exact HB.out | apply below_alloc | apply pw_below_drewN | apply below_drew1) | exact HB.out)))); (case aL => have := LMc17.out; omega); intro v386 w23 ho hb hg hat; rw [← Ny385.out] at ho; have n0_ := Aside0.mk (Kd.R_after (ok := (fun _ => True)) (by (with_reducible repeat (first | apply Kd.R_alloc | apply Kd.R_drewN | apply Kd.R_drew)); exact Kd.R_mono HO_10.out (fun _ hk => ⟨trivial, hk⟩)) hg hat); have n1_ := Aside0.mk (hb); have n2_ := Aside0.mk (ho); clear HO_10; clear HB; clear HO_9; have HO_10 := n0_; have HB := n1_; have HO387 := n2_; clear n0_ n1_ n2_; clear ho hb hg hat; have p388 : 0 ≤ ((ji19) : Int) := of_decide_eq_true (by first | (with_reducible assumption) | assumption); have q388 : (ji19) < (l2.length : Int) := of_decide_eq_true (by first | (with_reducible assumption) | assumption); obtain ⟨ad388, e388, hx388_0⟩ := Kd.at_int HR2.out (ji19) p388 q388; obtain rfl : ad384 = ad388 := (by injection e388); replace hx388_0 := (HB.out.cell (World.block_lt_of_cell? w _ hx388_0)).trans hx388_0; replace p388 := eq_true p388; replace q388 := eq_true q388) | ((with_reducible refine gate_builtin (b := .append) (xs := #[.tmp 49, .tmp 64]) rfl ?_); (try (refine gate_guard (by rfl) ?_; dsimp only)); at_builtin; refine Kd.R_append k55 (w0 := w) w.heap.size rfl (.tmp 49) (.tmp 64) 63 55 (.agg #[(.int .i64 0), (.string ⟨#[]⟩), (.string ⟨#[]⟩), (.int .u64 0)]) 48 rfl Try.underlying63 info55 rfl (by decide) (by omega) u10 x10_3 (⟨3, (⟨#[]⟩ : ByteArray), (⟨#[]⟩ : ByteArray), rd l2 (ji19)⟩ : S55) [.int .i64 3, .string (⟨#[]⟩ : ByteArray), .string (⟨#[]⟩ : ByteArray), .int .u64 (rd l2 (ji19))] (fun k_ => some k_ ≠ (v386 : Value).ownBlock) (fun _ => False) rfl rfl ?aP (fun _ hk => hk.elim) ?aF ?aO ?aB ?aS ?aL ?_; (case aP => exact k55_mkM _ _ _ (⟨3, (⟨#[]⟩ : ByteArray), (⟨#[]⟩ : ByteArray), rd l2 (ji19)⟩ : S55)); (case aB => exact (by repeat (first | (with_reducible first | exact HB.out | apply below_alloc | apply pw_below_drewN | apply below_drew1) | exact HB.out))); (case aF => exact (fun k_ hk => Kd.fresh' (Kd.R_lt (by (with_reducible repeat (first | apply Kd.R_alloc | apply Kd.R_drewN | apply Kd.R_drew)); exact HO387.out)) k_ hk)); (case aO => exact (by (with_reducible repeat (first | apply Kd.R_alloc | apply Kd.R_drewN | apply Kd.R_drew)); exact Kd.R_mono HO_10.out (fun _ hk => hk.2))); (case aS => exact (below_size (by repeat (first | (with_reducible first | exact HB.out | apply below_alloc | apply pw_below_drewN | apply below_drew1) | exact HB.out)))); (case aL => have := LMc22.out; omega); intro v390 w24 ho hb hg hat; rw [← Ny389.out] at ho; have n0_ := Aside0.mk (Kd.R_after (ok := (fun _ => True)) (by (with_reducible repeat (first | apply Kd.R_alloc | apply Kd.R_drewN | apply Kd.R_drew)); exact Kd.R_mono HO387.out (fun _ hk => ⟨trivial, hk⟩)) hg hat); have n1_ := Aside0.mk (hb); have n2_ := Aside0.mk (ho); clear HO387; clear HB; clear HO_10; have HO387 := n0_; have HB := n1_; have HO391 := n2_; clear n0_ n1_ n2_; clear ho hb hg hat))
                                go_roundg k3
                                case measure => have := HJ4.out; have := HJ10.out; have := HK3.out; omega
                                case rel => exact ⟨(y385), (y389), (IntKind.u64.wrap (x11_3 + (rd l2 x39_3))), (wrap64 (x39_3 + 1)), (by first | rfl | (simp; done) | (simp [*]; done)), (by first | rfl | (simp; done) | (simp [*]; done)), H', ⟨by have := HJ4.out; have := HJ10.out; have := HK3.out; omega⟩, ⟨by (with_reducible repeat (first | apply Kd.R_alloc | apply Kd.R_drewN | apply Kd.R_drew)); exact Kd.R_mono HO387.out (fun _ hk => hk.2)⟩, ⟨by (with_reducible repeat (first | apply Kd.R_alloc | apply Kd.R_drewN | apply Kd.R_drew)); exact HO391.out⟩, ⟨by repeat (first | (with_reducible first | exact HB.out | apply below_alloc | apply pw_below_drewN | apply below_drew1) | exact HB.out)⟩⟩
                              · rw [if_neg c22] at H
                                exact absurd H (by simp)
                            · rw [if_neg c21] at H
                              exact absurd H (by simp)
                          · rw [if_neg c20] at H
                            exact absurd H (by simp)
                      · rw [if_neg c17] at H
                        exact absurd H (by simp)
                    · rw [if_neg c16] at H
                      exact absurd H (by simp)
                  · rw [if_neg c15] at H
                    exact absurd H (by simp)
                · rw [if_neg c14] at H
                  have c14b0 : decide (x39_3 < (l2.length : Int)) = false := decide_eq_false c14
                  clear c14
                  replace H := Option.bind_eq_some_iff.mp H
                  obtain ⟨⟨t392, t393⟩, A250, H⟩ := H
                  replace H : ((note_Done.f k3 a0 a1 x10_3).bind fun bt394 => ((note_Done.f k3 t392 t393 (([(⟨2, (⟨#[]⟩ : ByteArray), (⟨#[]⟩ : ByteArray), 0⟩ : S55)] : List (S55)))).bind fun bt399 => (if t393 = true then (if bt394.2 = true then (if t392.toList = bt394.1.toList then (if (t392.size : Int) = 8 then ((note_Number.f k3 t392).bind fun t401 => (if t401 = x11_3 then (if bt399.2 = true then (some false) else ((weirkeeperlaw09_awake.f k3).bind fun t402 => (some t402))) else (some false))) else (some false)) else (some false)) else (some false)) else (some false)))) = some true := H
                  have A25 := Aside0.mk A250
                  clear A250
                  replace H := Option.bind_eq_some_iff.mp H
                  obtain ⟨⟨t394, t395⟩, A260, H⟩ := H
                  replace H : ((note_Done.f k3 t392 t393 (([(⟨2, (⟨#[]⟩ : ByteArray), (⟨#[]⟩ : ByteArray), 0⟩ : S55)] : List (S55)))).bind fun bt399 => (if t393 = true then (if t395 = true then (if t392.toList = t394.toList then (if (t392.size : Int) = 8 then ((note_Number.f k3 t392).bind fun t401 => (if t401 = x11_3 then (if bt399.2 = true then (some false) else ((weirkeeperlaw09_awake.f k3).bind fun t402 => (some t402))) else (some false))) else (some false)) else (some false)) else (some false)) else (some false))) = some true := H
                  have A26 := Aside0.mk A260
                  clear A260
                  obtain ⟨y396, hy396⟩ : ∃ y_ : List (S55), y_ = (([(⟨2, (⟨#[]⟩ : ByteArray), (⟨#[]⟩ : ByteArray), 0⟩ : S55)] : List (S55))) := ⟨_, rfl⟩
                  replace H : ((note_Done.f k3 t392 t393 y396).bind fun bt399 => (if t393 = true then (if t395 = true then (if t392.toList = t394.toList then (if (t392.size : Int) = 8 then ((note_Number.f k3 t392).bind fun t401 => (if t401 = x11_3 then (if bt399.2 = true then (some false) else ((weirkeeperlaw09_awake.f k3).bind fun t402 => (some t402))) else (some false))) else (some false)) else (some false)) else (some false)) else (some false))) = some true := by first | (rw [hy396]; with_reducible exact H) | (have H2_ := (Option.bind_some _ _).symm.trans H; rw [hy396]; with_reducible exact H2_) | (have H2_ := (Option.bind_some _ _).symm.trans H; with_reducible exact H2_) | with_reducible exact H | (rw [hy396]; exact H) | exact H
                  have Ny396 := Aside0.mk hy396
                  clear hy396
                  replace H := Option.bind_eq_some_iff.mp H
                  obtain ⟨⟨t399, t400⟩, A270, H⟩ := H
                  replace H : (if t393 = true then (if t395 = true then (if t392.toList = t394.toList then (if (t392.size : Int) = 8 then ((note_Number.f k3 t392).bind fun t401 => (if t401 = x11_3 then (if t400 = true then (some false) else ((weirkeeperlaw09_awake.f k3).bind fun t402 => (some t402))) else (some false))) else (some false)) else (some false)) else (some false)) else (some false)) = some true := H
                  have A27 := Aside0.mk A270
                  clear A270
                  by_cases c28 : t393 = true
                  · subst c28
                    have H1 : (if t395 = true then (if t392.toList = t394.toList then (if (t392.size : Int) = 8 then ((note_Number.f k3 t392).bind fun t401 => (if t401 = x11_3 then (if t400 = true then (some false) else ((weirkeeperlaw09_awake.f k3).bind fun t402 => (some t402))) else (some false))) else (some false)) else (some false)) else (some false)) = some true := by rw [if_pos rfl] at H; exact H
                    clear H
                    have H := H1
                    clear H1
                    by_cases c29 : t395 = true
                    · subst c29
                      have H1 : (if t392.toList = t394.toList then (if (t392.size : Int) = 8 then ((note_Number.f k3 t392).bind fun t401 => (if t401 = x11_3 then (if t400 = true then (some false) else ((weirkeeperlaw09_awake.f k3).bind fun t402 => (some t402))) else (some false))) else (some false)) else (some false)) = some true := by rw [if_pos rfl] at H; exact H
                      clear H
                      have H := H1
                      clear H1
                      by_cases c30 : t392.toList = t394.toList
                      · rw [if_pos c30] at H
                        have c30b0 : (t392.toList == t394.toList) = true := beq_iff_eq.mpr c30
                        have c30b1 : (t392.toList != t394.toList) = false := bne_eq_false_iff_eq.mpr c30
                        clear c30
                        by_cases c31 : (t392.size : Int) = 8
                        · rw [if_pos c31] at H
                          have c31b0 : ((t392.size : Int) == 8) = true := beq_iff_eq.mpr c31
                          have c31b1 : ((t392.size : Int) != 8) = false := bne_eq_false_iff_eq.mpr c31
                          clear c31
                          replace H := Option.bind_eq_some_iff.mp H
                          obtain ⟨t401, A320, H⟩ := H
                          replace H : (if t401 = x11_3 then (if t400 = true then (some false) else ((weirkeeperlaw09_awake.f k3).bind fun t402 => (some t402))) else (some false)) = some true := H
                          have A32 := Aside0.mk A320
                          clear A320
                          by_cases c33 : t401 = x11_3
                          · rw [if_pos c33] at H
                            have c33b0 : (t401 == x11_3) = true := beq_iff_eq.mpr c33
                            have c33b1 : (t401 != x11_3) = false := bne_eq_false_iff_eq.mpr c33
                            clear c33
                            by_cases c34 : t400 = true
                            · subst c34
                              have H1 : (some false) = some true := by rw [if_pos rfl] at H; exact H
                              clear H
                              have H := H1
                              clear H1
                              exact absurd H (by simp)
                            · replace c34 := Bool.eq_false_iff.mpr c34
                              subst c34
                              have H1 : ((weirkeeperlaw09_awake.f k3).bind fun t402 => (some t402)) = some true := by rw [if_neg (show ¬ (false = true) by decide)] at H; exact H
                              clear H
                              have H := H1
                              clear H1
                              replace H := Option.bind_eq_some_iff.mp H
                              obtain ⟨t402, A350, H⟩ := H
                              replace H : (some t402) = some true := H
                              have A35 := Aside0.mk A350
                              clear A350
                              (have H9_ := Option.some.inj H; first | subst H9_ | (have h9_ := Aside0.mk H9_; clear H9_))
                              obtain ⟨Ao36, co36, eo36⟩ := Kd.R_slice HO_9.out
                              subst eo36
                              go_wp2_with (first | ((with_reducible refine gate_callee (f := 30) rfl ?_); refine goesL_ (some 74) rfl rfl Try.func30 (by kernel_rfl) rfl #[.string a0, .bool a1, .slice Ao36 x9_3.length co36] rfl (by (try simp only [List.map_toArray, List.map_cons, List.map_nil]); first | done | rfl | (simp only [List.length_drop, List.length_take]; rfl)) ?_; (with_reducible refine (note_Done.calls k3 a0 a1 _ _ x9_3 t392 true _ ?side1 ?side2 A25.out).mono ?_); (case side1 => repeat (first | exact (Kd.R_reads' HO_9.out).2.2 | (with_reducible refine Kd.C_alloc ?_ _) | (with_reducible refine Kd.C_drewN ?_ _) | (with_reducible refine Kd.C_drew ?_))); (case side2 => exact (Kd.R_reads' HO_9.out).2.1); rintro e w37 ⟨rfl, hb⟩; refine ⟨_, rfl, ?_⟩; have n0_ := Aside0.mk (Kd.R_below (by (with_reducible repeat (first | apply Kd.R_alloc | apply Kd.R_drewN | apply Kd.R_drew)); exact HO_9.out) hb); have n1_ := Aside0.mk (Kd.R_below (by (with_reducible repeat (first | apply Kd.R_alloc | apply Kd.R_drewN | apply Kd.R_drew)); exact HO_10.out) hb); have n2_ := Aside0.mk (below_step (by repeat (first | (with_reducible first | exact HB.out | apply below_alloc | apply pw_below_drewN | apply below_drew1) | exact HB.out)) hb); clear HO_9; clear HO_10; clear HB; have HO_9 := n0_; have HO_10 := n1_; have HB := n2_; clear n0_ n1_ n2_; (try clear hb); (try clear hb2); (try clear hk); (try clear hi); obtain ⟨Ao38, co38, eo38⟩ := Kd.R_slice HO_10.out; subst eo38) | ((with_reducible refine gate_callee (f := 30) rfl ?_); refine goesL_ (some 81) rfl rfl Try.func30 (by kernel_rfl) rfl #[.string a0, .bool a1, .slice Ao38 x10_3.length co38] rfl (by (try simp only [List.map_toArray, List.map_cons, List.map_nil]); first | done | rfl | (simp only [List.length_drop, List.length_take]; rfl)) ?_; (with_reducible refine (note_Done.calls k3 a0 a1 _ _ x10_3 t394 true _ ?side1 ?side2 A26.out).mono ?_); (case side1 => repeat (first | exact (Kd.R_reads' HO_10.out).2.2 | (with_reducible refine Kd.C_alloc ?_ _) | (with_reducible refine Kd.C_drewN ?_ _) | (with_reducible refine Kd.C_drew ?_))); (case side2 => exact (Kd.R_reads' HO_10.out).2.1); rintro e w39 ⟨rfl, hb⟩; refine ⟨_, rfl, ?_⟩; have n0_ := Aside0.mk (Kd.R_below (by (with_reducible repeat (first | apply Kd.R_alloc | apply Kd.R_drewN | apply Kd.R_drew)); exact HO_9.out) hb); have n1_ := Aside0.mk (Kd.R_below (by (with_reducible repeat (first | apply Kd.R_alloc | apply Kd.R_drewN | apply Kd.R_drew)); exact HO_10.out) hb); have n2_ := Aside0.mk (below_step (by repeat (first | (with_reducible first | exact HB.out | apply below_alloc | apply pw_below_drewN | apply below_drew1) | exact HB.out)) hb); clear HO_9; clear HO_10; clear HB; have HO_9 := n0_; have HO_10 := n1_; have HB := n2_; clear n0_ n1_ n2_; (try clear hb); (try clear hb2); (try clear hk); (try clear hi)) | ((with_reducible refine gate_dst (N := 88) rfl ?_); (try (refine gate_guard (by rfl) ?_; dsimp only)); refine Kd.R_lit k55 _ 55 ?hg (N := 88) ?hd (xs := ([(⟨2, (⟨#[]⟩ : ByteArray), (⟨#[]⟩ : ByteArray), 0⟩ : S55)] : List (S55))) (inner := [.int .i64 2, .string (⟨#[]⟩ : ByteArray), .string (⟨#[]⟩ : ByteArray), .int .u64 0]) (ok := fun _ => True) (okp := fun _ => True) ?hr ?hp (fun _ hk => hk) trivial (Below.refl _ _) (Nat.le_refl _) (by simp) ?_; (case hd => rfl); (case hg => rfl); (case hr => first | (go_simp; done) | (go_simp; rfl)); (case hp => exact (Reps.c4 (show Kd.M k55 _ _ _ (⟨2, (⟨#[]⟩ : ByteArray), (⟨#[]⟩ : ByteArray), 0⟩ : S55) [.int .i64 2, .string (⟨#[]⟩ : ByteArray), .string (⟨#[]⟩ : ByteArray), .int .u64 0] from (k55_mkM _ _ _ (⟨2, (⟨#[]⟩ : ByteArray), (⟨#[]⟩ : ByteArray), 0⟩ : S55) )) (Reps.none _ _))); intro v397 w40 ho41 hb hg_ hnew_; clear hg_ hnew_; (first | rw [← Ny396.out] at ho41 | (simp only [Int.reduceToNat] at ho41; rw [← Ny396.out] at ho41)); have n0_ := Aside0.mk (Kd.R_elder' (by (with_reducible repeat (first | apply Kd.R_alloc | apply Kd.R_drewN | apply Kd.R_drew)); exact HO_9.out) (Kd.R_base ho41) hb); have n1_ := Aside0.mk (Kd.R_elder' (by (with_reducible repeat (first | apply Kd.R_alloc | apply Kd.R_drewN | apply Kd.R_drew)); exact HO_10.out) (Kd.R_base ho41) hb); have n2_ := Aside0.mk (Kd.R_lower (Kd.R_new' (Kd.R_new' ho41 (Kd.R_lt (by (with_reducible repeat (first | apply Kd.R_alloc | apply Kd.R_drewN | apply Kd.R_drew)); exact HO_9.out))) (Kd.R_lt (by (with_reducible repeat (first | apply Kd.R_alloc | apply Kd.R_drewN | apply Kd.R_drew)); exact HO_10.out))) (below_size (by repeat (first | (with_reducible first | exact HB.out | apply below_alloc | apply pw_below_drewN | apply below_drew1) | exact HB.out)))); have n3_ := Aside0.mk (below_step (by repeat (first | (with_reducible first | exact HB.out | apply below_alloc | apply pw_below_drewN | apply below_drew1) | exact HB.out)) hb); clear HO_9; clear HO_10; clear HB; have HO_9 := n0_; have HO_10 := n1_; have HO398 := n2_; have HB := n3_; clear n0_ n1_ n2_ n3_; clear hb ho41; obtain ⟨Ao42, co42, eo42⟩ := Kd.R_slice HO398.out; subst eo42) | ((with_reducible refine gate_callee (f := 30) rfl ?_); refine goesL_ (some 89) rfl rfl Try.func30 (by kernel_rfl) rfl #[.string t392, .bool true, .slice Ao42 y396.length co42] rfl (by (try simp only [List.map_toArray, List.map_cons, List.map_nil]); first | done | rfl | (simp only [List.length_drop, List.length_take]; rfl)) ?_; (with_reducible refine (note_Done.calls k3 t392 true _ _ y396 t399 false _ ?side1 ?side2 A27.out).mono ?_); (case side1 => repeat (first | exact (Kd.R_reads' HO398.out).2.2 | (with_reducible refine Kd.C_alloc ?_ _) | (with_reducible refine Kd.C_drewN ?_ _) | (with_reducible refine Kd.C_drew ?_))); (case side2 => exact (Kd.R_reads' HO398.out).2.1); rintro e w43 ⟨rfl, hb⟩; refine ⟨_, rfl, ?_⟩; have n0_ := Aside0.mk (Kd.R_below (by (with_reducible repeat (first | apply Kd.R_alloc | apply Kd.R_drewN | apply Kd.R_drew)); exact HO_9.out) hb); have n1_ := Aside0.mk (Kd.R_below (by (with_reducible repeat (first | apply Kd.R_alloc | apply Kd.R_drewN | apply Kd.R_drew)); exact HO_10.out) hb); have n2_ := Aside0.mk (Kd.R_below (by (with_reducible repeat (first | apply Kd.R_alloc | apply Kd.R_drewN | apply Kd.R_drew)); exact HO398.out) hb); have n3_ := Aside0.mk (below_step (by repeat (first | (with_reducible first | exact HB.out | apply below_alloc | apply pw_below_drewN | apply below_drew1) | exact HB.out)) hb); clear HO_9; clear HO_10; clear HO398; clear HB; have HO_9 := n0_; have HO_10 := n1_; have HO398 := n2_; have HB := n3_; clear n0_ n1_ n2_ n3_; (try clear hb); (try clear hb2); (try clear hk); (try clear hi)) | (go_at_call 33; (with_reducible refine (note_Number.calls k3 t392 t401 _ A32.out).mono ?_); rintro e w' ⟨rfl, ⟨nd, rfl⟩⟩) | (go_at_call 29; (with_reducible refine (weirkeeperlaw09_awake.calls k3 _ A35.out).mono ?_); rintro e w44 ⟨rfl, hb⟩; have n0_ := Aside0.mk (Kd.R_below (by (with_reducible repeat (first | apply Kd.R_alloc | apply Kd.R_drewN | apply Kd.R_drew)); exact HO_9.out) hb); have n1_ := Aside0.mk (Kd.R_below (by (with_reducible repeat (first | apply Kd.R_alloc | apply Kd.R_drewN | apply Kd.R_drew)); exact HO_10.out) hb); have n2_ := Aside0.mk (Kd.R_below (by (with_reducible repeat (first | apply Kd.R_alloc | apply Kd.R_drewN | apply Kd.R_drew)); exact HO398.out) hb); have n3_ := Aside0.mk (below_step (by repeat (first | (with_reducible first | exact HB.out | apply below_alloc | apply pw_below_drewN | apply below_drew1) | exact HB.out)) hb); clear HO_9; clear HO_10; clear HO398; clear HB; have HO_9 := n0_; have HO_10 := n1_; have HO398 := n2_; have HB := n3_; clear n0_ n1_ n2_ n3_; (try clear hb); (try clear hb2); (try clear hk); (try clear hi)))
                              go_ret
                              exact ⟨by first | rfl | (simp only [h9_.out]; done) | (have h8_ := h9_.out; simp [h8_]; done) | (simp [errW_none, errW_some] <;> rfl) | (simp [*, errW_none, errW_some] <;> rfl), by repeat (first | (with_reducible first | exact HB.out | apply below_alloc | apply pw_below_drewN | apply below_drew1) | exact HB.out)⟩
                          · rw [if_neg c33] at H
                            have c33b0 : (t401 == x11_3) = false := beq_eq_false_iff_ne.mpr c33
                            have c33b1 : (t401 != x11_3) = true := bne_iff_ne.mpr c33
                            exact absurd H (by simp)
                        · rw [if_neg c31] at H
                          have c31b0 : ((t392.size : Int) == 8) = false := beq_eq_false_iff_ne.mpr c31
                          have c31b1 : ((t392.size : Int) != 8) = true := bne_iff_ne.mpr c31
                          exact absurd H (by simp)
                      · rw [if_neg c30] at H
                        have c30b0 : (t392.toList == t394.toList) = false := beq_eq_false_iff_ne.mpr c30
                        have c30b1 : (t392.toList != t394.toList) = true := bne_iff_ne.mpr c30
                        exact absurd H (by simp)
                    · replace c29 := Bool.eq_false_iff.mpr c29
                      subst c29
                      have H1 : (some false) = some true := by rw [if_neg (show ¬ (false = true) by decide)] at H; exact H
                      clear H
                      have H := H1
                      clear H1
                      exact absurd H (by simp)
                  · replace c28 := Bool.eq_false_iff.mpr c28
                    subst c28
                    have H1 : (some false) = some true := by rw [if_neg (show ¬ (false = true) by decide)] at H; exact H
                    clear H
                    have H := H1
                    clear H1
                    exact absurd H (by simp)


end Go.Proofs.Ytgccimhdbphenaa.F
