/- Contracts of Go functions of the seat Ytpkapldkmleppaa: what a call comes to; no condition but those that each theorem names. -/
import Derived.Test.YtpkapldkmleppaaFPre
import Derived.Test.YtpkapldkmleppaaFjournalx0
import Derived.Test.YtpkapldkmleppaaFjournalx1
import Derived.Test.YtpkapldkmleppaaFlaw08awake
import Derived.Test.YtpkapldkmleppaaFref01
import Derived.Test.YtpkapldkmleppaaFref08x0
import Derived.Test.YtpkapldkmleppaaFref08x1
namespace Go.Proofs.Ytpkapldkmleppaa.F
open Go.RowKit Go.Proofs.YtpkapldkmleppaaW.PrintWords Go.Proofs.YtpkapldkmleppaaW.PrintLast Go.Proofs.YtpkapldkmleppaaW.PrintMore
attribute [local go_sem] max2_int min2_int max_two min_two max_three min_three max_four min_four   -- for this text's walks alone
set_option linter.unusedVariables false
set_option linter.unusedSimpArgs false

attribute [local go_sem] fieldD25_0 fieldD25_1
/-! ### weirkeeperlaw08_JournalParses: function 8 -/
mutual
def weirkeeperlaw08_JournalParses.j0 : Nat → Int → Int → ByteArray → List ByteArray → Bool → Option (Bool)
  | 0, _, _, _, _, _ => none
  | k + 1, x0, x1, x2, x3, x26 => if x26 = true then ((weirkeeperlaw08_awake.f k).bind fun t357 => (some t357)) else (weirkeeperlaw08_JournalParses.l0 k x0 x1 x2 x3 x3 (x3.length : Int) 0)
def weirkeeperlaw08_JournalParses.l0 : Nat → Int → Int → ByteArray → List ByteArray → List ByteArray → Int → Int → Option (Bool)
  | 0, _, _, _, _, _, _, _ => none
  | k + 1, x0, x1, x2, x3, x28, x29, x30 => if x30 < x29 then (if 0 ≤ x30 then (if x30 < (x28.length : Int) then (if ((rdOf ByteArray.empty x28 x30).size : Int) > 40 then ((weirkeeperlaw08_awake.f k).bind fun t359 => (some t359)) else (weirkeeperlaw08_JournalParses.l0 k x0 x1 x2 x3 x28 x29 (wrap64 (x30 + 1)))) else (none)) else (none)) else ((journal_Pieces.f k x0 x1 x2).bind fun bt360 => ((weirkeeperref08_Pieces.f k x0 x1 x2).bind fun bt364 => ((journal_Parse.f k x0 x3).bind fun bt368 => ((weirkeeperref08_Parse.f k x0 x3).bind fun bt372 => ((weirkeeperref01_Same.f k bt360.1 bt364.1).bind fun t376 => (if t376 = true then (if bt360.2 = bt364.2 then ((weirkeeperref01_Same.f k bt368.1 bt372.1).bind fun t377 => (if t377 = true then (if bt368.2 = bt372.2 then ((journal_Need.f (x2.size : Int)).bind fun t378 => ((weirkeeperref08_Need.f k (x2.size : Int)).bind fun t379 => (if t378 = t379 then ((weirkeeperlaw08_awake.f k).bind fun t380 => (some t380)) else (some false)))) else (some false)) else (some false))) else (some false)) else (some false)))))))
end
def weirkeeperlaw08_JournalParses.f (k : Nat) (a0 : Int) (a1 : Int) (a2 : ByteArray) (l3 : List ByteArray) : Option (Bool) := if (a2.size : Int) > 1100 then (weirkeeperlaw08_JournalParses.j0 k a0 a1 a2 l3 true) else (weirkeeperlaw08_JournalParses.j0 k a0 a1 a2 l3 (decide ((l3.length : Int) > 40)))
theorem weirkeeperlaw08_JournalParses.mono_l : ∀ k, (∀ y0 y1 y2 y3 y4, LeO (weirkeeperlaw08_JournalParses.j0 k y0 y1 y2 y3 y4) (weirkeeperlaw08_JournalParses.j0 (k + 1) y0 y1 y2 y3 y4)) ∧ (∀ y0 y1 y2 y3 y4 y5 y6, LeO (weirkeeperlaw08_JournalParses.l0 k y0 y1 y2 y3 y4 y5 y6) (weirkeeperlaw08_JournalParses.l0 (k + 1) y0 y1 y2 y3 y4 y5 y6))
  | 0 => ⟨fun _ _ _ _ _ r h => by simp [weirkeeperlaw08_JournalParses.j0] at h, fun _ _ _ _ _ _ _ r h => by simp [weirkeeperlaw08_JournalParses.l0] at h⟩
  | k + 1 => by
    obtain ⟨ih0, ih1⟩ := weirkeeperlaw08_JournalParses.mono_l k
    refine ⟨?_, ?_⟩
    · intro y0 y1 y2 y3 y4
      unfold weirkeeperlaw08_JournalParses.j0
      repeat' first
      | (with_reducible exact ih0 _ _ _ _ _)
      | (with_reducible exact ih1 _ _ _ _ _ _ _)
      | (with_reducible exact journal_Parse.mono _ _ _)
      | (with_reducible exact journal_Pieces.mono _ _ _ _)
      | (with_reducible exact weirkeeperlaw08_awake.mono _)
      | (with_reducible exact weirkeeperref01_Same.mono _ _ _)
      | (with_reducible exact weirkeeperref08_Need.mono _ _)
      | (with_reducible exact weirkeeperref08_Parse.mono _ _ _)
      | (with_reducible exact weirkeeperref08_Pieces.mono _ _ _ _)
      | (with_reducible exact LeO.refl _)
      | (with_reducible exact LeO.none _)
      | (with_reducible refine LeO.ite ?_ ?_)
      | (with_reducible refine LeO.bind ?_ (fun _ => ?_))
      | exact ih0 _ _ _ _ _
      | exact ih1 _ _ _ _ _ _ _
      | exact journal_Parse.mono _ _ _
      | exact journal_Pieces.mono _ _ _ _
      | exact weirkeeperlaw08_awake.mono _
      | exact weirkeeperref01_Same.mono _ _ _
      | exact weirkeeperref08_Need.mono _ _
      | exact weirkeeperref08_Parse.mono _ _ _
      | exact weirkeeperref08_Pieces.mono _ _ _ _
      | exact LeO.none _
      | refine LeO.ite ?_ ?_
      | refine LeO.bind ?_ (fun _ => ?_)
    · intro y0 y1 y2 y3 y4 y5 y6
      unfold weirkeeperlaw08_JournalParses.l0
      repeat' first
      | (with_reducible exact ih0 _ _ _ _ _)
      | (with_reducible exact ih1 _ _ _ _ _ _ _)
      | (with_reducible exact journal_Parse.mono _ _ _)
      | (with_reducible exact journal_Pieces.mono _ _ _ _)
      | (with_reducible exact weirkeeperlaw08_awake.mono _)
      | (with_reducible exact weirkeeperref01_Same.mono _ _ _)
      | (with_reducible exact weirkeeperref08_Need.mono _ _)
      | (with_reducible exact weirkeeperref08_Parse.mono _ _ _)
      | (with_reducible exact weirkeeperref08_Pieces.mono _ _ _ _)
      | (with_reducible exact LeO.refl _)
      | (with_reducible exact LeO.none _)
      | (with_reducible refine LeO.ite ?_ ?_)
      | (with_reducible refine LeO.bind ?_ (fun _ => ?_))
      | exact ih0 _ _ _ _ _
      | exact ih1 _ _ _ _ _ _ _
      | exact journal_Parse.mono _ _ _
      | exact journal_Pieces.mono _ _ _ _
      | exact weirkeeperlaw08_awake.mono _
      | exact weirkeeperref01_Same.mono _ _ _
      | exact weirkeeperref08_Need.mono _ _
      | exact weirkeeperref08_Parse.mono _ _ _
      | exact weirkeeperref08_Pieces.mono _ _ _ _
      | exact LeO.none _
      | refine LeO.ite ?_ ?_
      | refine LeO.bind ?_ (fun _ => ?_)
theorem weirkeeperlaw08_JournalParses.mono : ∀ a0 a1 a2 a3 k, LeO (weirkeeperlaw08_JournalParses.f k a0 a1 a2 a3) (weirkeeperlaw08_JournalParses.f (k + 1) a0 a1 a2 a3) := by
  intro a0 a1 a2 a3 k
  obtain ⟨ih0, ih1⟩ := weirkeeperlaw08_JournalParses.mono_l k
  unfold weirkeeperlaw08_JournalParses.f
  repeat' first
      | (with_reducible exact ih0 _ _ _ _ _)
      | (with_reducible exact ih1 _ _ _ _ _ _ _)
      | (with_reducible exact journal_Parse.mono _ _ _)
      | (with_reducible exact journal_Pieces.mono _ _ _ _)
      | (with_reducible exact weirkeeperlaw08_awake.mono _)
      | (with_reducible exact weirkeeperref01_Same.mono _ _ _)
      | (with_reducible exact weirkeeperref08_Need.mono _ _)
      | (with_reducible exact weirkeeperref08_Parse.mono _ _ _)
      | (with_reducible exact weirkeeperref08_Pieces.mono _ _ _ _)
      | (with_reducible exact LeO.refl _)
      | (with_reducible exact LeO.none _)
      | (with_reducible refine LeO.ite ?_ ?_)
      | (with_reducible refine LeO.bind ?_ (fun _ => ?_))
      | exact ih0 _ _ _ _ _
      | exact ih1 _ _ _ _ _ _ _
      | exact journal_Parse.mono _ _ _
      | exact journal_Pieces.mono _ _ _ _
      | exact weirkeeperlaw08_awake.mono _
      | exact weirkeeperref01_Same.mono _ _ _
      | exact weirkeeperref08_Need.mono _ _
      | exact weirkeeperref08_Parse.mono _ _ _
      | exact weirkeeperref08_Pieces.mono _ _ _ _
      | exact LeO.none _
      | refine LeO.ite ?_ ?_
      | refine LeO.bind ?_ (fun _ => ?_)
set_option maxHeartbeats 8000000 in
set_option maxRecDepth 100000 in
theorem weirkeeperlaw08_JournalParses.calls (k : Nat) (a0 : Int) (a1 : Int) (a2 : ByteArray) (A3 : Option Addr) (c3 : Nat) (l3 : List ByteArray) (w : World) (hr3 : Kd.C Kd.string w A3 l3.length l3) (hc3 : l3.length ≤ c3) (h : weirkeeperlaw08_JournalParses.f k a0 a1 a2 l3 = some true) :
    Calls Try.prog 8 #[.int .i64 a0, .int .i64 a1, .string a2, .slice A3 l3.length c3] w fun e w' => e = .returned (.bool true) ∧ Below w.heap.size w w' := by
  have HR3 := Aside0.mk hr3
  have HC3 := Aside0.mk hc3
  clear hr3 hc3
  have HB := Aside0.mk (Below.refl w.heap.size w)
  have H : (if (a2.size : Int) > 1100 then (weirkeeperlaw08_JournalParses.j0 k a0 a1 a2 l3 true) else (weirkeeperlaw08_JournalParses.j0 k a0 a1 a2 l3 (decide ((l3.length : Int) > 40)))) = some true := h
  clear h
  have HC5 := Aside0.mk H
  clear H
  go_enter Try.func8, Try.ntmps8
  go_upto_region 1 with (fail)
  go_cut [26] (fun v26 wc => ∃ (kq : Nat) (x26_4 : Bool), v26 = .bool x26_4 ∧ Aside0 (weirkeeperlaw08_JournalParses.j0 kq a0 a1 a2 l3 x26_4 = some true) ∧ Aside0 (kq ≤ k) ∧ Aside0 (Below w.heap.size w wc))
  case first =>
    have H := HC5.out
    clear HC5
    by_cases c6 : (a2.size : Int) > 1100
    · rw [if_pos c6] at H
      have c6b0 : decide (1100 < (a2.size : Int)) = true := decide_eq_true c6
      have c6b1 : decide (1100 < a2.size) = true := decide_eq_true (by omega)
      clear c6
      (first | rw [c6b0] | (simp only [i64_w, i32_w]; rw [c6b0]) | skip)
      have H' := Aside0.mk H
      clear H
      go_wp2
      go_meet
      case rel => exact ⟨_, (true), (by first | rfl | (simp; done) | (simp [*]; done)), H', ⟨by first | omega | exact Nat.le_refl _⟩, ⟨by repeat (first | (with_reducible first | exact HB.out | apply below_alloc | apply pw_below_drewN | apply below_drew1) | exact HB.out)⟩⟩
    · rw [if_neg c6] at H
      have c6b0 : decide (1100 < (a2.size : Int)) = false := decide_eq_false c6
      have c6b1 : decide (1100 < a2.size) = false := decide_eq_false (by omega)
      clear c6
      (first | rw [c6b0] | (simp only [i64_w, i32_w]; rw [c6b0]) | skip)
      have H' := Aside0.mk H
      clear H
      go_wp2
      go_meet
      case rel => exact ⟨_, (decide ((l3.length : Int) > 40)), (by first | rfl | (simp; done) | (simp [*]; done)), H', ⟨by first | omega | exact Nat.le_refl _⟩, ⟨by repeat (first | (with_reducible first | exact HB.out | apply below_alloc | apply pw_below_drewN | apply below_drew1) | exact HB.out)⟩⟩
  case rest =>
    clear HC5
    try clear p2
    try clear c3
    try clear c6
    try clear c6b0
    try clear c6b1
    obtain ⟨kq, x26_4, rfl, HA, HJ4, HB⟩ := hcut
    cases kq with
    | zero => exact absurd HA.out (by simp [weirkeeperlaw08_JournalParses.j0])
    | succ kj4 =>
      have H := HA.out
      clear HA
      simp only [weirkeeperlaw08_JournalParses.j0] at H
      by_cases c7 : x26_4 = true
      · subst c7
        have H1 : ((weirkeeperlaw08_awake.f kj4).bind fun t357 => (some t357)) = some true := by rw [if_pos rfl] at H; exact H
        clear H
        have H := H1
        clear H1
        replace H := Option.bind_eq_some_iff.mp H
        obtain ⟨t357, A80, H⟩ := H
        replace H : (some t357) = some true := H
        have A8 := Aside0.mk A80
        clear A80
        (have H9_ := Option.some.inj H; first | subst H9_ | (have h9_ := Aside0.mk H9_; clear H9_))
        go_wp2_with (first | ((with_reducible refine gate_callee (f := 27) rfl ?_); refine goesL_ (some 27) rfl rfl Try.func27 (by kernel_rfl) rfl #[] rfl (by (try simp only [List.map_toArray, List.map_cons, List.map_nil]); first | done | rfl | (simp only [List.length_drop, List.length_take]; rfl)) ?_; (with_reducible refine (weirkeeperlaw08_awake.calls kj4 _ A8.out).mono ?_); rintro e w9 ⟨rfl, hb⟩; refine ⟨_, rfl, ?_⟩; have n0_ := Aside0.mk (below_step (by repeat (first | (with_reducible first | exact HB.out | apply below_alloc | apply pw_below_drewN | apply below_drew1) | exact HB.out)) hb); clear HB; have HB := n0_; clear n0_; (try clear hb); (try clear hb2); (try clear hk); (try clear hi)))
        go_ret
        exact ⟨by first | rfl | (simp only [h9_.out]; done) | (have h8_ := h9_.out; simp [h8_]; done) | (simp [errW_none, errW_some] <;> rfl) | (simp [*, errW_none, errW_some] <;> rfl), by repeat (first | (with_reducible first | exact HB.out | apply below_alloc | apply pw_below_drewN | apply below_drew1) | exact HB.out)⟩
      · replace c7 := Bool.eq_false_iff.mpr c7
        subst c7
        have H1 : (weirkeeperlaw08_JournalParses.l0 kj4 a0 a1 a2 l3 l3 (l3.length : Int) 0) = some true := by rw [if_neg (show ¬ (false = true) by decide)] at H; exact H
        clear H
        have H := H1
        clear H1
        have H' := Aside0.mk H
        clear H
        go_wp2
        go_loopg [30] kj4 (fun kq v30 w' => ∃ (x30_2 : Int), v30 = .int .i64 x30_2 ∧ Aside0 (weirkeeperlaw08_JournalParses.l0 kq a0 a1 a2 l3 l3 (l3.length : Int) x30_2 = some true) ∧ Aside0 (kq ≤ kj4) ∧ Aside0 (Below w.heap.size w w'))
        case atStart => exact ⟨(0), (by first | rfl | (simp; done) | (simp [*]; done)), H', ⟨Nat.le_refl _⟩, ⟨by repeat (first | (with_reducible first | exact HB.out | apply below_alloc | apply pw_below_drewN | apply below_drew1) | exact HB.out)⟩⟩
        case round =>
          clear H'
          try clear c2
          try clear p2
          try clear c3
          try clear c6
          try clear c6b0
          try clear c6b1
          try clear c7
          try clear c8
          try clear p2
          obtain ⟨x30_2, rfl, HA, HK2, HB⟩ := hrel
          cases gk with
          | zero => exact absurd HA.out (by simp [weirkeeperlaw08_JournalParses.l0])
          | succ k2 =>
            have H := HA.out
            clear HA
            simp only [weirkeeperlaw08_JournalParses.l0] at H
            by_cases c10 : x30_2 < (l3.length : Int)
            · rw [if_pos c10] at H
              have c10b0 : decide (x30_2 < (l3.length : Int)) = true := decide_eq_true c10
              clear c10
              by_cases c11 : 0 ≤ x30_2
              · rw [if_pos c11] at H
                have c11b0 : decide (0 ≤ x30_2) = true := decide_eq_true c11
                clear c11
                by_cases c12 : x30_2 < (l3.length : Int)
                · rw [if_pos c12] at H
                  have c12b0 : decide (x30_2 < (l3.length : Int)) = true := decide_eq_true c12
                  clear c12
                  by_cases c13 : ((rdOf ByteArray.empty l3 x30_2).size : Int) > 40
                  · rw [if_pos c13] at H
                    have c13b0 : decide (40 < ((rdOf ByteArray.empty l3 x30_2).size : Int)) = true := decide_eq_true c13
                    have c13b1 : decide (40 < (rdOf ByteArray.empty l3 x30_2).size) = true := decide_eq_true (by omega)
                    clear c13
                    replace H := Option.bind_eq_some_iff.mp H
                    obtain ⟨t359, A140, H⟩ := H
                    replace H : (some t359) = some true := H
                    have A14 := Aside0.mk A140
                    clear A140
                    (have H9_ := Option.some.inj H; first | subst H9_ | (have h9_ := Aside0.mk H9_; clear H9_))
                    have p358 : 0 ≤ (x30_2 : Int) := of_decide_eq_true (by first | (with_reducible assumption) | assumption)
                    have q358 : x30_2 < (l3.length : Int) := of_decide_eq_true (by first | (with_reducible assumption) | assumption)
                    obtain ⟨ad358, e358, hx358_0⟩ := Kd.at_string HR3.out x30_2 p358 q358
                    cases e358
                    replace hx358_0 := (HB.out.cell (World.block_lt_of_cell? w _ hx358_0)).trans hx358_0
                    replace p358 := eq_true p358
                    replace q358 := eq_true q358
                    go_wp2_with (first | ((with_reducible refine gate_callee (f := 27) rfl ?_); refine goesL_ (some 37) rfl rfl Try.func27 (by kernel_rfl) rfl #[] rfl (by (try simp only [List.map_toArray, List.map_cons, List.map_nil]); first | done | rfl | (simp only [List.length_drop, List.length_take]; rfl)) ?_; (with_reducible refine (weirkeeperlaw08_awake.calls k2 _ A14.out).mono ?_); rintro e w15 ⟨rfl, hb⟩; refine ⟨_, rfl, ?_⟩; have n0_ := Aside0.mk (below_step (by repeat (first | (with_reducible first | exact HB.out | apply below_alloc | apply pw_below_drewN | apply below_drew1) | exact HB.out)) hb); clear HB; have HB := n0_; clear n0_; (try clear hb); (try clear hb2); (try clear hk); (try clear hi)))
                    go_ret
                    exact ⟨by first | rfl | (simp only [h9_.out]; done) | (have h8_ := h9_.out; simp [h8_]; done) | (simp [errW_none, errW_some] <;> rfl) | (simp [*, errW_none, errW_some] <;> rfl), by repeat (first | (with_reducible first | exact HB.out | apply below_alloc | apply pw_below_drewN | apply below_drew1) | exact HB.out)⟩
                  · rw [if_neg c13] at H
                    have c13b0 : decide (40 < ((rdOf ByteArray.empty l3 x30_2).size : Int)) = false := decide_eq_false c13
                    have c13b1 : decide (40 < (rdOf ByteArray.empty l3 x30_2).size) = false := decide_eq_false (by omega)
                    clear c13
                    have H' := Aside0.mk H
                    clear H
                    have p358 : 0 ≤ (x30_2 : Int) := of_decide_eq_true (by first | (with_reducible assumption) | assumption)
                    have q358 : x30_2 < (l3.length : Int) := of_decide_eq_true (by first | (with_reducible assumption) | assumption)
                    obtain ⟨ad358, e358, hx358_0⟩ := Kd.at_string HR3.out x30_2 p358 q358
                    cases e358
                    replace hx358_0 := (HB.out.cell (World.block_lt_of_cell? w _ hx358_0)).trans hx358_0
                    replace p358 := eq_true p358
                    replace q358 := eq_true q358
                    go_wp2
                    go_roundg k2
                    case measure => have := HJ4.out; have := HK2.out; omega
                    case rel => exact ⟨(wrap64 (x30_2 + 1)), (by first | rfl | (simp; done) | (simp [*]; done)), H', ⟨by have := HJ4.out; have := HK2.out; omega⟩, ⟨by repeat (first | (with_reducible first | exact HB.out | apply below_alloc | apply pw_below_drewN | apply below_drew1) | exact HB.out)⟩⟩
                · rw [if_neg c12] at H
                  exact absurd H (by simp)
              · rw [if_neg c11] at H
                exact absurd H (by simp)
            · rw [if_neg c10] at H
              have c10b0 : decide (x30_2 < (l3.length : Int)) = false := decide_eq_false c10
              clear c10
              replace H := Option.bind_eq_some_iff.mp H
              obtain ⟨⟨t360, t361⟩, A160, H⟩ := H
              replace H : ((weirkeeperref08_Pieces.f k2 a0 a1 a2).bind fun bt364 => ((journal_Parse.f k2 a0 l3).bind fun bt368 => ((weirkeeperref08_Parse.f k2 a0 l3).bind fun bt372 => ((weirkeeperref01_Same.f k2 t360 bt364.1).bind fun t376 => (if t376 = true then (if t361 = bt364.2 then ((weirkeeperref01_Same.f k2 bt368.1 bt372.1).bind fun t377 => (if t377 = true then (if bt368.2 = bt372.2 then ((journal_Need.f (a2.size : Int)).bind fun t378 => ((weirkeeperref08_Need.f k2 (a2.size : Int)).bind fun t379 => (if t378 = t379 then ((weirkeeperlaw08_awake.f k2).bind fun t380 => (some t380)) else (some false)))) else (some false)) else (some false))) else (some false)) else (some false)))))) = some true := H
              have A16 := Aside0.mk A160
              clear A160
              replace H := Option.bind_eq_some_iff.mp H
              obtain ⟨⟨t364, t365⟩, A170, H⟩ := H
              replace H : ((journal_Parse.f k2 a0 l3).bind fun bt368 => ((weirkeeperref08_Parse.f k2 a0 l3).bind fun bt372 => ((weirkeeperref01_Same.f k2 t360 t364).bind fun t376 => (if t376 = true then (if t361 = t365 then ((weirkeeperref01_Same.f k2 bt368.1 bt372.1).bind fun t377 => (if t377 = true then (if bt368.2 = bt372.2 then ((journal_Need.f (a2.size : Int)).bind fun t378 => ((weirkeeperref08_Need.f k2 (a2.size : Int)).bind fun t379 => (if t378 = t379 then ((weirkeeperlaw08_awake.f k2).bind fun t380 => (some t380)) else (some false)))) else (some false)) else (some false))) else (some false)) else (some false))))) = some true := H
              have A17 := Aside0.mk A170
              clear A170
              replace H := Option.bind_eq_some_iff.mp H
              obtain ⟨⟨t368, t369⟩, A180, H⟩ := H
              replace H : ((weirkeeperref08_Parse.f k2 a0 l3).bind fun bt372 => ((weirkeeperref01_Same.f k2 t360 t364).bind fun t376 => (if t376 = true then (if t361 = t365 then ((weirkeeperref01_Same.f k2 t368 bt372.1).bind fun t377 => (if t377 = true then (if t369 = bt372.2 then ((journal_Need.f (a2.size : Int)).bind fun t378 => ((weirkeeperref08_Need.f k2 (a2.size : Int)).bind fun t379 => (if t378 = t379 then ((weirkeeperlaw08_awake.f k2).bind fun t380 => (some t380)) else (some false)))) else (some false)) else (some false))) else (some false)) else (some false)))) = some true := H
              have A18 := Aside0.mk A180
              clear A180
              replace H := Option.bind_eq_some_iff.mp H
              obtain ⟨⟨t372, t373⟩, A190, H⟩ := H
              replace H : ((weirkeeperref01_Same.f k2 t360 t364).bind fun t376 => (if t376 = true then (if t361 = t365 then ((weirkeeperref01_Same.f k2 t368 t372).bind fun t377 => (if t377 = true then (if t369 = t373 then ((journal_Need.f (a2.size : Int)).bind fun t378 => ((weirkeeperref08_Need.f k2 (a2.size : Int)).bind fun t379 => (if t378 = t379 then ((weirkeeperlaw08_awake.f k2).bind fun t380 => (some t380)) else (some false)))) else (some false)) else (some false))) else (some false)) else (some false))) = some true := H
              have A19 := Aside0.mk A190
              clear A190
              replace H := Option.bind_eq_some_iff.mp H
              obtain ⟨t376, A200, H⟩ := H
              replace H : (if t376 = true then (if t361 = t365 then ((weirkeeperref01_Same.f k2 t368 t372).bind fun t377 => (if t377 = true then (if t369 = t373 then ((journal_Need.f (a2.size : Int)).bind fun t378 => ((weirkeeperref08_Need.f k2 (a2.size : Int)).bind fun t379 => (if t378 = t379 then ((weirkeeperlaw08_awake.f k2).bind fun t380 => (some t380)) else (some false)))) else (some false)) else (some false))) else (some false)) else (some false)) = some true := H
              have A20 := Aside0.mk A200
              clear A200
              by_cases c21 : t376 = true
              · subst c21
                have H1 : (if t361 = t365 then ((weirkeeperref01_Same.f k2 t368 t372).bind fun t377 => (if t377 = true then (if t369 = t373 then ((journal_Need.f (a2.size : Int)).bind fun t378 => ((weirkeeperref08_Need.f k2 (a2.size : Int)).bind fun t379 => (if t378 = t379 then ((weirkeeperlaw08_awake.f k2).bind fun t380 => (some t380)) else (some false)))) else (some false)) else (some false))) else (some false)) = some true := by rw [if_pos rfl] at H; exact H
                clear H
                have H := H1
                clear H1
                by_cases c22 : t361 = t365
                · rw [if_pos c22] at H
                  have c22b0 : (t361 == t365) = true := beq_iff_eq.mpr c22
                  have c22b1 : (t361 != t365) = false := bne_eq_false_iff_eq.mpr c22
                  clear c22
                  replace H := Option.bind_eq_some_iff.mp H
                  obtain ⟨t377, A230, H⟩ := H
                  replace H : (if t377 = true then (if t369 = t373 then ((journal_Need.f (a2.size : Int)).bind fun t378 => ((weirkeeperref08_Need.f k2 (a2.size : Int)).bind fun t379 => (if t378 = t379 then ((weirkeeperlaw08_awake.f k2).bind fun t380 => (some t380)) else (some false)))) else (some false)) else (some false)) = some true := H
                  have A23 := Aside0.mk A230
                  clear A230
                  by_cases c24 : t377 = true
                  · subst c24
                    have H1 : (if t369 = t373 then ((journal_Need.f (a2.size : Int)).bind fun t378 => ((weirkeeperref08_Need.f k2 (a2.size : Int)).bind fun t379 => (if t378 = t379 then ((weirkeeperlaw08_awake.f k2).bind fun t380 => (some t380)) else (some false)))) else (some false)) = some true := by rw [if_pos rfl] at H; exact H
                    clear H
                    have H := H1
                    clear H1
                    by_cases c25 : t369 = t373
                    · rw [if_pos c25] at H
                      have c25b0 : (t369 == t373) = true := beq_iff_eq.mpr c25
                      have c25b1 : (t369 != t373) = false := bne_eq_false_iff_eq.mpr c25
                      clear c25
                      replace H := Option.bind_eq_some_iff.mp H
                      obtain ⟨t378, A260, H⟩ := H
                      replace H : ((weirkeeperref08_Need.f k2 (a2.size : Int)).bind fun t379 => (if t378 = t379 then ((weirkeeperlaw08_awake.f k2).bind fun t380 => (some t380)) else (some false))) = some true := H
                      have A26 := Aside0.mk A260
                      clear A260
                      replace H := Option.bind_eq_some_iff.mp H
                      obtain ⟨t379, A270, H⟩ := H
                      replace H : (if t378 = t379 then ((weirkeeperlaw08_awake.f k2).bind fun t380 => (some t380)) else (some false)) = some true := H
                      have A27 := Aside0.mk A270
                      clear A270
                      by_cases c28 : t378 = t379
                      · rw [if_pos c28] at H
                        have c28b0 : (t378 == t379) = true := beq_iff_eq.mpr c28
                        have c28b1 : (t378 != t379) = false := bne_eq_false_iff_eq.mpr c28
                        clear c28
                        replace H := Option.bind_eq_some_iff.mp H
                        obtain ⟨t380, A290, H⟩ := H
                        replace H : (some t380) = some true := H
                        have A29 := Aside0.mk A290
                        clear A290
                        (have H9_ := Option.some.inj H; first | subst H9_ | (have h9_ := Aside0.mk H9_; clear H9_))
                        go_wp2_with (first | ((with_reducible refine gate_callee (f := 28) rfl ?_); refine goesL_ (some 43) rfl rfl Try.func28 (by kernel_rfl) rfl #[.int .i64 a0, .int .i64 a1, .string a2] rfl (by (try simp only [List.map_toArray, List.map_cons, List.map_nil]); first | done | rfl | (simp only [List.length_drop, List.length_take]; rfl)) ?_; (with_reducible refine (journal_Pieces.calls k2 a0 a1 a2 t360 t361 _ A16.out).mono ?_); rintro e w30 ⟨v362, rfl, ho0, hb⟩; refine ⟨_, rfl, ?_⟩; have n0_ := Aside0.mk (Kd.R_lower ho0 (below_size (by repeat (first | (with_reducible first | exact HB.out | apply below_alloc | apply pw_below_drewN | apply below_drew1) | exact HB.out)))); have n1_ := Aside0.mk (below_step (by repeat (first | (with_reducible first | exact HB.out | apply below_alloc | apply pw_below_drewN | apply below_drew1) | exact HB.out)) hb); clear HB; have HO363 := n0_; have HB := n1_; clear n0_ n1_; (try clear hb); (try clear hb2); (try clear hk); (try clear hi); (try clear ho0)) | ((with_reducible refine gate_callee (f := 29) rfl ?_); refine goesL_ (some 50) rfl rfl Try.func29 (by kernel_rfl) rfl #[.int .i64 a0, .int .i64 a1, .string a2] rfl (by (try simp only [List.map_toArray, List.map_cons, List.map_nil]); first | done | rfl | (simp only [List.length_drop, List.length_take]; rfl)) ?_; (with_reducible refine (weirkeeperref08_Pieces.calls k2 a0 a1 a2 t364 t365 _ A17.out).mono ?_); rintro e w31 ⟨v366, rfl, ho0, hb⟩; refine ⟨_, rfl, ?_⟩; have n0_ := Aside0.mk (Kd.R_elder' (by (with_reducible repeat (first | apply Kd.R_alloc | apply Kd.R_drewN | apply Kd.R_drew)); exact HO363.out) (Kd.R_base ho0) hb); have n1_ := Aside0.mk (Kd.R_lower (Kd.R_new' ho0 (Kd.R_lt (by (with_reducible repeat (first | apply Kd.R_alloc | apply Kd.R_drewN | apply Kd.R_drew)); exact HO363.out))) (below_size (by repeat (first | (with_reducible first | exact HB.out | apply below_alloc | apply pw_below_drewN | apply below_drew1) | exact HB.out)))); have n2_ := Aside0.mk (below_step (by repeat (first | (with_reducible first | exact HB.out | apply below_alloc | apply pw_below_drewN | apply below_drew1) | exact HB.out)) hb); clear HO363; clear HB; have HO363 := n0_; have HO367 := n1_; have HB := n2_; clear n0_ n1_ n2_; (try clear hb); (try clear hb2); (try clear hk); (try clear hi); (try clear ho0)) | ((with_reducible refine gate_callee (f := 30) rfl ?_); refine goesL_ (some 56) rfl rfl Try.func30 (by kernel_rfl) rfl #[.int .i64 a0, .slice A3 l3.length c3] rfl (by (try simp only [List.map_toArray, List.map_cons, List.map_nil]); first | done | rfl | (simp only [List.length_drop, List.length_take]; rfl)) ?_; (with_reducible refine (journal_Parse.calls k2 a0 _ _ l3 t368 t369 _ ?side1 ?side2 A18.out).mono ?_); (case side1 => repeat (first | exact (Kd.C_below HR3.out HB.out) | (with_reducible refine Kd.C_alloc ?_ _) | (with_reducible refine Kd.C_drewN ?_ _) | (with_reducible refine Kd.C_drew ?_))); (case side2 => exact HC3.out); rintro e w32 ⟨v370, rfl, ho0, hb⟩; refine ⟨_, rfl, ?_⟩; have n0_ := Aside0.mk (Kd.R_elder' (by (with_reducible repeat (first | apply Kd.R_alloc | apply Kd.R_drewN | apply Kd.R_drew)); exact HO363.out) (Kd.R_base ho0) hb); have n1_ := Aside0.mk (Kd.R_elder' (by (with_reducible repeat (first | apply Kd.R_alloc | apply Kd.R_drewN | apply Kd.R_drew)); exact HO367.out) (Kd.R_base ho0) hb); have n2_ := Aside0.mk (Kd.R_lower (Kd.R_new' (Kd.R_new' ho0 (Kd.R_lt (by (with_reducible repeat (first | apply Kd.R_alloc | apply Kd.R_drewN | apply Kd.R_drew)); exact HO363.out))) (Kd.R_lt (by (with_reducible repeat (first | apply Kd.R_alloc | apply Kd.R_drewN | apply Kd.R_drew)); exact HO367.out))) (below_size (by repeat (first | (with_reducible first | exact HB.out | apply below_alloc | apply pw_below_drewN | apply below_drew1) | exact HB.out)))); have n3_ := Aside0.mk (below_step (by repeat (first | (with_reducible first | exact HB.out | apply below_alloc | apply pw_below_drewN | apply below_drew1) | exact HB.out)) hb); clear HO363; clear HO367; clear HB; have HO363 := n0_; have HO367 := n1_; have HO371 := n2_; have HB := n3_; clear n0_ n1_ n2_ n3_; (try clear hb); (try clear hb2); (try clear hk); (try clear hi); (try clear ho0)) | ((with_reducible refine gate_callee (f := 31) rfl ?_); refine goesL_ (some 62) rfl rfl Try.func31 (by kernel_rfl) rfl #[.int .i64 a0, .slice A3 l3.length c3] rfl (by (try simp only [List.map_toArray, List.map_cons, List.map_nil]); first | done | rfl | (simp only [List.length_drop, List.length_take]; rfl)) ?_; (with_reducible refine (weirkeeperref08_Parse.calls k2 a0 _ _ l3 t372 t373 _ ?side1 ?side2 A19.out).mono ?_); (case side1 => repeat (first | exact (Kd.C_below HR3.out HB.out) | (with_reducible refine Kd.C_alloc ?_ _) | (with_reducible refine Kd.C_drewN ?_ _) | (with_reducible refine Kd.C_drew ?_))); (case side2 => exact HC3.out); rintro e w33 ⟨v374, rfl, ho0, hb⟩; refine ⟨_, rfl, ?_⟩; have n0_ := Aside0.mk (Kd.R_elder' (by (with_reducible repeat (first | apply Kd.R_alloc | apply Kd.R_drewN | apply Kd.R_drew)); exact HO363.out) (Kd.R_base ho0) hb); have n1_ := Aside0.mk (Kd.R_elder' (by (with_reducible repeat (first | apply Kd.R_alloc | apply Kd.R_drewN | apply Kd.R_drew)); exact HO367.out) (Kd.R_base ho0) hb); have n2_ := Aside0.mk (Kd.R_elder' (by (with_reducible repeat (first | apply Kd.R_alloc | apply Kd.R_drewN | apply Kd.R_drew)); exact HO371.out) (Kd.R_base ho0) hb); have n3_ := Aside0.mk (Kd.R_lower (Kd.R_new' (Kd.R_new' (Kd.R_new' ho0 (Kd.R_lt (by (with_reducible repeat (first | apply Kd.R_alloc | apply Kd.R_drewN | apply Kd.R_drew)); exact HO363.out))) (Kd.R_lt (by (with_reducible repeat (first | apply Kd.R_alloc | apply Kd.R_drewN | apply Kd.R_drew)); exact HO367.out))) (Kd.R_lt (by (with_reducible repeat (first | apply Kd.R_alloc | apply Kd.R_drewN | apply Kd.R_drew)); exact HO371.out))) (below_size (by repeat (first | (with_reducible first | exact HB.out | apply below_alloc | apply pw_below_drewN | apply below_drew1) | exact HB.out)))); have n4_ := Aside0.mk (below_step (by repeat (first | (with_reducible first | exact HB.out | apply below_alloc | apply pw_below_drewN | apply below_drew1) | exact HB.out)) hb); clear HO363; clear HO367; clear HO371; clear HB; have HO363 := n0_; have HO367 := n1_; have HO371 := n2_; have HO375 := n3_; have HB := n4_; clear n0_ n1_ n2_ n3_ n4_; (try clear hb); (try clear hb2); (try clear hk); (try clear hi); (try clear ho0); obtain ⟨Ao34, co34, eo34⟩ := Kd.R_slice HO363.out; subst eo34; obtain ⟨Ao35, co35, eo35⟩ := Kd.R_slice HO367.out; subst eo35) | ((with_reducible refine gate_callee (f := 32) rfl ?_); refine goesL_ (some 67) rfl rfl Try.func32 (by kernel_rfl) rfl #[.slice Ao34 t360.length co34, .slice Ao35 t364.length co35] rfl (by (try simp only [List.map_toArray, List.map_cons, List.map_nil]); first | done | rfl | (simp only [List.length_drop, List.length_take]; rfl)) ?_; (with_reducible refine (weirkeeperref01_Same.calls k2 _ _ t360 _ _ t364 true _ ?side1 ?side2 ?side3 ?side4 A20.out).mono ?_); (case side1 => repeat (first | exact (Kd.R_reads' HO363.out).2.2 | (with_reducible refine Kd.C_alloc ?_ _) | (with_reducible refine Kd.C_drewN ?_ _) | (with_reducible refine Kd.C_drew ?_))); (case side2 => exact (Kd.R_reads' HO363.out).2.1); (case side3 => repeat (first | exact (Kd.R_reads' HO367.out).2.2 | (with_reducible refine Kd.C_alloc ?_ _) | (with_reducible refine Kd.C_drewN ?_ _) | (with_reducible refine Kd.C_drew ?_))); (case side4 => exact (Kd.R_reads' HO367.out).2.1); rintro e w' ⟨rfl, ⟨nd, rfl⟩⟩; refine ⟨_, rfl, ?_⟩; obtain ⟨Ao36, co36, eo36⟩ := Kd.R_slice HO371.out; subst eo36; obtain ⟨Ao37, co37, eo37⟩ := Kd.R_slice HO375.out; subst eo37) | (go_at_call 32; (with_reducible refine (weirkeeperref01_Same.calls k2 _ _ t368 _ _ t372 true _ ?side1 ?side2 ?side3 ?side4 A23.out).mono ?_); (case side1 => repeat (first | exact (Kd.R_reads' HO371.out).2.2 | (with_reducible refine Kd.C_alloc ?_ _) | (with_reducible refine Kd.C_drewN ?_ _) | (with_reducible refine Kd.C_drew ?_))); (case side2 => exact (Kd.R_reads' HO371.out).2.1); (case side3 => repeat (first | exact (Kd.R_reads' HO375.out).2.2 | (with_reducible refine Kd.C_alloc ?_ _) | (with_reducible refine Kd.C_drewN ?_ _) | (with_reducible refine Kd.C_drew ?_))); (case side4 => exact (Kd.R_reads' HO375.out).2.1); rintro e w' ⟨rfl, ⟨nd, rfl⟩⟩) | (go_at_call 33; (with_reducible refine (journal_Need.calls (a2.size : Int) t378 _ A26.out).mono ?_); rintro e w38 ⟨rfl, hb⟩; have n0_ := Aside0.mk (Kd.R_below (by (with_reducible repeat (first | apply Kd.R_alloc | apply Kd.R_drewN | apply Kd.R_drew)); exact HO363.out) hb); have n1_ := Aside0.mk (Kd.R_below (by (with_reducible repeat (first | apply Kd.R_alloc | apply Kd.R_drewN | apply Kd.R_drew)); exact HO367.out) hb); have n2_ := Aside0.mk (Kd.R_below (by (with_reducible repeat (first | apply Kd.R_alloc | apply Kd.R_drewN | apply Kd.R_drew)); exact HO371.out) hb); have n3_ := Aside0.mk (Kd.R_below (by (with_reducible repeat (first | apply Kd.R_alloc | apply Kd.R_drewN | apply Kd.R_drew)); exact HO375.out) hb); have n4_ := Aside0.mk (below_step (by repeat (first | (with_reducible first | exact HB.out | apply below_alloc | apply pw_below_drewN | apply below_drew1) | exact HB.out)) hb); clear HO363; clear HO367; clear HO371; clear HO375; clear HB; have HO363 := n0_; have HO367 := n1_; have HO371 := n2_; have HO375 := n3_; have HB := n4_; clear n0_ n1_ n2_ n3_ n4_; (try clear hb); (try clear hb2); (try clear hk); (try clear hi)) | (go_at_call 34; (with_reducible refine (weirkeeperref08_Need.calls k2 (a2.size : Int) t379 _ A27.out).mono ?_); rintro e w' ⟨rfl, ⟨nd, rfl⟩⟩) | (go_at_call 27; (with_reducible refine (weirkeeperlaw08_awake.calls k2 _ A29.out).mono ?_); rintro e w39 ⟨rfl, hb⟩; have n0_ := Aside0.mk (Kd.R_below (by (with_reducible repeat (first | apply Kd.R_alloc | apply Kd.R_drewN | apply Kd.R_drew)); exact HO363.out) hb); have n1_ := Aside0.mk (Kd.R_below (by (with_reducible repeat (first | apply Kd.R_alloc | apply Kd.R_drewN | apply Kd.R_drew)); exact HO367.out) hb); have n2_ := Aside0.mk (Kd.R_below (by (with_reducible repeat (first | apply Kd.R_alloc | apply Kd.R_drewN | apply Kd.R_drew)); exact HO371.out) hb); have n3_ := Aside0.mk (Kd.R_below (by (with_reducible repeat (first | apply Kd.R_alloc | apply Kd.R_drewN | apply Kd.R_drew)); exact HO375.out) hb); have n4_ := Aside0.mk (below_step (by repeat (first | (with_reducible first | exact HB.out | apply below_alloc | apply pw_below_drewN | apply below_drew1) | exact HB.out)) hb); clear HO363; clear HO367; clear HO371; clear HO375; clear HB; have HO363 := n0_; have HO367 := n1_; have HO371 := n2_; have HO375 := n3_; have HB := n4_; clear n0_ n1_ n2_ n3_ n4_; (try clear hb); (try clear hb2); (try clear hk); (try clear hi)))
                        go_ret
                        exact ⟨by first | rfl | (simp only [h9_.out]; done) | (have h8_ := h9_.out; simp [h8_]; done) | (simp [errW_none, errW_some] <;> rfl) | (simp [*, errW_none, errW_some] <;> rfl), by repeat (first | (with_reducible first | exact HB.out | apply below_alloc | apply pw_below_drewN | apply below_drew1) | exact HB.out)⟩
                      · rw [if_neg c28] at H
                        have c28b0 : (t378 == t379) = false := beq_eq_false_iff_ne.mpr c28
                        have c28b1 : (t378 != t379) = true := bne_iff_ne.mpr c28
                        exact absurd H (by simp)
                    · rw [if_neg c25] at H
                      have c25b0 : (t369 == t373) = false := beq_eq_false_iff_ne.mpr c25
                      have c25b1 : (t369 != t373) = true := bne_iff_ne.mpr c25
                      exact absurd H (by simp)
                  · replace c24 := Bool.eq_false_iff.mpr c24
                    subst c24
                    have H1 : (some false) = some true := by rw [if_neg (show ¬ (false = true) by decide)] at H; exact H
                    clear H
                    have H := H1
                    clear H1
                    exact absurd H (by simp)
                · rw [if_neg c22] at H
                  have c22b0 : (t361 == t365) = false := beq_eq_false_iff_ne.mpr c22
                  have c22b1 : (t361 != t365) = true := bne_iff_ne.mpr c22
                  exact absurd H (by simp)
              · replace c21 := Bool.eq_false_iff.mpr c21
                subst c21
                have H1 : (some false) = some true := by rw [if_neg (show ¬ (false = true) by decide)] at H; exact H
                clear H
                have H := H1
                clear H1
                exact absurd H (by simp)

end Go.Proofs.Ytpkapldkmleppaa.F
