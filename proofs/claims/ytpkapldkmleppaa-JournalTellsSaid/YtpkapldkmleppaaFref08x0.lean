/- Contracts of Go functions of the seat Ytpkapldkmleppaa: what a call comes to; no condition but those that each theorem names. -/
import Derived.Test.YtpkapldkmleppaaFPre
import Derived.Test.YtpkapldkmleppaaFref01
namespace Go.Proofs.Ytpkapldkmleppaa.F
open Go.RowKit Go.Proofs.YtpkapldkmleppaaW.PrintWords Go.Proofs.YtpkapldkmleppaaW.PrintLast Go.Proofs.YtpkapldkmleppaaW.PrintMore
attribute [local go_sem] max2_int min2_int max_two min_two max_three min_three max_four min_four   -- for this text's walks alone
set_option linter.unusedVariables false
set_option linter.unusedSimpArgs false

/-! ### weirkeeperref08_Need: function 34 -/
mutual
def weirkeeperref08_Need.j0 : Nat → Int → Bool → Option (Int)
  | 0, _, _ => none
  | k + 1, x0, x9 => if x9 = true then (some 0) else (weirkeeperref08_Need.l0 k x0 1)
def weirkeeperref08_Need.l0 : Nat → Int → Int → Option (Int)
  | 0, _, _ => none
  | k + 1, x0, x3 => if (wrap64 (24 * x3)) < x0 then (weirkeeperref08_Need.l0 k x0 (wrap64 (x3 + 1))) else (some x3)
end
def weirkeeperref08_Need.f (k : Nat) (a0 : Int) : Option (Int) := if a0 < 0 then (weirkeeperref08_Need.j0 k a0 true) else (weirkeeperref08_Need.j0 k a0 (decide (a0 > 1000)))
theorem weirkeeperref08_Need.mono_l : ∀ k, (∀ y0 y1, LeO (weirkeeperref08_Need.j0 k y0 y1) (weirkeeperref08_Need.j0 (k + 1) y0 y1)) ∧ (∀ y0 y1, LeO (weirkeeperref08_Need.l0 k y0 y1) (weirkeeperref08_Need.l0 (k + 1) y0 y1))
  | 0 => ⟨fun _ _ r h => by simp [weirkeeperref08_Need.j0] at h, fun _ _ r h => by simp [weirkeeperref08_Need.l0] at h⟩
  | k + 1 => by
    obtain ⟨ih0, ih1⟩ := weirkeeperref08_Need.mono_l k
    refine ⟨?_, ?_⟩
    · intro y0 y1
      unfold weirkeeperref08_Need.j0
      repeat' first
      | (with_reducible exact ih0 _ _)
      | (with_reducible exact ih1 _ _)
      | (with_reducible exact LeO.refl _)
      | (with_reducible exact LeO.none _)
      | (with_reducible refine LeO.ite ?_ ?_)
      | (with_reducible refine LeO.bind ?_ (fun _ => ?_))
      | exact ih0 _ _
      | exact ih1 _ _
      | exact LeO.none _
      | refine LeO.ite ?_ ?_
      | refine LeO.bind ?_ (fun _ => ?_)
    · intro y0 y1
      unfold weirkeeperref08_Need.l0
      repeat' first
      | (with_reducible exact ih0 _ _)
      | (with_reducible exact ih1 _ _)
      | (with_reducible exact LeO.refl _)
      | (with_reducible exact LeO.none _)
      | (with_reducible refine LeO.ite ?_ ?_)
      | (with_reducible refine LeO.bind ?_ (fun _ => ?_))
      | exact ih0 _ _
      | exact ih1 _ _
      | exact LeO.none _
      | refine LeO.ite ?_ ?_
      | refine LeO.bind ?_ (fun _ => ?_)
theorem weirkeeperref08_Need.mono : ∀ a0 k, LeO (weirkeeperref08_Need.f k a0) (weirkeeperref08_Need.f (k + 1) a0) := by
  intro a0 k
  obtain ⟨ih0, ih1⟩ := weirkeeperref08_Need.mono_l k
  unfold weirkeeperref08_Need.f
  repeat' first
      | (with_reducible exact ih0 _ _)
      | (with_reducible exact ih1 _ _)
      | (with_reducible exact LeO.refl _)
      | (with_reducible exact LeO.none _)
      | (with_reducible refine LeO.ite ?_ ?_)
      | (with_reducible refine LeO.bind ?_ (fun _ => ?_))
      | exact ih0 _ _
      | exact ih1 _ _
      | exact LeO.none _
      | refine LeO.ite ?_ ?_
      | refine LeO.bind ?_ (fun _ => ?_)
set_option maxHeartbeats 8000000 in
set_option maxRecDepth 100000 in
theorem weirkeeperref08_Need.calls (k : Nat) (a0 : Int) (r : Int) (w : World) (h : weirkeeperref08_Need.f k a0 = some r) :
    Calls Try.prog 34 #[.int .i64 a0] w fun e w' => e = .returned (.int .i64 r) ∧ Drawn0 w w' := by
  have H : (if a0 < 0 then (weirkeeperref08_Need.j0 k a0 true) else (weirkeeperref08_Need.j0 k a0 (decide (a0 > 1000)))) = some r := h
  clear h
  have HC2 := Aside0.mk H
  clear H
  go_enter Try.func34, Try.ntmps34
  go_upto_region 1 with (fail)
  go_cut [9] (fun v9 wc => ∃ (kq : Nat) (x9_1 : Bool), v9 = .bool x9_1 ∧ Aside0 (weirkeeperref08_Need.j0 kq a0 x9_1 = some r) ∧ Aside0 (kq ≤ k) ∧ Drawn0 w wc)
  case first =>
    have H := HC2.out
    clear HC2
    by_cases c3 : a0 < 0
    · rw [if_pos c3] at H
      have c3b0 : decide (a0 < 0) = true := decide_eq_true c3
      clear c3
      (first | rw [c3b0] | (simp only [i64_w, i32_w]; rw [c3b0]) | skip)
      have H' := Aside0.mk H
      clear H
      go_wp2
      go_meet
      case rel => exact ⟨_, (true), (by first | rfl | (simp; done) | (simp [*]; done)), H', ⟨by first | omega | exact Nat.le_refl _⟩, by repeat (first | exact Drawn0.refl _ | apply Drawn0.step)⟩
    · rw [if_neg c3] at H
      have c3b0 : decide (a0 < 0) = false := decide_eq_false c3
      clear c3
      (first | rw [c3b0] | (simp only [i64_w, i32_w]; rw [c3b0]) | skip)
      have H' := Aside0.mk H
      clear H
      go_wp2
      go_meet
      case rel => exact ⟨_, (decide (a0 > 1000)), (by first | rfl | (simp; done) | (simp [*]; done)), H', ⟨by first | omega | exact Nat.le_refl _⟩, by repeat (first | exact Drawn0.refl _ | apply Drawn0.step)⟩
  case rest =>
    clear HC2
    try clear p2
    try clear c3
    try clear c3b0
    obtain ⟨kq, x9_1, rfl, HA, HJ1, ⟨mc1, rfl⟩⟩ := hcut
    cases kq with
    | zero => exact absurd HA.out (by simp [weirkeeperref08_Need.j0])
    | succ kj1 =>
      have H := HA.out
      clear HA
      simp only [weirkeeperref08_Need.j0] at H
      by_cases c4 : x9_1 = true
      · subst c4
        have H1 : (some 0) = some r := by rw [if_pos rfl] at H; exact H
        clear H
        have H := H1
        clear H1
        obtain rfl := Option.some.inj H
        go_wp2
        go_ret
        exact ⟨by first | rfl | (simp; done) | (simp [*]; done), by repeat (first | exact Drawn0.refl _ | apply Drawn0.step)⟩
      · replace c4 := Bool.eq_false_iff.mpr c4
        subst c4
        have H1 : (weirkeeperref08_Need.l0 kj1 a0 1) = some r := by rw [if_neg (show ¬ (false = true) by decide)] at H; exact H
        clear H
        have H := H1
        clear H1
        have H' := Aside0.mk H
        clear H
        go_wp2
        go_loopg [3] kj1 (fun kq v3 w' => ∃ (x3_2 : Int), v3 = .int .i64 x3_2 ∧ Aside0 (weirkeeperref08_Need.l0 kq a0 x3_2 = some r) ∧ Aside0 (kq ≤ kj1) ∧ Drawn0 w w')
        case atStart => exact ⟨(1), (by first | rfl | (simp; done) | (simp [*]; done)), H', ⟨Nat.le_refl _⟩, by repeat (first | exact Drawn0.refl _ | apply Drawn0.step)⟩
        case round =>
          clear H'
          try clear c1
          try clear p2
          try clear c3
          try clear c3b0
          try clear c4
          try clear p2
          obtain ⟨x3_2, rfl, HA, HK2, ⟨m2, rfl⟩⟩ := hrel
          cases gk with
          | zero => exact absurd HA.out (by simp [weirkeeperref08_Need.l0])
          | succ k2 =>
            have H := HA.out
            clear HA
            simp only [weirkeeperref08_Need.l0] at H
            by_cases c5 : (wrap64 (24 * x3_2)) < a0
            · rw [if_pos c5] at H
              have c5b0 : decide ((wrap64 (24 * x3_2)) < a0) = true := decide_eq_true c5
              clear c5
              have H' := Aside0.mk H
              clear H
              go_wp2
              go_roundg k2
              case measure => have := HJ1.out; have := HK2.out; omega
              case rel => exact ⟨(wrap64 (x3_2 + 1)), (by first | rfl | (simp; done) | (simp [*]; done)), H', ⟨by have := HJ1.out; have := HK2.out; omega⟩, by repeat (first | exact Drawn0.refl _ | apply Drawn0.step)⟩
            · rw [if_neg c5] at H
              have c5b0 : decide ((wrap64 (24 * x3_2)) < a0) = false := decide_eq_false c5
              clear c5
              obtain rfl := Option.some.inj H
              go_wp2
              go_ret
              exact ⟨by first | rfl | (simp; done) | (simp [*]; done), by repeat (first | exact Drawn0.refl _ | apply Drawn0.step)⟩

/-! ### weirkeeperref08_May: function 55 -/
def weirkeeperref08_May.f (a0 : Int) (a1 : Int) : Option (Bool) := if a0 ≥ 1 then (if a0 ≤ 2147483647 then (if a1 ≥ 0 then (some (decide (a1 ≤ 128))) else (some false)) else (some false)) else (some false)
set_option maxHeartbeats 8000000 in
set_option maxRecDepth 100000 in
theorem weirkeeperref08_May.calls (a0 : Int) (a1 : Int) (r : Bool) (w : World) (h : weirkeeperref08_May.f a0 a1 = some r) :
    Calls Try.prog 55 #[.int .i64 a0, .int .i64 a1] w fun e w' => e = .returned (.bool r) ∧ Drawn0 w w' := by
  have H : (if a0 ≥ 1 then (if a0 ≤ 2147483647 then (if a1 ≥ 0 then (some (decide (a1 ≤ 128))) else (some false)) else (some false)) else (some false)) = some r := h
  clear h
  by_cases c3 : a0 ≥ 1
  · rw [if_pos c3] at H
    have c3b0 : decide (1 ≤ a0) = true := decide_eq_true c3
    clear c3
    by_cases c4 : a0 ≤ 2147483647
    · rw [if_pos c4] at H
      have c4b0 : decide (a0 ≤ 2147483647) = true := decide_eq_true c4
      clear c4
      by_cases c5 : a1 ≥ 0
      · rw [if_pos c5] at H
        have c5b0 : decide (0 ≤ a1) = true := decide_eq_true c5
        clear c5
        obtain rfl := Option.some.inj H
        go_enter Try.func55, Try.ntmps55
        go_wp2
        go_ret
        exact ⟨by first | rfl | (simp; done) | (simp [*]; done), by repeat (first | exact Drawn0.refl _ | apply Drawn0.step)⟩
      · rw [if_neg c5] at H
        have c5b0 : decide (0 ≤ a1) = false := decide_eq_false c5
        clear c5
        obtain rfl := Option.some.inj H
        go_enter Try.func55, Try.ntmps55
        go_wp2
        go_ret
        exact ⟨by first | rfl | (simp; done) | (simp [*]; done), by repeat (first | exact Drawn0.refl _ | apply Drawn0.step)⟩
    · rw [if_neg c4] at H
      have c4b0 : decide (a0 ≤ 2147483647) = false := decide_eq_false c4
      clear c4
      obtain rfl := Option.some.inj H
      go_enter Try.func55, Try.ntmps55
      go_wp2
      go_ret
      exact ⟨by first | rfl | (simp; done) | (simp [*]; done), by repeat (first | exact Drawn0.refl _ | apply Drawn0.step)⟩
  · rw [if_neg c3] at H
    have c3b0 : decide (1 ≤ a0) = false := decide_eq_false c3
    clear c3
    obtain rfl := Option.some.inj H
    go_enter Try.func55, Try.ntmps55
    go_wp2
    go_ret
    exact ⟨by first | rfl | (simp; done) | (simp [*]; done), by repeat (first | exact Drawn0.refl _ | apply Drawn0.step)⟩

/-! ### weirkeeperref08_Pieces: function 29 -/
mutual
def weirkeeperref08_Pieces.j0 : Nat → Int → Int → ByteArray → Bool → Option (List ByteArray × Int)
  | 0, _, _, _, _ => none
  | k + 1, x0, x1, x2, x29 => if x29 = true then (some (([] : List ByteArray), 1)) else ((weirkeeperref08_Need.f k (x2.size : Int)).bind fun t470 => (if (wrap64 (x1 + t470)) > 128 then (some (([] : List ByteArray), 6)) else (weirkeeperref08_Pieces.l0 k x0 x1 x2 t470 ([] : List ByteArray) 0)))
def weirkeeperref08_Pieces.l0 : Nat → Int → Int → ByteArray → Int → List ByteArray → Int → Option (List ByteArray × Int)
  | 0, _, _, _, _, _, _ => none
  | k + 1, x0, x1, x2, x9, x10, x11 => if x11 < x9 then (if 0 ≤ (wrap64 (24 * x11)) then (if (wrap64 (24 * x11)) ≤ (x2.size : Int) then ((weirkeeperref01_Num.f k (IntKind.u64.wrap (x0)) 4).bind fun bt471 => ((weirkeeperref01_Num.f k (IntKind.u64.wrap (wrap64 (x1 + x11))) 2).bind fun bt473 => ((weirkeeperref01_Num.f k (IntKind.u64.wrap (((x2.extract ((wrap64 (24 * x11)) : Int).toNat x2.size).size : Int))) 2).bind fun bt475 => (if ((x2.extract ((wrap64 (24 * x11)) : Int).toNat x2.size).size : Int) > 24 then (if 0 ≤ 24 then (if 24 ≤ ((x2.extract ((wrap64 (24 * x11)) : Int).toNat x2.size).size : Int) then (weirkeeperref08_Pieces.j2 k x0 x1 x2 x9 x10 x11 ((x2.extract ((wrap64 (24 * x11)) : Int).toNat x2.size).extract 0 24) bt471.1 bt473.1 bt475.1) else (none)) else (none)) else (weirkeeperref08_Pieces.j2 k x0 x1 x2 x9 x10 x11 (x2.extract ((wrap64 (24 * x11)) : Int).toNat x2.size) bt471.1 bt473.1 bt475.1))))) else (none)) else (none)) else (some (x10, 0))
def weirkeeperref08_Pieces.j2 : Nat → Int → Int → ByteArray → Int → List ByteArray → Int → ByteArray → ByteArray → ByteArray → ByteArray → Option (List ByteArray × Int)
  | 0, _, _, _, _, _, _, _, _, _, _ => none
  | k + 1, x0, x1, x2, x9, x10, x11, x12, x13, x15, x17 => if x13.size + x15.size ≤ 9223372036854775807 then (if (x13 ++ x15).size + x17.size ≤ 9223372036854775807 then (if ((x13 ++ x15) ++ x17).size + x12.size ≤ 9223372036854775807 then (weirkeeperref08_Pieces.l1 k x0 x1 x2 x9 x10 x11 (((x13 ++ x15) ++ x17) ++ x12)) else (none)) else (none)) else (none)
def weirkeeperref08_Pieces.l1 : Nat → Int → Int → ByteArray → Int → List ByteArray → Int → ByteArray → Option (List ByteArray × Int)
  | 0, _, _, _, _, _, _, _ => none
  | k + 1, x0, x1, x2, x9, x10, x11, x19 => if (x19.size : Int) < 32 then (if x19.size + 1 ≤ 9223372036854775807 then (weirkeeperref08_Pieces.l1 k x0 x1 x2 x9 x10 x11 (x19 ++ (⟨#[0]⟩ : ByteArray))) else (none)) else (if x10.length < 8796093022208 then (weirkeeperref08_Pieces.l0 k x0 x1 x2 x9 (x10 ++ [x19]) (wrap64 (x11 + 1))) else (none))
end
def weirkeeperref08_Pieces.f (k : Nat) (a0 : Int) (a1 : Int) (a2 : ByteArray) : Option (List ByteArray × Int) := (weirkeeperref08_May.f a0 a1).bind fun t469 => (if t469 = true then (weirkeeperref08_Pieces.j0 k a0 a1 a2 (decide ((a2.size : Int) > 1000))) else (weirkeeperref08_Pieces.j0 k a0 a1 a2 true))
theorem weirkeeperref08_Pieces.mono_l : ∀ k, (∀ y0 y1 y2 y3, LeO (weirkeeperref08_Pieces.j0 k y0 y1 y2 y3) (weirkeeperref08_Pieces.j0 (k + 1) y0 y1 y2 y3)) ∧ (∀ y0 y1 y2 y3 y4 y5, LeO (weirkeeperref08_Pieces.l0 k y0 y1 y2 y3 y4 y5) (weirkeeperref08_Pieces.l0 (k + 1) y0 y1 y2 y3 y4 y5)) ∧ (∀ y0 y1 y2 y3 y4 y5 y6 y7 y8 y9, LeO (weirkeeperref08_Pieces.j2 k y0 y1 y2 y3 y4 y5 y6 y7 y8 y9) (weirkeeperref08_Pieces.j2 (k + 1) y0 y1 y2 y3 y4 y5 y6 y7 y8 y9)) ∧ (∀ y0 y1 y2 y3 y4 y5 y6, LeO (weirkeeperref08_Pieces.l1 k y0 y1 y2 y3 y4 y5 y6) (weirkeeperref08_Pieces.l1 (k + 1) y0 y1 y2 y3 y4 y5 y6))
  | 0 => ⟨fun _ _ _ _ r h => by simp [weirkeeperref08_Pieces.j0] at h, fun _ _ _ _ _ _ r h => by simp [weirkeeperref08_Pieces.l0] at h, fun _ _ _ _ _ _ _ _ _ _ r h => by simp [weirkeeperref08_Pieces.j2] at h, fun _ _ _ _ _ _ _ r h => by simp [weirkeeperref08_Pieces.l1] at h⟩
  | k + 1 => by
    obtain ⟨ih0, ih1, ih2, ih3⟩ := weirkeeperref08_Pieces.mono_l k
    refine ⟨?_, ?_, ?_, ?_⟩
    · intro y0 y1 y2 y3
      unfold weirkeeperref08_Pieces.j0
      repeat' first
      | (with_reducible exact ih0 _ _ _ _)
      | (with_reducible exact ih1 _ _ _ _ _ _)
      | (with_reducible exact ih2 _ _ _ _ _ _ _ _ _ _)
      | (with_reducible exact ih3 _ _ _ _ _ _ _)
      | (with_reducible exact weirkeeperref01_Num.mono _ _ _)
      | (with_reducible exact weirkeeperref08_Need.mono _ _)
      | (with_reducible exact LeO.refl _)
      | (with_reducible exact LeO.none _)
      | (with_reducible refine LeO.ite ?_ ?_)
      | (with_reducible refine LeO.bind ?_ (fun _ => ?_))
      | exact ih0 _ _ _ _
      | exact ih1 _ _ _ _ _ _
      | exact ih2 _ _ _ _ _ _ _ _ _ _
      | exact ih3 _ _ _ _ _ _ _
      | exact weirkeeperref01_Num.mono _ _ _
      | exact weirkeeperref08_Need.mono _ _
      | exact LeO.none _
      | refine LeO.ite ?_ ?_
      | refine LeO.bind ?_ (fun _ => ?_)
    · intro y0 y1 y2 y3 y4 y5
      unfold weirkeeperref08_Pieces.l0
      repeat' first
      | (with_reducible exact ih0 _ _ _ _)
      | (with_reducible exact ih1 _ _ _ _ _ _)
      | (with_reducible exact ih2 _ _ _ _ _ _ _ _ _ _)
      | (with_reducible exact ih3 _ _ _ _ _ _ _)
      | (with_reducible exact weirkeeperref01_Num.mono _ _ _)
      | (with_reducible exact weirkeeperref08_Need.mono _ _)
      | (with_reducible exact LeO.refl _)
      | (with_reducible exact LeO.none _)
      | (with_reducible refine LeO.ite ?_ ?_)
      | (with_reducible refine LeO.bind ?_ (fun _ => ?_))
      | exact ih0 _ _ _ _
      | exact ih1 _ _ _ _ _ _
      | exact ih2 _ _ _ _ _ _ _ _ _ _
      | exact ih3 _ _ _ _ _ _ _
      | exact weirkeeperref01_Num.mono _ _ _
      | exact weirkeeperref08_Need.mono _ _
      | exact LeO.none _
      | refine LeO.ite ?_ ?_
      | refine LeO.bind ?_ (fun _ => ?_)
    · intro y0 y1 y2 y3 y4 y5 y6 y7 y8 y9
      unfold weirkeeperref08_Pieces.j2
      repeat' first
      | (with_reducible exact ih0 _ _ _ _)
      | (with_reducible exact ih1 _ _ _ _ _ _)
      | (with_reducible exact ih2 _ _ _ _ _ _ _ _ _ _)
      | (with_reducible exact ih3 _ _ _ _ _ _ _)
      | (with_reducible exact weirkeeperref01_Num.mono _ _ _)
      | (with_reducible exact weirkeeperref08_Need.mono _ _)
      | (with_reducible exact LeO.refl _)
      | (with_reducible exact LeO.none _)
      | (with_reducible refine LeO.ite ?_ ?_)
      | (with_reducible refine LeO.bind ?_ (fun _ => ?_))
      | exact ih0 _ _ _ _
      | exact ih1 _ _ _ _ _ _
      | exact ih2 _ _ _ _ _ _ _ _ _ _
      | exact ih3 _ _ _ _ _ _ _
      | exact weirkeeperref01_Num.mono _ _ _
      | exact weirkeeperref08_Need.mono _ _
      | exact LeO.none _
      | refine LeO.ite ?_ ?_
      | refine LeO.bind ?_ (fun _ => ?_)
    · intro y0 y1 y2 y3 y4 y5 y6
      unfold weirkeeperref08_Pieces.l1
      repeat' first
      | (with_reducible exact ih0 _ _ _ _)
      | (with_reducible exact ih1 _ _ _ _ _ _)
      | (with_reducible exact ih2 _ _ _ _ _ _ _ _ _ _)
      | (with_reducible exact ih3 _ _ _ _ _ _ _)
      | (with_reducible exact weirkeeperref01_Num.mono _ _ _)
      | (with_reducible exact weirkeeperref08_Need.mono _ _)
      | (with_reducible exact LeO.refl _)
      | (with_reducible exact LeO.none _)
      | (with_reducible refine LeO.ite ?_ ?_)
      | (with_reducible refine LeO.bind ?_ (fun _ => ?_))
      | exact ih0 _ _ _ _
      | exact ih1 _ _ _ _ _ _
      | exact ih2 _ _ _ _ _ _ _ _ _ _
      | exact ih3 _ _ _ _ _ _ _
      | exact weirkeeperref01_Num.mono _ _ _
      | exact weirkeeperref08_Need.mono _ _
      | exact LeO.none _
      | refine LeO.ite ?_ ?_
      | refine LeO.bind ?_ (fun _ => ?_)
theorem weirkeeperref08_Pieces.mono : ∀ a0 a1 a2 k, LeO (weirkeeperref08_Pieces.f k a0 a1 a2) (weirkeeperref08_Pieces.f (k + 1) a0 a1 a2) := by
  intro a0 a1 a2 k
  obtain ⟨ih0, ih1, ih2, ih3⟩ := weirkeeperref08_Pieces.mono_l k
  unfold weirkeeperref08_Pieces.f
  repeat' first
      | (with_reducible exact ih0 _ _ _ _)
      | (with_reducible exact ih1 _ _ _ _ _ _)
      | (with_reducible exact ih2 _ _ _ _ _ _ _ _ _ _)
      | (with_reducible exact ih3 _ _ _ _ _ _ _)
      | (with_reducible exact weirkeeperref01_Num.mono _ _ _)
      | (with_reducible exact weirkeeperref08_Need.mono _ _)
      | (with_reducible exact LeO.refl _)
      | (with_reducible exact LeO.none _)
      | (with_reducible refine LeO.ite ?_ ?_)
      | (with_reducible refine LeO.bind ?_ (fun _ => ?_))
      | exact ih0 _ _ _ _
      | exact ih1 _ _ _ _ _ _
      | exact ih2 _ _ _ _ _ _ _ _ _ _
      | exact ih3 _ _ _ _ _ _ _
      | exact weirkeeperref01_Num.mono _ _ _
      | exact weirkeeperref08_Need.mono _ _
      | exact LeO.none _
      | refine LeO.ite ?_ ?_
      | refine LeO.bind ?_ (fun _ => ?_)
set_option maxHeartbeats 8000000 in
set_option maxRecDepth 100000 in
theorem weirkeeperref08_Pieces.calls (k : Nat) (a0 : Int) (a1 : Int) (a2 : ByteArray) (r1 : List ByteArray) (r2 : Int) (w : World) (h : weirkeeperref08_Pieces.f k a0 a1 a2 = some (r1, r2)) :
    Calls Try.prog 29 #[.int .i64 a0, .int .i64 a1, .string a2] w fun e w' => ∃ v0_ : Value, e = .returned (.tuple #[v0_, .int .i64 r2]) ∧ Kd.R Kd.string 9 w' w.heap.size (fun _ => True) v0_ r1 ∧ Below w.heap.size w w' := by
  have HB := Aside0.mk (Below.refl w.heap.size w)
  have H : ((weirkeeperref08_May.f a0 a1).bind fun t469 => (if t469 = true then (weirkeeperref08_Pieces.j0 k a0 a1 a2 (decide ((a2.size : Int) > 1000))) else (weirkeeperref08_Pieces.j0 k a0 a1 a2 true))) = some (r1, r2) := h
  clear h
  replace H := Option.bind_eq_some_iff.mp H
  obtain ⟨t469, A40, H⟩ := H
  replace H : (if t469 = true then (weirkeeperref08_Pieces.j0 k a0 a1 a2 (decide ((a2.size : Int) > 1000))) else (weirkeeperref08_Pieces.j0 k a0 a1 a2 true)) = some (r1, r2) := H
  have A4 := Aside0.mk A40
  clear A40
  have HC5 := Aside0.mk H
  clear H
  go_enter Try.func29, Try.ntmps29
  go_upto_region 2 with (first | ((with_reducible refine gate_callee (f := 55) rfl ?_); refine goesL_ (some 22) rfl rfl Try.func55 (by kernel_rfl) rfl #[.int .i64 a0, .int .i64 a1] rfl (by (try simp only [List.map_toArray, List.map_cons, List.map_nil]); first | done | rfl | (simp only [List.length_drop, List.length_take]; rfl) | (simp only [ByteArray.size_extract, Nat.min_self, Nat.sub_zero]; rfl)) ?_; (with_reducible refine (weirkeeperref08_May.calls a0 a1 t469 _ A4.out).mono ?_); rintro e w' ⟨rfl, ⟨nd, rfl⟩⟩; refine ⟨_, rfl, ?_⟩))
  (try simp only [Act.put, List.setIfInBounds_toArray, List.set_cons_zero, List.set_cons_succ])
  go_cut [29] (fun v29 wc => ∃ (kq : Nat) (x29_4 : Bool), v29 = .bool x29_4 ∧ Aside0 (weirkeeperref08_Pieces.j0 kq a0 a1 a2 x29_4 = some (r1, r2)) ∧ Aside0 (kq ≤ k) ∧ Aside0 (Below w.heap.size w wc))
  case first =>
    have H := HC5.out
    clear HC5
    by_cases c6 : t469 = true
    · subst c6
      have H1 : (weirkeeperref08_Pieces.j0 k a0 a1 a2 (decide ((a2.size : Int) > 1000))) = some (r1, r2) := by rw [if_pos rfl] at H; exact H
      clear H
      have H := H1
      clear H1
      have H' := Aside0.mk H
      clear H
      go_wp2
      go_meet
      case rel => exact ⟨_, (decide ((a2.size : Int) > 1000)), (by first | rfl | (simp; done) | (simp [*]; done)), H', ⟨by first | omega | exact Nat.le_refl _⟩, ⟨by repeat (first | (with_reducible first | exact HB.out | apply below_alloc | apply pw_below_drewN | apply below_drew1) | exact HB.out)⟩⟩
    · replace c6 := Bool.eq_false_iff.mpr c6
      subst c6
      have H1 : (weirkeeperref08_Pieces.j0 k a0 a1 a2 true) = some (r1, r2) := by rw [if_neg (show ¬ (false = true) by decide)] at H; exact H
      clear H
      have H := H1
      clear H1
      have H' := Aside0.mk H
      clear H
      go_wp2
      go_meet
      case rel => exact ⟨_, (true), (by first | rfl | (simp; done) | (simp [*]; done)), H', ⟨by first | omega | exact Nat.le_refl _⟩, ⟨by repeat (first | (with_reducible first | exact HB.out | apply below_alloc | apply pw_below_drewN | apply below_drew1) | exact HB.out)⟩⟩
  case rest =>
    clear HC5
    try clear c2
    try clear p2
    try clear c5
    try clear c6
    obtain ⟨kq, x29_4, rfl, HA, HJ4, HB⟩ := hcut
    cases kq with
    | zero => exact absurd HA.out (by simp [weirkeeperref08_Pieces.j0])
    | succ kj4 =>
      have H := HA.out
      clear HA
      simp only [weirkeeperref08_Pieces.j0] at H
      by_cases c7 : x29_4 = true
      · subst c7
        have H1 : (some (([] : List ByteArray), 1)) = some (r1, r2) := by rw [if_pos rfl] at H; exact H
        clear H
        have H := H1
        clear H1
        simp only [Option.some.injEq, Prod.mk.injEq] at H
        obtain ⟨rfl, rfl⟩ := H
        go_wp2
        go_ret2
        exact ⟨_, by first | rfl | (simp [errW_none, errW_some] <;> rfl) | (simp [*, errW_none, errW_some] <;> rfl), by first | exact Kd.R_nil _ _ _ _ _ | exact Kd.N_nil _ _ _ _ _ | exact Kd.V_nil _ _ _ _ _ | exact Kd.Q_nil _ _ _ _ _ | exact Kd.S_nil _ _ _ _ _, by repeat (first | (with_reducible first | exact HB.out | apply below_alloc | apply pw_below_drewN | apply below_drew1) | exact HB.out)⟩
      · replace c7 := Bool.eq_false_iff.mpr c7
        subst c7
        have H1 : ((weirkeeperref08_Need.f kj4 (a2.size : Int)).bind fun t470 => (if (wrap64 (a1 + t470)) > 128 then (some (([] : List ByteArray), 6)) else (weirkeeperref08_Pieces.l0 kj4 a0 a1 a2 t470 ([] : List ByteArray) 0))) = some (r1, r2) := by rw [if_neg (show ¬ (false = true) by decide)] at H; exact H
        clear H
        have H := H1
        clear H1
        replace H := Option.bind_eq_some_iff.mp H
        obtain ⟨t470, A80, H⟩ := H
        replace H : (if (wrap64 (a1 + t470)) > 128 then (some (([] : List ByteArray), 6)) else (weirkeeperref08_Pieces.l0 kj4 a0 a1 a2 t470 ([] : List ByteArray) 0)) = some (r1, r2) := H
        have A8 := Aside0.mk A80
        clear A80
        by_cases c9 : (wrap64 (a1 + t470)) > 128
        · rw [if_pos c9] at H
          have c9b0 : decide (128 < (wrap64 (a1 + t470))) = true := decide_eq_true c9
          clear c9
          simp only [Option.some.injEq, Prod.mk.injEq] at H
          obtain ⟨rfl, rfl⟩ := H
          go_wp2_with (first | ((with_reducible refine gate_callee (f := 34) rfl ?_); refine goesL_ (some 32) rfl rfl Try.func34 (by kernel_rfl) rfl #[.int .i64 (a2.size : Int)] rfl (by (try simp only [List.map_toArray, List.map_cons, List.map_nil]); first | done | rfl | (simp only [List.length_drop, List.length_take]; rfl) | (simp only [ByteArray.size_extract, Nat.min_self, Nat.sub_zero]; rfl)) ?_; (with_reducible refine (weirkeeperref08_Need.calls kj4 (a2.size : Int) t470 _ A8.out).mono ?_); rintro e w' ⟨rfl, ⟨nd, rfl⟩⟩; refine ⟨_, rfl, ?_⟩))
          go_ret2
          exact ⟨_, by first | rfl | (simp [errW_none, errW_some] <;> rfl) | (simp [*, errW_none, errW_some] <;> rfl), by first | exact Kd.R_nil _ _ _ _ _ | exact Kd.N_nil _ _ _ _ _ | exact Kd.V_nil _ _ _ _ _ | exact Kd.Q_nil _ _ _ _ _ | exact Kd.S_nil _ _ _ _ _, by repeat (first | (with_reducible first | exact HB.out | apply below_alloc | apply pw_below_drewN | apply below_drew1) | exact HB.out)⟩
        · rw [if_neg c9] at H
          have c9b0 : decide (128 < (wrap64 (a1 + t470))) = false := decide_eq_false c9
          clear c9
          have H' := Aside0.mk H
          clear H
          go_wp2_with (first | ((with_reducible refine gate_callee (f := 34) rfl ?_); refine goesL_ (some 32) rfl rfl Try.func34 (by kernel_rfl) rfl #[.int .i64 (a2.size : Int)] rfl (by (try simp only [List.map_toArray, List.map_cons, List.map_nil]); first | done | rfl | (simp only [List.length_drop, List.length_take]; rfl) | (simp only [ByteArray.size_extract, Nat.min_self, Nat.sub_zero]; rfl)) ?_; (with_reducible refine (weirkeeperref08_Need.calls kj4 (a2.size : Int) t470 _ A8.out).mono ?_); rintro e w' ⟨rfl, ⟨nd, rfl⟩⟩; refine ⟨_, rfl, ?_⟩))
          go_loopg [10, 11] kj4 (fun kq v10 v11 w' => ∃ (x10_2 : List ByteArray) (x11_2 : Int), v11 = .int .i64 x11_2 ∧ Aside0 (weirkeeperref08_Pieces.l0 kq a0 a1 a2 t470 x10_2 x11_2 = some (r1, r2)) ∧ Aside0 (kq ≤ kj4) ∧ Aside0 (Kd.R Kd.string 9 w' w.heap.size (fun _ => True) v10 x10_2) ∧ Aside0 (Below w.heap.size w w'))
          case atStart => exact ⟨(([] : List ByteArray)), (0), (by first | rfl | (simp; done) | (simp [*]; done)), H', ⟨Nat.le_refl _⟩, ⟨by first | exact Kd.R_nil _ _ _ _ _ | exact Kd.N_nil _ _ _ _ _ | exact Kd.V_nil _ _ _ _ _ | exact Kd.Q_nil _ _ _ _ _ | exact Kd.S_nil _ _ _ _ _⟩, ⟨by repeat (first | (with_reducible first | exact HB.out | apply below_alloc | apply pw_below_drewN | apply below_drew1) | exact HB.out)⟩⟩
          case round =>
            clear H'
            try clear c2
            try clear p2
            try clear c3
            try clear c5
            try clear c6
            try clear p6
            try clear c7
            try clear c9
            try clear c9b0
            try clear p2
            obtain ⟨x10_2, x11_2, rfl, HA, HK2, HO_10, HB⟩ := hrel
            cases gk with
            | zero => exact absurd HA.out (by simp [weirkeeperref08_Pieces.l0])
            | succ k2 =>
              have H := HA.out
              clear HA
              simp only [weirkeeperref08_Pieces.l0] at H
              by_cases c10 : x11_2 < t470
              · rw [if_pos c10] at H
                have c10b0 : decide (x11_2 < t470) = true := decide_eq_true c10
                clear c10
                obtain ⟨ji11, hji11⟩ : ∃ j_ : Int, (wrap64 (24 * x11_2)) = j_ := ⟨_, rfl⟩
                replace H : (if 0 ≤ (ji11) then (if (ji11) ≤ (a2.size : Int) then ((weirkeeperref01_Num.f k2 (IntKind.u64.wrap (a0)) 4).bind fun bt471 => ((weirkeeperref01_Num.f k2 (IntKind.u64.wrap (wrap64 (a1 + x11_2))) 2).bind fun bt473 => ((weirkeeperref01_Num.f k2 (IntKind.u64.wrap (((a2.extract ((ji11) : Int).toNat a2.size).size : Int))) 2).bind fun bt475 => (if ((a2.extract ((ji11) : Int).toNat a2.size).size : Int) > 24 then (if 0 ≤ 24 then (if 24 ≤ ((a2.extract ((ji11) : Int).toNat a2.size).size : Int) then (weirkeeperref08_Pieces.j2 k2 a0 a1 a2 t470 x10_2 x11_2 ((a2.extract ((ji11) : Int).toNat a2.size).extract 0 24) bt471.1 bt473.1 bt475.1) else (none)) else (none)) else (weirkeeperref08_Pieces.j2 k2 a0 a1 a2 t470 x10_2 x11_2 (a2.extract ((ji11) : Int).toNat a2.size) bt471.1 bt473.1 bt475.1))))) else (none)) else (none)) = some (r1, r2) := by first | (rw [hji11] at H; exact H) | (simp only [hji11] at H ⊢; exact H)
                have hji11w : (IntKind.i64.wrap (24 * x11_2)) = ji11 := (i64_w _).trans hji11
                by_cases c12 : 0 ≤ (ji11)
                · rw [if_pos c12] at H
                  have c12b0 := eq_true c12
                  try (have c12b09 := c12b0; simp only [ByteArray.size_extract, Nat.min_self, Nat.sub_zero, Int.toNat_natCast] at c12b09)
                  have c12b1 : decide (0 ≤ (ji11)) = true := decide_eq_true c12
                  clear c12
                  by_cases c13 : (ji11) ≤ (a2.size : Int)
                  · rw [if_pos c13] at H
                    have c13b0 := eq_true c13
                    try (have c13b09 := c13b0; simp only [ByteArray.size_extract, Nat.min_self, Nat.sub_zero, Int.toNat_natCast] at c13b09)
                    have c13b1 : decide ((ji11) ≤ (a2.size : Int)) = true := decide_eq_true c13
                    clear c13
                    replace H := Option.bind_eq_some_iff.mp H
                    obtain ⟨⟨t471, t472⟩, A140, H⟩ := H
                    replace H : ((weirkeeperref01_Num.f k2 (IntKind.u64.wrap (wrap64 (a1 + x11_2))) 2).bind fun bt473 => ((weirkeeperref01_Num.f k2 (IntKind.u64.wrap (((a2.extract ((ji11) : Int).toNat a2.size).size : Int))) 2).bind fun bt475 => (if ((a2.extract ((ji11) : Int).toNat a2.size).size : Int) > 24 then (if 0 ≤ 24 then (if 24 ≤ ((a2.extract ((ji11) : Int).toNat a2.size).size : Int) then (weirkeeperref08_Pieces.j2 k2 a0 a1 a2 t470 x10_2 x11_2 ((a2.extract ((ji11) : Int).toNat a2.size).extract 0 24) t471 bt473.1 bt475.1) else (none)) else (none)) else (weirkeeperref08_Pieces.j2 k2 a0 a1 a2 t470 x10_2 x11_2 (a2.extract ((ji11) : Int).toNat a2.size) t471 bt473.1 bt475.1)))) = some (r1, r2) := H
                    have A14 := Aside0.mk A140
                    clear A140
                    replace H := Option.bind_eq_some_iff.mp H
                    obtain ⟨⟨t473, t474⟩, A150, H⟩ := H
                    replace H : ((weirkeeperref01_Num.f k2 (IntKind.u64.wrap (((a2.extract ((ji11) : Int).toNat a2.size).size : Int))) 2).bind fun bt475 => (if ((a2.extract ((ji11) : Int).toNat a2.size).size : Int) > 24 then (if 0 ≤ 24 then (if 24 ≤ ((a2.extract ((ji11) : Int).toNat a2.size).size : Int) then (weirkeeperref08_Pieces.j2 k2 a0 a1 a2 t470 x10_2 x11_2 ((a2.extract ((ji11) : Int).toNat a2.size).extract 0 24) t471 t473 bt475.1) else (none)) else (none)) else (weirkeeperref08_Pieces.j2 k2 a0 a1 a2 t470 x10_2 x11_2 (a2.extract ((ji11) : Int).toNat a2.size) t471 t473 bt475.1))) = some (r1, r2) := H
                    have A15 := Aside0.mk A150
                    clear A150
                    replace H := Option.bind_eq_some_iff.mp H
                    obtain ⟨⟨t475, t476⟩, A160, H⟩ := H
                    replace H : (if ((a2.extract ((ji11) : Int).toNat a2.size).size : Int) > 24 then (if 0 ≤ 24 then (if 24 ≤ ((a2.extract ((ji11) : Int).toNat a2.size).size : Int) then (weirkeeperref08_Pieces.j2 k2 a0 a1 a2 t470 x10_2 x11_2 ((a2.extract ((ji11) : Int).toNat a2.size).extract 0 24) t471 t473 t475) else (none)) else (none)) else (weirkeeperref08_Pieces.j2 k2 a0 a1 a2 t470 x10_2 x11_2 (a2.extract ((ji11) : Int).toNat a2.size) t471 t473 t475)) = some (r1, r2) := H
                    have A16 := Aside0.mk A160
                    clear A160
                    have HC17 := Aside0.mk H
                    clear H
                    go_upto_if 69 with (first | ((with_reducible refine gate_callee (f := 56) rfl ?_); refine goesL_ (some 49) rfl rfl Try.func56 (by kernel_rfl) rfl #[.int .u64 (IntKind.u64.wrap (a0)), .int .i64 4] rfl (by (try simp only [List.map_toArray, List.map_cons, List.map_nil]); first | done | rfl | (simp only [List.length_drop, List.length_take]; rfl) | (simp only [ByteArray.size_extract, Nat.min_self, Nat.sub_zero]; rfl)) ?_; (with_reducible refine (weirkeeperref01_Num.calls k2 (IntKind.u64.wrap (a0)) 4 t471 t472 _ A14.out).mono ?_); rintro e w18 ⟨rfl, hb⟩; refine ⟨_, rfl, ?_⟩; have n0_ := Aside0.mk (Kd.R_below (by (with_reducible repeat (first | apply Kd.R_alloc | apply Kd.R_drewN | apply Kd.R_drew)); exact HO_10.out) hb); have n1_ := Aside0.mk (below_step (by repeat (first | (with_reducible first | exact HB.out | apply below_alloc | apply pw_below_drewN | apply below_drew1) | exact HB.out)) hb); clear HO_10; clear HB; have HO_10 := n0_; have HB := n1_; clear n0_ n1_; (try clear hb); (try clear hb2); (try clear hk); (try clear hi)) | ((with_reducible refine gate_callee (f := 56) rfl ?_); refine goesL_ (some 57) rfl rfl Try.func56 (by kernel_rfl) rfl #[.int .u64 (IntKind.u64.wrap (wrap64 (a1 + x11_2))), .int .i64 2] rfl (by (try simp only [List.map_toArray, List.map_cons, List.map_nil]); first | done | rfl | (simp only [List.length_drop, List.length_take]; rfl) | (simp only [ByteArray.size_extract, Nat.min_self, Nat.sub_zero]; rfl)) ?_; (with_reducible refine (weirkeeperref01_Num.calls k2 (IntKind.u64.wrap (wrap64 (a1 + x11_2))) 2 t473 t474 _ A15.out).mono ?_); rintro e w19 ⟨rfl, hb⟩; refine ⟨_, rfl, ?_⟩; have n0_ := Aside0.mk (Kd.R_below (by (with_reducible repeat (first | apply Kd.R_alloc | apply Kd.R_drewN | apply Kd.R_drew)); exact HO_10.out) hb); have n1_ := Aside0.mk (below_step (by repeat (first | (with_reducible first | exact HB.out | apply below_alloc | apply pw_below_drewN | apply below_drew1) | exact HB.out)) hb); clear HO_10; clear HB; have HO_10 := n0_; have HB := n1_; clear n0_ n1_; (try clear hb); (try clear hb2); (try clear hk); (try clear hi)) | ((with_reducible refine gate_callee (f := 56) rfl ?_); refine goesL_ (some 64) rfl rfl Try.func56 (by kernel_rfl) rfl #[.int .u64 (IntKind.u64.wrap (((a2.extract ((ji11) : Int).toNat a2.size).size : Int))), .int .i64 2] rfl (by (try simp only [List.map_toArray, List.map_cons, List.map_nil]); first | done | (simp only [hji11]; rfl) | rfl | (simp only [List.length_drop, List.length_take]; rfl) | (simp only [ByteArray.size_extract, Nat.min_self, Nat.sub_zero]; rfl)) ?_; (with_reducible refine (weirkeeperref01_Num.calls k2 (IntKind.u64.wrap (((a2.extract ((ji11) : Int).toNat a2.size).size : Int))) 2 t475 t476 _ A16.out).mono ?_); rintro e w20 ⟨rfl, hb⟩; refine ⟨_, rfl, ?_⟩; have n0_ := Aside0.mk (Kd.R_below (by (with_reducible repeat (first | apply Kd.R_alloc | apply Kd.R_drewN | apply Kd.R_drew)); exact HO_10.out) hb); have n1_ := Aside0.mk (below_step (by repeat (first | (with_reducible first | exact HB.out | apply below_alloc | apply pw_below_drewN | apply below_drew1) | exact HB.out)) hb); clear HO_10; clear HB; have HO_10 := n0_; have HB := n1_; clear n0_ n1_; (try clear hb); (try clear hb2); (try clear hk); (try clear hi)))
                    (try simp only [Act.put, List.setIfInBounds_toArray, List.set_cons_zero, List.set_cons_succ])
                    go_cut [12] (fun v12 wc => ∃ (kq : Nat) (x12_16 : ByteArray), v12 = .string x12_16 ∧ Aside0 (weirkeeperref08_Pieces.j2 kq a0 a1 a2 t470 x10_2 x11_2 x12_16 t471 t473 t475 = some (r1, r2)) ∧ Aside0 (kq ≤ k2) ∧ Aside0 (Kd.R Kd.string 9 wc w.heap.size (fun _ => True) u10 x10_2) ∧ Aside0 (Below w.heap.size w wc))
                    case first =>
                      have H := HC17.out
                      clear HC17
                      by_cases c21 : ((a2.extract ((ji11) : Int).toNat a2.size).size : Int) > 24
                      · rw [if_pos c21] at H
                        have c21b0 : decide (24 < ((a2.extract ((ji11) : Int).toNat a2.size).size : Int)) = true := decide_eq_true c21
                        try (have c21b09 := c21b0; simp only [ByteArray.size_extract, Nat.min_self, Nat.sub_zero, Int.toNat_natCast] at c21b09)
                        have c21b1 : decide (24 < (a2.extract ((ji11) : Int).toNat a2.size).size) = true := decide_eq_true (by omega)
                        try (have c21b19 := c21b1; simp only [ByteArray.size_extract, Nat.min_self, Nat.sub_zero, Int.toNat_natCast] at c21b19)
                        clear c21
                        (first | rw [c21b0] | rw [c21b09] | (simp only [i64_w, i32_w]; rw [c21b0]) | skip)
                        by_cases c22 : 0 ≤ 24
                        · rw [if_pos c22] at H
                          have c22b0 := eq_true c22
                          try (have c22b09 := c22b0; simp only [ByteArray.size_extract, Nat.min_self, Nat.sub_zero, Int.toNat_natCast] at c22b09)
                          have c22b1 : decide (0 ≤ 24) = true := decide_eq_true c22
                          clear c22
                          by_cases c23 : 24 ≤ ((a2.extract ((ji11) : Int).toNat a2.size).size : Int)
                          · rw [if_pos c23] at H
                            have c23b0 := eq_true c23
                            try (have c23b09 := c23b0; simp only [ByteArray.size_extract, Nat.min_self, Nat.sub_zero, Int.toNat_natCast] at c23b09)
                            have c23b1 : decide (24 ≤ ((a2.extract ((ji11) : Int).toNat a2.size).size : Int)) = true := decide_eq_true c23
                            try (have c23b19 := c23b1; simp only [ByteArray.size_extract, Nat.min_self, Nat.sub_zero, Int.toNat_natCast] at c23b19)
                            clear c23
                            have H' := Aside0.mk H
                            clear H
                            go_wp2
                            go_meet
                            case rel => exact ⟨_, ((a2.extract ((ji11) : Int).toNat a2.size).extract 0 24), (by first | rfl | (simp; done) | (simp only [← hji11] <;> (first | rfl | simp)) | (simp [*]; done)), H', ⟨by have := HJ4.out; have := HK2.out; first | omega | exact Nat.le_refl _⟩, ⟨by (with_reducible repeat (first | apply Kd.R_alloc | apply Kd.R_drewN | apply Kd.R_drew)); exact HO_10.out⟩, ⟨by repeat (first | (with_reducible first | exact HB.out | apply below_alloc | apply pw_below_drewN | apply below_drew1) | exact HB.out)⟩⟩
                          · rw [if_neg c23] at H
                            exact absurd H (by simp)
                        · rw [if_neg c22] at H
                          exact absurd H (by simp)
                      · rw [if_neg c21] at H
                        have c21b0 : decide (24 < ((a2.extract ((ji11) : Int).toNat a2.size).size : Int)) = false := decide_eq_false c21
                        try (have c21b09 := c21b0; simp only [ByteArray.size_extract, Nat.min_self, Nat.sub_zero, Int.toNat_natCast] at c21b09)
                        have c21b1 : decide (24 < (a2.extract ((ji11) : Int).toNat a2.size).size) = false := decide_eq_false (by omega)
                        try (have c21b19 := c21b1; simp only [ByteArray.size_extract, Nat.min_self, Nat.sub_zero, Int.toNat_natCast] at c21b19)
                        clear c21
                        (first | rw [c21b0] | rw [c21b09] | (simp only [i64_w, i32_w]; rw [c21b0]) | skip)
                        have H' := Aside0.mk H
                        clear H
                        go_wp2
                        go_meet
                        case rel => exact ⟨_, (a2.extract ((ji11) : Int).toNat a2.size), (by first | rfl | (simp; done) | (simp only [← hji11] <;> (first | rfl | simp)) | (simp [*]; done)), H', ⟨by have := HJ4.out; have := HK2.out; first | omega | exact Nat.le_refl _⟩, ⟨by (with_reducible repeat (first | apply Kd.R_alloc | apply Kd.R_drewN | apply Kd.R_drew)); exact HO_10.out⟩, ⟨by repeat (first | (with_reducible first | exact HB.out | apply below_alloc | apply pw_below_drewN | apply below_drew1) | exact HB.out)⟩⟩
                    case rest =>
                      clear HC17
                      try clear c1
                      try clear c2
                      try clear p2
                      try clear c3
                      try clear c5
                      try clear c6
                      try clear p6
                      try clear c7
                      try clear c9
                      try clear c9b0
                      try clear c10
                      try clear c10b0
                      try clear c12
                      try clear c12b0
                      try clear c12b1
                      try clear c13
                      try clear c13b0
                      try clear c13b1
                      try clear c21
                      try clear c21b0
                      try clear c21b1
                      try clear c22
                      try clear c22b0
                      try clear c22b1
                      try clear c23
                      try clear c23b0
                      try clear c23b1
                      try clear p2
                      try clear p6
                      obtain ⟨kq, x12_16, rfl, HA, HJ16, HO_10, HB⟩ := hcut
                      cases kq with
                      | zero => exact absurd HA.out (by simp [weirkeeperref08_Pieces.j2])
                      | succ kj16 =>
                        have H := HA.out
                        clear HA
                        simp only [weirkeeperref08_Pieces.j2] at H
                        by_cases c24 : t471.size + t473.size ≤ 9223372036854775807
                        · rw [if_pos c24] at H
                          have c24b0 := eq_true c24
                          try (have c24b09 := c24b0; simp only [ByteArray.size_extract, Nat.min_self, Nat.sub_zero, Int.toNat_natCast] at c24b09)
                          have c24b1 : decide (t471.size + t473.size ≤ 9223372036854775807) = true := decide_eq_true c24
                          try have c24b2 : (9223372036854775807 < t471.size + t473.size) = False := eq_false (Nat.not_lt.2 c24)
                          by_cases c25 : (t471 ++ t473).size + t475.size ≤ 9223372036854775807
                          · rw [if_pos c25] at H
                            have c25b0 := eq_true c25
                            try (have c25b09 := c25b0; simp only [ByteArray.size_extract, Nat.min_self, Nat.sub_zero, Int.toNat_natCast] at c25b09)
                            have c25b1 : decide ((t471 ++ t473).size + t475.size ≤ 9223372036854775807) = true := decide_eq_true c25
                            try have c25b2 : (9223372036854775807 < (t471 ++ t473).size + t475.size) = False := eq_false (Nat.not_lt.2 c25)
                            by_cases c26 : ((t471 ++ t473) ++ t475).size + x12_16.size ≤ 9223372036854775807
                            · rw [if_pos c26] at H
                              have c26b0 := eq_true c26
                              try (have c26b09 := c26b0; simp only [ByteArray.size_extract, Nat.min_self, Nat.sub_zero, Int.toNat_natCast] at c26b09)
                              have c26b1 : decide (((t471 ++ t473) ++ t475).size + x12_16.size ≤ 9223372036854775807) = true := decide_eq_true c26
                              try have c26b2 : (9223372036854775807 < ((t471 ++ t473) ++ t475).size + x12_16.size) = False := eq_false (Nat.not_lt.2 c26)
                              have H' := Aside0.mk H
                              clear H
                              go_wp2
                              go_loopg [19] kj16 (fun kq v19 w' => ∃ (x19_4 : ByteArray), v19 = .string x19_4 ∧ Aside0 (weirkeeperref08_Pieces.l1 kq a0 a1 a2 t470 x10_2 x11_2 x19_4 = some (r1, r2)) ∧ Aside0 (kq ≤ kj16) ∧ Aside0 (Kd.R Kd.string 9 w' w.heap.size (fun _ => True) u10 x10_2) ∧ Aside0 (Below w.heap.size w w'))
                              case atStart => exact ⟨(((t471 ++ t473) ++ t475) ++ x12_16), (by first | rfl | (simp; done) | (simp [*]; done)), H', ⟨Nat.le_refl _⟩, ⟨by (with_reducible repeat (first | apply Kd.R_alloc | apply Kd.R_drewN | apply Kd.R_drew)); exact HO_10.out⟩, ⟨by repeat (first | (with_reducible first | exact HB.out | apply below_alloc | apply pw_below_drewN | apply below_drew1) | exact HB.out)⟩⟩
                              case round =>
                                clear H'
                                try clear c1
                                try clear c2
                                try clear p2
                                try clear c3
                                try clear c5
                                try clear c6
                                try clear p6
                                try clear c7
                                try clear c9
                                try clear c9b0
                                try clear c10
                                try clear c10b0
                                try clear c12
                                try clear c12b0
                                try clear c12b1
                                try clear c13
                                try clear c13b0
                                try clear c13b1
                                try clear c21
                                try clear c21b0
                                try clear c21b1
                                try clear c22
                                try clear c22b0
                                try clear c22b1
                                try clear c23
                                try clear c23b0
                                try clear c23b1
                                try clear c24
                                try clear c24b0
                                try clear c24b1
                                try clear c24b2
                                try clear c25
                                try clear c25b0
                                try clear c25b1
                                try clear c25b2
                                try clear c26
                                try clear c26b0
                                try clear c26b1
                                try clear c26b2
                                try clear p2
                                try clear p6
                                obtain ⟨x19_4, rfl, HA, HK4, HO_10, HB⟩ := hrel
                                cases gk with
                                | zero => exact absurd HA.out (by simp [weirkeeperref08_Pieces.l1])
                                | succ k4 =>
                                  have H := HA.out
                                  clear HA
                                  simp only [weirkeeperref08_Pieces.l1] at H
                                  by_cases c27 : (x19_4.size : Int) < 32
                                  · rw [if_pos c27] at H
                                    have c27b0 : decide ((x19_4.size : Int) < 32) = true := decide_eq_true c27
                                    have c27b1 : decide (x19_4.size < 32) = true := decide_eq_true (by omega)
                                    clear c27
                                    by_cases c28 : x19_4.size + 1 ≤ 9223372036854775807
                                    · rw [if_pos c28] at H
                                      have c28b0 := eq_true c28
                                      try (have c28b09 := c28b0; simp only [ByteArray.size_extract, Nat.min_self, Nat.sub_zero, Int.toNat_natCast] at c28b09)
                                      have c28b1 : decide (x19_4.size + 1 ≤ 9223372036854775807) = true := decide_eq_true c28
                                      try have c28b2 : (9223372036854775807 < x19_4.size + 1) = False := eq_false (Nat.not_lt.2 c28)
                                      have H' := Aside0.mk H
                                      clear H
                                      go_wp2
                                      go_roundg k4
                                      case measure => have := HJ4.out; have := HK2.out; have := HJ16.out; have := HK4.out; omega
                                      case rel => exact ⟨(x19_4 ++ (⟨#[0]⟩ : ByteArray)), (by first | rfl | (simp; done) | (simp [*]; done)), H', ⟨by have := HJ4.out; have := HK2.out; have := HJ16.out; have := HK4.out; omega⟩, ⟨by (with_reducible repeat (first | apply Kd.R_alloc | apply Kd.R_drewN | apply Kd.R_drew)); exact HO_10.out⟩, ⟨by repeat (first | (with_reducible first | exact HB.out | apply below_alloc | apply pw_below_drewN | apply below_drew1) | exact HB.out)⟩⟩
                                    · rw [if_neg c28] at H
                                      exact absurd H (by simp)
                                  · rw [if_neg c27] at H
                                    have c27b0 : decide ((x19_4.size : Int) < 32) = false := decide_eq_false c27
                                    have c27b1 : decide (x19_4.size < 32) = false := decide_eq_false (by omega)
                                    clear c27
                                    by_cases c29 : x10_2.length < 8796093022208
                                    · rw [if_pos c29] at H
                                      have LMc29 := Aside0.mk c29
                                      clear c29
                                      obtain ⟨y477, hy477⟩ : ∃ y_ : List ByteArray, y_ = (x10_2 ++ [x19_4]) := ⟨_, rfl⟩
                                      replace H : (weirkeeperref08_Pieces.l0 k4 a0 a1 a2 t470 y477 (wrap64 (x11_2 + 1))) = some (r1, r2) := by first | (rw [hy477]; with_reducible exact H) | (have H2_ := (Option.bind_some _ _).symm.trans H; rw [hy477]; with_reducible exact H2_) | (have H2_ := (Option.bind_some _ _).symm.trans H; with_reducible exact H2_) | with_reducible exact H | (rw [hy477]; exact H) | exact H
                                      have Ny477 := Aside0.mk hy477
                                      clear hy477
                                      have H' := Aside0.mk H
                                      clear H
                                      go_wp2_with (first | ((with_reducible refine gate_builtin (b := .append) (xs := #[.tmp 84, .tmp 86]) rfl ?_); (try (refine gate_guard (by rfl) ?_; dsimp only)); at_builtin; refine Kd.R_append Kd.string (w0 := w) w.heap.size rfl (.tmp 84) (.tmp 86) 22 9 (.string ⟨#[]⟩) 16 rfl Try.underlying22 info9 rfl (by decide) (by omega) u10 x10_2 x19_4 [.string x19_4] (fun _ => True) (fun _ => False) rfl rfl ?aP (fun _ hk => hk.elim) ?aF ?aO ?aB ?aS ?aL ?_; (case aP => exact rfl); (case aB => exact (by repeat (first | (with_reducible first | exact HB.out | apply below_alloc | apply pw_below_drewN | apply below_drew1) | exact HB.out))); (case aF => exact (fun _ _ => trivial)); (case aO => exact (by (with_reducible repeat (first | apply Kd.R_alloc | apply Kd.R_drewN | apply Kd.R_drew)); exact HO_10.out)); (case aS => exact (below_size (by repeat (first | (with_reducible first | exact HB.out | apply below_alloc | apply pw_below_drewN | apply below_drew1) | exact HB.out)))); (case aL => have := LMc29.out; omega); intro v478 w30 ho hb hg hat; rw [← Ny477.out] at ho; have n0_ := Aside0.mk (hb); have n1_ := Aside0.mk (ho); clear HB; clear HO_10; have HB := n0_; have HO479 := n1_; clear n0_ n1_; clear ho hb hg hat))
                                      go_roundg k4
                                      case measure => have := HJ4.out; have := HK2.out; have := HJ16.out; have := HK4.out; omega
                                      case rel => exact ⟨(y477), (wrap64 (x11_2 + 1)), (by first | rfl | (simp; done) | (simp [*]; done)), H', ⟨by have := HJ4.out; have := HK2.out; have := HJ16.out; have := HK4.out; omega⟩, ⟨by (with_reducible repeat (first | apply Kd.R_alloc | apply Kd.R_drewN | apply Kd.R_drew)); exact HO479.out⟩, ⟨by repeat (first | (with_reducible first | exact HB.out | apply below_alloc | apply pw_below_drewN | apply below_drew1) | exact HB.out)⟩⟩
                                    · rw [if_neg c29] at H
                                      exact absurd H (by simp)
                            · rw [if_neg c26] at H
                              exact absurd H (by simp)
                          · rw [if_neg c25] at H
                            exact absurd H (by simp)
                        · rw [if_neg c24] at H
                          exact absurd H (by simp)
                  · rw [if_neg c13] at H
                    exact absurd H (by simp)
                · rw [if_neg c12] at H
                  exact absurd H (by simp)
              · rw [if_neg c10] at H
                have c10b0 : decide (x11_2 < t470) = false := decide_eq_false c10
                clear c10
                simp only [Option.some.injEq, Prod.mk.injEq] at H
                obtain ⟨rfl, rfl⟩ := H
                go_wp2
                go_ret2
                exact ⟨_, by first | rfl | (simp [errW_none, errW_some] <;> rfl) | (simp [*, errW_none, errW_some] <;> rfl), by (with_reducible repeat (first | apply Kd.R_alloc | apply Kd.R_drewN | apply Kd.R_drew)); exact HO_10.out, by repeat (first | (with_reducible first | exact HB.out | apply below_alloc | apply pw_below_drewN | apply below_drew1) | exact HB.out)⟩

end Go.Proofs.Ytpkapldkmleppaa.F
