import Derived.Test.YthcohkgpbjcliaaFPre
namespace Go.Proofs.Ythcohkgpbjcliaa.F
open Go.RowKit Go.Proofs.YthcohkgpbjcliaaW.PrintWords Go.Proofs.YthcohkgpbjcliaaW.PrintLast Go.Proofs.YthcohkgpbjcliaaW.PrintMore
attribute [local go_sem] max2_int min2_int max_two min_two max_three min_three max_four min_four
set_option linter.unusedVariables false
set_option linter.unusedSimpArgs false
def weirkeeperref02_bit.f (a0 : Int) (a1 : Int) : Option (Int) := if (((((Int.tdiv a0 8388608) % 4294967296) % 2) + a1) % 4294967296) = 1 then (some (Go.bits .xor .u32 (((a0 * 2) % 4294967296) % 16777216) 8801531)) else (some (((a0 * 2) % 4294967296) % 16777216))
set_option maxHeartbeats 8000000 in
set_option maxRecDepth 100000 in
theorem weirkeeperref02_bit.calls (a0 : Int) (a1 : Int) (r : Int) (w : World) (h : weirkeeperref02_bit.f a0 a1 = some r) :
  Calls Try.prog 107 #[.int .u32 a0, .int .u32 a1] w fun e w' => e = .returned (.int .u32 r) ∧ Drawn0 w w' := by
 have H : (if (((((Int.tdiv a0 8388608) % 4294967296) % 2) + a1) % 4294967296) = 1 then (some (Go.bits .xor .u32 (((a0 * 2) % 4294967296) % 16777216) 8801531)) else (some (((a0 * 2) % 4294967296) % 16777216))) = some r := h
 clear h
 by_cases c3 : (((((Int.tdiv a0 8388608) % 4294967296) % 2) + a1) % 4294967296) = 1
 ·rw [if_pos c3] at H
  have c3b0 : ((((((Int.tdiv a0 8388608) % 4294967296) % 2) + a1) % 4294967296) == 1) = true := beq_iff_eq.mpr c3
  have c3b1 : ((((((Int.tdiv a0 8388608) % 4294967296) % 2) + a1) % 4294967296) != 1) = false := bne_eq_false_iff_eq.mpr c3
  clear c3
  obtain rfl := Option.some.inj H
  go_enter Try.func107, Try.ntmps107
  go_wp2
  go_ret
  exact ⟨by first | rfl | (simp; done) | (simp [*]; done), by repeat (first | exact Drawn0.refl _ | apply Drawn0.step)⟩
 ·rw [if_neg c3] at H
  have c3b0 : ((((((Int.tdiv a0 8388608) % 4294967296) % 2) + a1) % 4294967296) == 1) = false := beq_eq_false_iff_ne.mpr c3
  have c3b1 : ((((((Int.tdiv a0 8388608) % 4294967296) % 2) + a1) % 4294967296) != 1) = true := bne_iff_ne.mpr c3
  obtain rfl := Option.some.inj H
  go_enter Try.func107, Try.ntmps107
  go_wp2
  go_ret
  exact ⟨by first | rfl | (simp; done) | (simp [*]; done), by repeat (first | exact Drawn0.refl _ | apply Drawn0.step)⟩
mutual
def weirkeeperref02_More.l0 : Nat → Int → ByteArray → Int → Option (Int)
 | 0, _, _, _ => none
 | k + 1, x0, x1, x5 => if x5 < (x1.size : Int) then (weirkeeperref02_More.l1 k x0 x1 x5 7) else (some x0)
def weirkeeperref02_More.l1 : Nat → Int → ByteArray → Int → Int → Option (Int)
 | 0, _, _, _, _ => none
 | k + 1, x0, x1, x5, x6 => if x6 ≥ 0 then (if 0 ≤ x5 then (if x5 < (x1.size : Int) then (if 0 ≤ (IntKind.u64.wrap (x6)) then ((weirkeeperref02_bit.f x0 ((Int.tmod (shr .u8 (bt x1 x5) (IntKind.u64.wrap (x6))) 2) % 4294967296)).bind fun t279 => (weirkeeperref02_More.l1 k t279 x1 x5 (wrap64 (x6 - 1)))) else (none)) else (none)) else (none)) else (weirkeeperref02_More.l0 k x0 x1 (wrap64 (x5 + 1)))
end
def weirkeeperref02_More.f (k : Nat) (a0 : Int) (a1 : ByteArray) : Option (Int) := weirkeeperref02_More.l0 k (Int.tmod a0 16777216) a1 0
theorem weirkeeperref02_More.mono_l : ∀ k, (∀ y0 y1 y2, LeO (weirkeeperref02_More.l0 k y0 y1 y2) (weirkeeperref02_More.l0 (k + 1) y0 y1 y2)) ∧ (∀ y0 y1 y2 y3, LeO (weirkeeperref02_More.l1 k y0 y1 y2 y3) (weirkeeperref02_More.l1 (k + 1) y0 y1 y2 y3))
 | 0 => ⟨fun _ _ _ r h => by simp [weirkeeperref02_More.l0] at h, fun _ _ _ _ r h => by simp [weirkeeperref02_More.l1] at h⟩
 | k + 1 => by
  obtain ⟨ih0, ih1⟩ := weirkeeperref02_More.mono_l k
  refine ⟨?_, ?_⟩
  ·intro y0 y1 y2
   unfold weirkeeperref02_More.l0
   repeat' first
   | (with_reducible exact ih0 _ _ _)
   | (with_reducible exact ih1 _ _ _ _)
   | (with_reducible exact LeO.refl _)
   | (with_reducible exact LeO.none _)
   | (with_reducible refine LeO.ite ?_ ?_)
   | (with_reducible refine LeO.bind ?_ (fun _ => ?_))
   | exact ih0 _ _ _
   | exact ih1 _ _ _ _
   | exact LeO.none _
   | refine LeO.ite ?_ ?_
   | refine LeO.bind ?_ (fun _ => ?_)
  ·intro y0 y1 y2 y3
   unfold weirkeeperref02_More.l1
   repeat' first
   | (with_reducible exact ih0 _ _ _)
   | (with_reducible exact ih1 _ _ _ _)
   | (with_reducible exact LeO.refl _)
   | (with_reducible exact LeO.none _)
   | (with_reducible refine LeO.ite ?_ ?_)
   | (with_reducible refine LeO.bind ?_ (fun _ => ?_))
   | exact ih0 _ _ _
   | exact ih1 _ _ _ _
   | exact LeO.none _
   | refine LeO.ite ?_ ?_
   | refine LeO.bind ?_ (fun _ => ?_)
theorem weirkeeperref02_More.mono : ∀ a0 a1 k, LeO (weirkeeperref02_More.f k a0 a1) (weirkeeperref02_More.f (k + 1) a0 a1) := by
 intro a0 a1 k
 obtain ⟨ih0, ih1⟩ := weirkeeperref02_More.mono_l k
 unfold weirkeeperref02_More.f
 repeat' first
   | (with_reducible exact ih0 _ _ _)
   | (with_reducible exact ih1 _ _ _ _)
   | (with_reducible exact LeO.refl _)
   | (with_reducible exact LeO.none _)
   | (with_reducible refine LeO.ite ?_ ?_)
   | (with_reducible refine LeO.bind ?_ (fun _ => ?_))
   | exact ih0 _ _ _
   | exact ih1 _ _ _ _
   | exact LeO.none _
   | refine LeO.ite ?_ ?_
   | refine LeO.bind ?_ (fun _ => ?_)
set_option maxHeartbeats 8000000 in
set_option maxRecDepth 100000 in
theorem weirkeeperref02_More.calls (k : Nat) (a0 : Int) (a1 : ByteArray) (r : Int) (w : World) (h : weirkeeperref02_More.f k a0 a1 = some r) :
  Calls Try.prog 91 #[.int .u32 a0, .string a1] w fun e w' => e = .returned (.int .u32 r) ∧ Drawn0 w w' := by
 have H : (weirkeeperref02_More.l0 k (Int.tmod a0 16777216) a1 0) = some r := h
 clear h
 have H' := Aside0.mk H
 clear H
 go_enter Try.func91, Try.ntmps91
 go_wp2
 go_loopg [0, 5] k (fun kq v0 v5 w' => ∃ (x0_1 : Int) (x5_1 : Int), v0 = .int .u32 x0_1 ∧ v5 = .int .i64 x5_1 ∧ Aside0 (weirkeeperref02_More.l0 kq x0_1 a1 x5_1 = some r) ∧ Aside0 (kq ≤ k) ∧ Drawn0 w w')
 case atStart => exact ⟨(Int.tmod a0 16777216), (0), (by first | rfl | (simp; done) | (simp [*]; done)), (by first | rfl | (simp; done) | (simp [*]; done)), H', ⟨Nat.le_refl _⟩, by repeat (first | exact Drawn0.refl _ | apply Drawn0.step)⟩
 case round =>
  clear H'
  try clear p2
  obtain ⟨x0_1, x5_1, rfl, rfl, HA, HK1, ⟨m1, rfl⟩⟩ := hrel
  cases gk with
  | zero => exact absurd HA.out (by simp [weirkeeperref02_More.l0])
  | succ k1 =>
   have H := HA.out
   clear HA
   simp only [weirkeeperref02_More.l0] at H
   by_cases c3 : x5_1 < (a1.size : Int)
   ·rw [if_pos c3] at H
    have c3b0 : decide (x5_1 < (a1.size : Int)) = true := decide_eq_true c3
    clear c3
    have H' := Aside0.mk H
    clear H
    go_wp2
    go_loopg [0, 6] k1 (fun kq v0 v6 w' => ∃ (x0_2 : Int) (x6_2 : Int), v0 = .int .u32 x0_2 ∧ v6 = .int .i64 x6_2 ∧ Aside0 (weirkeeperref02_More.l1 kq x0_2 a1 x5_1 x6_2 = some r) ∧ Aside0 (kq ≤ k1) ∧ Drawn0 w w')
    case atStart => exact ⟨(x0_1), (7), (by first | rfl | (simp; done) | (simp [*]; done)), (by first | rfl | (simp; done) | (simp [*]; done)), H', ⟨Nat.le_refl _⟩, by repeat (first | exact Drawn0.refl _ | apply Drawn0.step)⟩
    case round =>
     clear H'
     try clear p2
     try clear c3
     try clear c3b0
     try clear p2
     obtain ⟨x0_2, x6_2, rfl, rfl, HA, HK2, ⟨m2, rfl⟩⟩ := hrel
     cases gk with
     | zero => exact absurd HA.out (by simp [weirkeeperref02_More.l1])
     | succ k2 =>
      have H := HA.out
      clear HA
      simp only [weirkeeperref02_More.l1] at H
      by_cases c4 : x6_2 ≥ 0
      ·rw [if_pos c4] at H
       have c4b0 : decide (0 ≤ x6_2) = true := decide_eq_true c4
       clear c4
       by_cases c5 : 0 ≤ x5_1
       ·rw [if_pos c5] at H
        have c5b0 : decide (0 ≤ x5_1) = true := decide_eq_true c5
        clear c5
        by_cases c6 : x5_1 < (a1.size : Int)
        ·rw [if_pos c6] at H
         have c6b0 : decide (x5_1 < (a1.size : Int)) = true := decide_eq_true c6
         clear c6
         obtain ⟨ji8, hji8⟩ : ∃ j_ : Int, (IntKind.u64.wrap (x6_2)) = j_ := ⟨_, rfl⟩
         replace H : (if 0 ≤ (ji8) then ((weirkeeperref02_bit.f x0_2 ((Int.tmod (shr .u8 (bt a1 x5_1) (ji8)) 2) % 4294967296)).bind fun t279 => (weirkeeperref02_More.l1 k2 t279 a1 x5_1 (wrap64 (x6_2 - 1)))) else (none)) = some r := by first | (rw [hji8] at H; exact H) | (simp only [hji8] at H ⊢; exact H)
         by_cases c9 : 0 ≤ (ji8)
         ·rw [if_pos c9] at H
          have c9b0 := eq_true c9
          have c9b1 : decide (0 ≤ (ji8)) = true := decide_eq_true c9
          clear c9
          obtain ⟨ji10, hji10⟩ : ∃ j_ : Int, (shr .u8 (bt a1 x5_1) (ji8)) = j_ := ⟨_, rfl⟩
          replace H : ((weirkeeperref02_bit.f x0_2 ((Int.tmod (ji10) 2) % 4294967296)).bind fun t279 => (weirkeeperref02_More.l1 k2 t279 a1 x5_1 (wrap64 (x6_2 - 1)))) = some r := by first | (rw [hji10] at H; exact H) | (simp only [hji10] at H ⊢; exact H)
          have hji10_ : ((bt a1 x5_1) / 2 ^ min (ji8).toNat 8) = ji10 := hji10
          have hji10z : (ji8) ≤ 8 → ((bt a1 x5_1) / 2 ^ (ji8).toNat) = ji10 := shr_small hji10
          replace H := Option.bind_eq_some_iff.mp H
          obtain ⟨t279, A110, H⟩ := H
          try dsimp only at H
          have A11 := Aside0.mk A110
          clear A110
          have H' := Aside0.mk H
          clear H
          have p7 : 0 ≤ (x5_1 : Int) := of_decide_eq_true (by first | (with_reducible assumption) | assumption)
          have q7 : x5_1 < (a1.size : Int) := of_decide_eq_true (by first | (with_reducible assumption) | assumption)
          have hx7 := bt_at a1 x5_1
          replace p7 := eq_true p7
          replace q7 := eq_true q7
          go_wp2_with (first | ((with_reducible refine gate_callee (f := 107) rfl ?_); refine goesL_ (some 28) rfl rfl Try.func107 (by kernel_rfl) rfl #[.int .u32 x0_2, .int .u32 ((Int.tmod (ji10) 2) % 4294967296)] rfl (by (try simp only [List.map_toArray, List.map_cons, List.map_nil]); first | done | (simp only [hji10]; rfl) | rfl | (simp only [List.length_drop, List.length_take]; rfl)) ?_; (with_reducible refine (weirkeeperref02_bit.calls x0_2 ((Int.tmod (ji10) 2) % 4294967296) t279 _ A11.out).mono ?_); rintro e w' ⟨rfl, ⟨nd, rfl⟩⟩; refine ⟨_, rfl, ?_⟩))
          go_roundg k2
          case measure => have := HK1.out; have := HK2.out; omega
          case rel => exact ⟨(t279), (wrap64 (x6_2 - 1)), (by first | rfl | (simp; done) | (simp [*]; done)), (by first | rfl | (simp; done) | (simp [*]; done)), H', ⟨by have := HK1.out; have := HK2.out; omega⟩, by repeat (first | exact Drawn0.refl _ | apply Drawn0.step)⟩
         ·rw [if_neg c9] at H
          exact absurd H (by simp)
        ·rw [if_neg c6] at H
         exact absurd H (by simp)
       ·rw [if_neg c5] at H
        exact absurd H (by simp)
      ·rw [if_neg c4] at H
       have c4b0 : decide (0 ≤ x6_2) = false := decide_eq_false c4
       clear c4
       have H' := Aside0.mk H
       clear H
       go_wp2
       go_roundg k2
       case measure => have := HK1.out; have := HK2.out; omega
       case rel => exact ⟨(x0_2), (wrap64 (x5_1 + 1)), (by first | rfl | (simp; done) | (simp [*]; done)), (by first | rfl | (simp; done) | (simp [*]; done)), H', ⟨by have := HK1.out; have := HK2.out; omega⟩, by repeat (first | exact Drawn0.refl _ | apply Drawn0.step)⟩
   ·rw [if_neg c3] at H
    have c3b0 : decide (x5_1 < (a1.size : Int)) = false := decide_eq_false c3
    clear c3
    obtain rfl := Option.some.inj H
    go_wp2
    go_ret
    exact ⟨by first | rfl | (simp; done) | (simp [*]; done), by repeat (first | exact Drawn0.refl _ | apply Drawn0.step)⟩
def weirkeeperref02_Sum.f (k : Nat) (a0 : ByteArray) : Option (Int) := (weirkeeperref02_More.f k 11994318 a0).bind fun t280 => (some t280)
theorem weirkeeperref02_Sum.mono : ∀ a0 k, LeO (weirkeeperref02_Sum.f k a0) (weirkeeperref02_Sum.f (k + 1) a0) := by
 intro a0 k
 unfold weirkeeperref02_Sum.f
 repeat' first
   | (with_reducible exact weirkeeperref02_More.mono _ _ _)
   | (with_reducible exact LeO.refl _)
   | (with_reducible exact LeO.none _)
   | (with_reducible refine LeO.ite ?_ ?_)
   | (with_reducible refine LeO.bind ?_ (fun _ => ?_))
   | exact LeO.none _
   | refine LeO.ite ?_ ?_
   | refine LeO.bind ?_ (fun _ => ?_)
set_option maxHeartbeats 8000000 in
set_option maxRecDepth 100000 in
theorem weirkeeperref02_Sum.calls (k : Nat) (a0 : ByteArray) (r : Int) (w : World) (h : weirkeeperref02_Sum.f k a0 = some r) :
  Calls Try.prog 74 #[.string a0] w fun e w' => e = .returned (.int .u32 r) ∧ Drawn0 w w' := by
 have H : ((weirkeeperref02_More.f k 11994318 a0).bind fun t280 => (some t280)) = some r := h
 clear h
 replace H := Option.bind_eq_some_iff.mp H
 obtain ⟨t280, A20, H⟩ := H
 try dsimp only at H
 have A2 := Aside0.mk A20
 clear A20
 obtain rfl := Option.some.inj H
 go_enter Try.func74, Try.ntmps74
 go_wp2_with (first | ((with_reducible refine gate_callee (f := 91) rfl ?_); refine goesL_ (some 4) rfl rfl Try.func91 (by kernel_rfl) rfl #[.int .u32 11994318, .string a0] rfl (by (try simp only [List.map_toArray, List.map_cons, List.map_nil]); first | done | rfl | (simp only [List.length_drop, List.length_take]; rfl)) ?_; (with_reducible refine (weirkeeperref02_More.calls k 11994318 a0 t280 _ A2.out).mono ?_); rintro e w' ⟨rfl, ⟨nd, rfl⟩⟩; refine ⟨_, rfl, ?_⟩))
 go_ret
 exact ⟨by first | rfl | (simp; done) | (simp [*]; done), by repeat (first | exact Drawn0.refl _ | apply Drawn0.step)⟩
end Go.Proofs.Ythcohkgpbjcliaa.F
