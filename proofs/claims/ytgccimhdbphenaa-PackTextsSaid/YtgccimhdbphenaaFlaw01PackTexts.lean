/- Contracts of Go functions of the seat Ytgccimhdbphenaa: what a call comes to; no condition but those that each theorem names. -/
import Derived.Test.YtgccimhdbphenaaFPre
import Derived.Test.YtgccimhdbphenaaFpack
import Derived.Test.YtgccimhdbphenaaFlaw01awake
import Derived.Test.YtgccimhdbphenaaFref01
namespace Go.Proofs.Ytgccimhdbphenaa.F
open Go.RowKit Go.Proofs.YtgccimhdbphenaaW.PrintWords Go.Proofs.YtgccimhdbphenaaW.PrintLast Go.Proofs.YtgccimhdbphenaaW.PrintMore
attribute [local go_sem] max2_int min2_int max_two min_two max_three min_three max_four min_four   -- for this text's walks alone
set_option linter.unusedVariables false
set_option linter.unusedSimpArgs false

/-! ### weirkeeperlaw01_PackTexts: function 4 -/
mutual
def weirkeeperlaw01_PackTexts.j0 : Nat → List ByteArray → ByteArray → Bool → Option (Bool)
  | 0, _, _, _ => none
  | k + 1, x0, x1, x28 => if x28 = true then ((weirkeeperlaw01_awake.f k).bind fun t171 => (some t171)) else (weirkeeperlaw01_PackTexts.l0 k x0 x1 x0 (x0.length : Int) 0)
def weirkeeperlaw01_PackTexts.l0 : Nat → List ByteArray → ByteArray → List ByteArray → Int → Int → Option (Bool)
  | 0, _, _, _, _, _ => none
  | k + 1, x0, x1, x30, x31, x32 => if x32 < x31 then (if 0 ≤ x32 then (if x32 < (x30.length : Int) then (if ((rdOf ByteArray.empty x30 x32).size : Int) > 300 then ((weirkeeperlaw01_awake.f k).bind fun t173 => (some t173)) else (weirkeeperlaw01_PackTexts.l0 k x0 x1 x30 x31 (wrap64 (x32 + 1)))) else (none)) else (none)) else ((pack_Texts.f k x0).bind fun bt174 => ((weirkeeperref01_Texts.f k x0).bind fun bt176 => ((pack_TakeText.f k x1).bind fun bt178 => ((weirkeeperref01_TakeText.f x1).bind fun bt181 => ((pack_Parts.f k x1).bind fun bt184 => ((weirkeeperref01_Parts.f k x1).bind fun bt188 => (if bt174.1.toList = bt176.1.toList then (if bt174.2 = bt176.2 then (if bt178.1.toList = bt181.1.toList then (if bt178.2.1.toList = bt181.2.1.toList then (if bt178.2.2 = bt181.2.2 then ((weirkeeperref01_Same.f k bt184.1 bt188.1).bind fun t192 => (if t192 = true then (if bt184.2 = bt188.2 then ((weirkeeperlaw01_awake.f k).bind fun t193 => (some t193)) else (some false)) else (some false))) else (some false)) else (some false)) else (some false)) else (some false)) else (some false))))))))
end
def weirkeeperlaw01_PackTexts.f (k : Nat) (l0 : List ByteArray) (a1 : ByteArray) : Option (Bool) := if (l0.length : Int) > 30 then (weirkeeperlaw01_PackTexts.j0 k l0 a1 true) else (weirkeeperlaw01_PackTexts.j0 k l0 a1 (decide ((a1.size : Int) > 300)))
theorem weirkeeperlaw01_PackTexts.mono_l : ∀ k, (∀ y0 y1 y2, LeO (weirkeeperlaw01_PackTexts.j0 k y0 y1 y2) (weirkeeperlaw01_PackTexts.j0 (k + 1) y0 y1 y2)) ∧ (∀ y0 y1 y2 y3 y4, LeO (weirkeeperlaw01_PackTexts.l0 k y0 y1 y2 y3 y4) (weirkeeperlaw01_PackTexts.l0 (k + 1) y0 y1 y2 y3 y4))
  | 0 => ⟨fun _ _ _ r h => by simp [weirkeeperlaw01_PackTexts.j0] at h, fun _ _ _ _ _ r h => by simp [weirkeeperlaw01_PackTexts.l0] at h⟩
  | k + 1 => by
    obtain ⟨ih0, ih1⟩ := weirkeeperlaw01_PackTexts.mono_l k
    refine ⟨?_, ?_⟩
    · intro y0 y1 y2
      unfold weirkeeperlaw01_PackTexts.j0
      repeat' first
      | (with_reducible exact ih0 _ _ _)
      | (with_reducible exact ih1 _ _ _ _ _)
      | (with_reducible exact pack_Parts.mono _ _)
      | (with_reducible exact pack_TakeText.mono _ _)
      | (with_reducible exact pack_Texts.mono _ _)
      | (with_reducible exact weirkeeperlaw01_awake.mono _)
      | (with_reducible exact weirkeeperref01_Parts.mono _ _)
      | (with_reducible exact weirkeeperref01_Same.mono _ _ _)
      | (with_reducible exact weirkeeperref01_Texts.mono _ _)
      | (with_reducible exact LeO.refl _)
      | (with_reducible exact LeO.none _)
      | (with_reducible refine LeO.ite ?_ ?_)
      | (with_reducible refine LeO.bind ?_ (fun _ => ?_))
      | exact ih0 _ _ _
      | exact ih1 _ _ _ _ _
      | exact pack_Parts.mono _ _
      | exact pack_TakeText.mono _ _
      | exact pack_Texts.mono _ _
      | exact weirkeeperlaw01_awake.mono _
      | exact weirkeeperref01_Parts.mono _ _
      | exact weirkeeperref01_Same.mono _ _ _
      | exact weirkeeperref01_Texts.mono _ _
      | exact LeO.none _
      | refine LeO.ite ?_ ?_
      | refine LeO.bind ?_ (fun _ => ?_)
    · intro y0 y1 y2 y3 y4
      unfold weirkeeperlaw01_PackTexts.l0
      repeat' first
      | (with_reducible exact ih0 _ _ _)
      | (with_reducible exact ih1 _ _ _ _ _)
      | (with_reducible exact pack_Parts.mono _ _)
      | (with_reducible exact pack_TakeText.mono _ _)
      | (with_reducible exact pack_Texts.mono _ _)
      | (with_reducible exact weirkeeperlaw01_awake.mono _)
      | (with_reducible exact weirkeeperref01_Parts.mono _ _)
      | (with_reducible exact weirkeeperref01_Same.mono _ _ _)
      | (with_reducible exact weirkeeperref01_Texts.mono _ _)
      | (with_reducible exact LeO.refl _)
      | (with_reducible exact LeO.none _)
      | (with_reducible refine LeO.ite ?_ ?_)
      | (with_reducible refine LeO.bind ?_ (fun _ => ?_))
      | exact ih0 _ _ _
      | exact ih1 _ _ _ _ _
      | exact pack_Parts.mono _ _
      | exact pack_TakeText.mono _ _
      | exact pack_Texts.mono _ _
      | exact weirkeeperlaw01_awake.mono _
      | exact weirkeeperref01_Parts.mono _ _
      | exact weirkeeperref01_Same.mono _ _ _
      | exact weirkeeperref01_Texts.mono _ _
      | exact LeO.none _
      | refine LeO.ite ?_ ?_
      | refine LeO.bind ?_ (fun _ => ?_)
theorem weirkeeperlaw01_PackTexts.mono : ∀ a0 a1 k, LeO (weirkeeperlaw01_PackTexts.f k a0 a1) (weirkeeperlaw01_PackTexts.f (k + 1) a0 a1) := by
  intro a0 a1 k
  obtain ⟨ih0, ih1⟩ := weirkeeperlaw01_PackTexts.mono_l k
  unfold weirkeeperlaw01_PackTexts.f
  repeat' first
      | (with_reducible exact ih0 _ _ _)
      | (with_reducible exact ih1 _ _ _ _ _)
      | (with_reducible exact pack_Parts.mono _ _)
      | (with_reducible exact pack_TakeText.mono _ _)
      | (with_reducible exact pack_Texts.mono _ _)
      | (with_reducible exact weirkeeperlaw01_awake.mono _)
      | (with_reducible exact weirkeeperref01_Parts.mono _ _)
      | (with_reducible exact weirkeeperref01_Same.mono _ _ _)
      | (with_reducible exact weirkeeperref01_Texts.mono _ _)
      | (with_reducible exact LeO.refl _)
      | (with_reducible exact LeO.none _)
      | (with_reducible refine LeO.ite ?_ ?_)
      | (with_reducible refine LeO.bind ?_ (fun _ => ?_))
      | exact ih0 _ _ _
      | exact ih1 _ _ _ _ _
      | exact pack_Parts.mono _ _
      | exact pack_TakeText.mono _ _
      | exact pack_Texts.mono _ _
      | exact weirkeeperlaw01_awake.mono _
      | exact weirkeeperref01_Parts.mono _ _
      | exact weirkeeperref01_Same.mono _ _ _
      | exact weirkeeperref01_Texts.mono _ _
      | exact LeO.none _
      | refine LeO.ite ?_ ?_
      | refine LeO.bind ?_ (fun _ => ?_)
set_option maxHeartbeats 8000000 in
set_option maxRecDepth 100000 in
theorem weirkeeperlaw01_PackTexts.calls (k : Nat) (A0 : Option Addr) (c0 : Nat) (l0 : List ByteArray) (a1 : ByteArray) (w : World) (hr0 : Kd.C Kd.string w A0 l0.length l0) (hc0 : l0.length ≤ c0) (h : weirkeeperlaw01_PackTexts.f k l0 a1 = some true) :
    Calls Try.prog 4 #[.slice A0 l0.length c0, .string a1] w fun e w' => e = .returned (.bool true) ∧ Below w.heap.size w w' := by
  have HR0 := Aside0.mk hr0
  have HC0 := Aside0.mk hc0
  clear hr0 hc0
  have HB := Aside0.mk (Below.refl w.heap.size w)
  have H : (if (l0.length : Int) > 30 then (weirkeeperlaw01_PackTexts.j0 k l0 a1 true) else (weirkeeperlaw01_PackTexts.j0 k l0 a1 (decide ((a1.size : Int) > 300)))) = some true := h
  clear h
  have HC3 := Aside0.mk H
  clear H
  go_enter Try.func4, Try.ntmps4
  go_upto_region 1 with (fail)
  go_cut [28] (fun v28 wc => ∃ (kq : Nat) (x28_2 : Bool), v28 = .bool x28_2 ∧ Aside0 (weirkeeperlaw01_PackTexts.j0 kq l0 a1 x28_2 = some true) ∧ Aside0 (kq ≤ k) ∧ Aside0 (Below w.heap.size w wc))
  case first =>
    have H := HC3.out
    clear HC3
    by_cases c4 : (l0.length : Int) > 30
    · rw [if_pos c4] at H
      have c4b0 : decide (30 < (l0.length : Int)) = true := decide_eq_true c4
      have c4b1 : decide (30 < l0.length) = true := decide_eq_true (by omega)
      clear c4
      (first | rw [c4b0] | (simp only [i64_w, i32_w]; rw [c4b0]) | skip)
      have H' := Aside0.mk H
      clear H
      go_wp2
      go_meet
      case rel => exact ⟨_, (true), (by first | rfl | (simp; done) | (simp [*]; done)), H', ⟨by first | omega | exact Nat.le_refl _⟩, ⟨by repeat (first | (with_reducible first | exact HB.out | apply below_alloc | apply pw_below_drewN | apply below_drew1) | exact HB.out)⟩⟩
    · rw [if_neg c4] at H
      have c4b0 : decide (30 < (l0.length : Int)) = false := decide_eq_false c4
      have c4b1 : decide (30 < l0.length) = false := decide_eq_false (by omega)
      clear c4
      (first | rw [c4b0] | (simp only [i64_w, i32_w]; rw [c4b0]) | skip)
      have H' := Aside0.mk H
      clear H
      go_wp2
      go_meet
      case rel => exact ⟨_, (decide ((a1.size : Int) > 300)), (by first | rfl | (simp; done) | (simp [*]; done)), H', ⟨by first | omega | exact Nat.le_refl _⟩, ⟨by repeat (first | (with_reducible first | exact HB.out | apply below_alloc | apply pw_below_drewN | apply below_drew1) | exact HB.out)⟩⟩
  case rest =>
    clear HC3
    try clear p2
    try clear c4
    try clear c4b0
    try clear c4b1
    obtain ⟨kq, x28_2, rfl, HA, HJ2, HB⟩ := hcut
    cases kq with
    | zero => exact absurd HA.out (by simp [weirkeeperlaw01_PackTexts.j0])
    | succ kj2 =>
      have H := HA.out
      clear HA
      simp only [weirkeeperlaw01_PackTexts.j0] at H
      by_cases c5 : x28_2 = true
      · subst c5
        have H1 : ((weirkeeperlaw01_awake.f kj2).bind fun t171 => (some t171)) = some true := by rw [if_pos rfl] at H; exact H
        clear H
        have H := H1
        clear H1
        replace H := Option.bind_eq_some_iff.mp H
        obtain ⟨t171, A60, H⟩ := H
        replace H : (some t171) = some true := H
        have A6 := Aside0.mk A60
        clear A60
        (have H9_ := Option.some.inj H; first | subst H9_ | clear H9_)
        go_wp2_with (first | ((with_reducible refine gate_callee (f := 15) rfl ?_); refine goesL_ (some 29) rfl rfl Try.func15 (by kernel_rfl) rfl #[] rfl (by (try simp only [List.map_toArray, List.map_cons, List.map_nil]); first | done | rfl | (simp only [List.length_drop, List.length_take]; rfl)) ?_; (with_reducible refine (weirkeeperlaw01_awake.calls kj2 _ A6.out).mono ?_); rintro e w7 ⟨rfl, hb⟩; refine ⟨_, rfl, ?_⟩; have n0_ := Aside0.mk (below_step (by repeat (first | (with_reducible first | exact HB.out | apply below_alloc | apply pw_below_drewN | apply below_drew1) | exact HB.out)) hb); clear HB; have HB := n0_; clear n0_; (try clear hb); (try clear hb2); (try clear hk); (try clear hi)))
        go_ret
        exact ⟨by first | rfl | (simp [errW_none, errW_some] <;> rfl) | (simp [*, errW_none, errW_some] <;> rfl), by repeat (first | (with_reducible first | exact HB.out | apply below_alloc | apply pw_below_drewN | apply below_drew1) | exact HB.out)⟩
      · replace c5 := Bool.eq_false_iff.mpr c5
        subst c5
        have H1 : (weirkeeperlaw01_PackTexts.l0 kj2 l0 a1 l0 (l0.length : Int) 0) = some true := by rw [if_neg (show ¬ (false = true) by decide)] at H; exact H
        clear H
        have H := H1
        clear H1
        have H' := Aside0.mk H
        clear H
        go_wp2
        go_loopg [32] kj2 (fun kq v32 w' => ∃ (x32_2 : Int), v32 = .int .i64 x32_2 ∧ Aside0 (weirkeeperlaw01_PackTexts.l0 kq l0 a1 l0 (l0.length : Int) x32_2 = some true) ∧ Aside0 (kq ≤ kj2) ∧ Aside0 (Below w.heap.size w w'))
        case atStart => exact ⟨(0), (by first | rfl | (simp; done) | (simp [*]; done)), H', ⟨Nat.le_refl _⟩, ⟨by repeat (first | (with_reducible first | exact HB.out | apply below_alloc | apply pw_below_drewN | apply below_drew1) | exact HB.out)⟩⟩
        case round =>
          clear H'
          try clear c1
          try clear p2
          try clear c4
          try clear c4b0
          try clear c4b1
          try clear c5
          try clear p2
          obtain ⟨x32_2, rfl, HA, HK2, HB⟩ := hrel
          cases gk with
          | zero => exact absurd HA.out (by simp [weirkeeperlaw01_PackTexts.l0])
          | succ k2 =>
            have H := HA.out
            clear HA
            simp only [weirkeeperlaw01_PackTexts.l0] at H
            by_cases c8 : x32_2 < (l0.length : Int)
            · rw [if_pos c8] at H
              have c8b0 : decide (x32_2 < (l0.length : Int)) = true := decide_eq_true c8
              clear c8
              by_cases c9 : 0 ≤ x32_2
              · rw [if_pos c9] at H
                have c9b0 : decide (0 ≤ x32_2) = true := decide_eq_true c9
                clear c9
                by_cases c10 : x32_2 < (l0.length : Int)
                · rw [if_pos c10] at H
                  have c10b0 : decide (x32_2 < (l0.length : Int)) = true := decide_eq_true c10
                  clear c10
                  by_cases c11 : ((rdOf ByteArray.empty l0 x32_2).size : Int) > 300
                  · rw [if_pos c11] at H
                    have c11b0 : decide (300 < ((rdOf ByteArray.empty l0 x32_2).size : Int)) = true := decide_eq_true c11
                    have c11b1 : decide (300 < (rdOf ByteArray.empty l0 x32_2).size) = true := decide_eq_true (by omega)
                    clear c11
                    replace H := Option.bind_eq_some_iff.mp H
                    obtain ⟨t173, A120, H⟩ := H
                    replace H : (some t173) = some true := H
                    have A12 := Aside0.mk A120
                    clear A120
                    (have H9_ := Option.some.inj H; first | subst H9_ | clear H9_)
                    have p172 : 0 ≤ (x32_2 : Int) := of_decide_eq_true (by first | (with_reducible assumption) | assumption)
                    have q172 : x32_2 < (l0.length : Int) := of_decide_eq_true (by first | (with_reducible assumption) | assumption)
                    obtain ⟨ad172, e172, hx172_0⟩ := Kd.at_string HR0.out x32_2 p172 q172
                    cases e172
                    replace hx172_0 := (HB.out.cell (World.block_lt_of_cell? w _ hx172_0)).trans hx172_0
                    replace p172 := eq_true p172
                    replace q172 := eq_true q172
                    go_wp2_with (first | ((with_reducible refine gate_callee (f := 15) rfl ?_); refine goesL_ (some 39) rfl rfl Try.func15 (by kernel_rfl) rfl #[] rfl (by (try simp only [List.map_toArray, List.map_cons, List.map_nil]); first | done | rfl | (simp only [List.length_drop, List.length_take]; rfl)) ?_; (with_reducible refine (weirkeeperlaw01_awake.calls k2 _ A12.out).mono ?_); rintro e w13 ⟨rfl, hb⟩; refine ⟨_, rfl, ?_⟩; have n0_ := Aside0.mk (below_step (by repeat (first | (with_reducible first | exact HB.out | apply below_alloc | apply pw_below_drewN | apply below_drew1) | exact HB.out)) hb); clear HB; have HB := n0_; clear n0_; (try clear hb); (try clear hb2); (try clear hk); (try clear hi)))
                    go_ret
                    exact ⟨by first | rfl | (simp [errW_none, errW_some] <;> rfl) | (simp [*, errW_none, errW_some] <;> rfl), by repeat (first | (with_reducible first | exact HB.out | apply below_alloc | apply pw_below_drewN | apply below_drew1) | exact HB.out)⟩
                  · rw [if_neg c11] at H
                    have c11b0 : decide (300 < ((rdOf ByteArray.empty l0 x32_2).size : Int)) = false := decide_eq_false c11
                    have c11b1 : decide (300 < (rdOf ByteArray.empty l0 x32_2).size) = false := decide_eq_false (by omega)
                    clear c11
                    have H' := Aside0.mk H
                    clear H
                    have p172 : 0 ≤ (x32_2 : Int) := of_decide_eq_true (by first | (with_reducible assumption) | assumption)
                    have q172 : x32_2 < (l0.length : Int) := of_decide_eq_true (by first | (with_reducible assumption) | assumption)
                    obtain ⟨ad172, e172, hx172_0⟩ := Kd.at_string HR0.out x32_2 p172 q172
                    cases e172
                    replace hx172_0 := (HB.out.cell (World.block_lt_of_cell? w _ hx172_0)).trans hx172_0
                    replace p172 := eq_true p172
                    replace q172 := eq_true q172
                    go_wp2
                    go_roundg k2
                    case measure => have := HJ2.out; have := HK2.out; omega
                    case rel => exact ⟨(wrap64 (x32_2 + 1)), (by first | rfl | (simp; done) | (simp [*]; done)), H', ⟨by have := HJ2.out; have := HK2.out; omega⟩, ⟨by repeat (first | (with_reducible first | exact HB.out | apply below_alloc | apply pw_below_drewN | apply below_drew1) | exact HB.out)⟩⟩
                · rw [if_neg c10] at H
                  exact absurd H (by simp)
              · rw [if_neg c9] at H
                exact absurd H (by simp)
            · rw [if_neg c8] at H
              have c8b0 : decide (x32_2 < (l0.length : Int)) = false := decide_eq_false c8
              clear c8
              replace H := Option.bind_eq_some_iff.mp H
              obtain ⟨⟨t174, t175⟩, A140, H⟩ := H
              replace H : ((weirkeeperref01_Texts.f k2 l0).bind fun bt176 => ((pack_TakeText.f k2 a1).bind fun bt178 => ((weirkeeperref01_TakeText.f a1).bind fun bt181 => ((pack_Parts.f k2 a1).bind fun bt184 => ((weirkeeperref01_Parts.f k2 a1).bind fun bt188 => (if t174.toList = bt176.1.toList then (if t175 = bt176.2 then (if bt178.1.toList = bt181.1.toList then (if bt178.2.1.toList = bt181.2.1.toList then (if bt178.2.2 = bt181.2.2 then ((weirkeeperref01_Same.f k2 bt184.1 bt188.1).bind fun t192 => (if t192 = true then (if bt184.2 = bt188.2 then ((weirkeeperlaw01_awake.f k2).bind fun t193 => (some t193)) else (some false)) else (some false))) else (some false)) else (some false)) else (some false)) else (some false)) else (some false))))))) = some true := H
              have A14 := Aside0.mk A140
              clear A140
              replace H := Option.bind_eq_some_iff.mp H
              obtain ⟨⟨t176, t177⟩, A150, H⟩ := H
              replace H : ((pack_TakeText.f k2 a1).bind fun bt178 => ((weirkeeperref01_TakeText.f a1).bind fun bt181 => ((pack_Parts.f k2 a1).bind fun bt184 => ((weirkeeperref01_Parts.f k2 a1).bind fun bt188 => (if t174.toList = t176.toList then (if t175 = t177 then (if bt178.1.toList = bt181.1.toList then (if bt178.2.1.toList = bt181.2.1.toList then (if bt178.2.2 = bt181.2.2 then ((weirkeeperref01_Same.f k2 bt184.1 bt188.1).bind fun t192 => (if t192 = true then (if bt184.2 = bt188.2 then ((weirkeeperlaw01_awake.f k2).bind fun t193 => (some t193)) else (some false)) else (some false))) else (some false)) else (some false)) else (some false)) else (some false)) else (some false)))))) = some true := H
              have A15 := Aside0.mk A150
              clear A150
              replace H := Option.bind_eq_some_iff.mp H
              obtain ⟨⟨t178, t179, t180⟩, A160, H⟩ := H
              replace H : ((weirkeeperref01_TakeText.f a1).bind fun bt181 => ((pack_Parts.f k2 a1).bind fun bt184 => ((weirkeeperref01_Parts.f k2 a1).bind fun bt188 => (if t174.toList = t176.toList then (if t175 = t177 then (if t178.toList = bt181.1.toList then (if t179.toList = bt181.2.1.toList then (if t180 = bt181.2.2 then ((weirkeeperref01_Same.f k2 bt184.1 bt188.1).bind fun t192 => (if t192 = true then (if bt184.2 = bt188.2 then ((weirkeeperlaw01_awake.f k2).bind fun t193 => (some t193)) else (some false)) else (some false))) else (some false)) else (some false)) else (some false)) else (some false)) else (some false))))) = some true := H
              have A16 := Aside0.mk A160
              clear A160
              replace H := Option.bind_eq_some_iff.mp H
              obtain ⟨⟨t181, t182, t183⟩, A170, H⟩ := H
              replace H : ((pack_Parts.f k2 a1).bind fun bt184 => ((weirkeeperref01_Parts.f k2 a1).bind fun bt188 => (if t174.toList = t176.toList then (if t175 = t177 then (if t178.toList = t181.toList then (if t179.toList = t182.toList then (if t180 = t183 then ((weirkeeperref01_Same.f k2 bt184.1 bt188.1).bind fun t192 => (if t192 = true then (if bt184.2 = bt188.2 then ((weirkeeperlaw01_awake.f k2).bind fun t193 => (some t193)) else (some false)) else (some false))) else (some false)) else (some false)) else (some false)) else (some false)) else (some false)))) = some true := H
              have A17 := Aside0.mk A170
              clear A170
              replace H := Option.bind_eq_some_iff.mp H
              obtain ⟨⟨t184, t185⟩, A180, H⟩ := H
              replace H : ((weirkeeperref01_Parts.f k2 a1).bind fun bt188 => (if t174.toList = t176.toList then (if t175 = t177 then (if t178.toList = t181.toList then (if t179.toList = t182.toList then (if t180 = t183 then ((weirkeeperref01_Same.f k2 t184 bt188.1).bind fun t192 => (if t192 = true then (if t185 = bt188.2 then ((weirkeeperlaw01_awake.f k2).bind fun t193 => (some t193)) else (some false)) else (some false))) else (some false)) else (some false)) else (some false)) else (some false)) else (some false))) = some true := H
              have A18 := Aside0.mk A180
              clear A180
              replace H := Option.bind_eq_some_iff.mp H
              obtain ⟨⟨t188, t189⟩, A190, H⟩ := H
              replace H : (if t174.toList = t176.toList then (if t175 = t177 then (if t178.toList = t181.toList then (if t179.toList = t182.toList then (if t180 = t183 then ((weirkeeperref01_Same.f k2 t184 t188).bind fun t192 => (if t192 = true then (if t185 = t189 then ((weirkeeperlaw01_awake.f k2).bind fun t193 => (some t193)) else (some false)) else (some false))) else (some false)) else (some false)) else (some false)) else (some false)) else (some false)) = some true := H
              have A19 := Aside0.mk A190
              clear A190
              by_cases c20 : t174.toList = t176.toList
              · rw [if_pos c20] at H
                have c20b0 : (t174.toList == t176.toList) = true := beq_iff_eq.mpr c20
                have c20b1 : (t174.toList != t176.toList) = false := bne_eq_false_iff_eq.mpr c20
                clear c20
                by_cases c21 : t175 = t177
                · rw [if_pos c21] at H
                  have c21b0 : (t175 == t177) = true := beq_iff_eq.mpr c21
                  have c21b1 : (t175 != t177) = false := bne_eq_false_iff_eq.mpr c21
                  clear c21
                  by_cases c22 : t178.toList = t181.toList
                  · rw [if_pos c22] at H
                    have c22b0 : (t178.toList == t181.toList) = true := beq_iff_eq.mpr c22
                    have c22b1 : (t178.toList != t181.toList) = false := bne_eq_false_iff_eq.mpr c22
                    clear c22
                    by_cases c23 : t179.toList = t182.toList
                    · rw [if_pos c23] at H
                      have c23b0 : (t179.toList == t182.toList) = true := beq_iff_eq.mpr c23
                      have c23b1 : (t179.toList != t182.toList) = false := bne_eq_false_iff_eq.mpr c23
                      clear c23
                      by_cases c24 : t180 = t183
                      · rw [if_pos c24] at H
                        have c24b0 : (t180 == t183) = true := beq_iff_eq.mpr c24
                        have c24b1 : (t180 != t183) = false := bne_eq_false_iff_eq.mpr c24
                        clear c24
                        replace H := Option.bind_eq_some_iff.mp H
                        obtain ⟨t192, A250, H⟩ := H
                        replace H : (if t192 = true then (if t185 = t189 then ((weirkeeperlaw01_awake.f k2).bind fun t193 => (some t193)) else (some false)) else (some false)) = some true := H
                        have A25 := Aside0.mk A250
                        clear A250
                        by_cases c26 : t192 = true
                        · subst c26
                          have H1 : (if t185 = t189 then ((weirkeeperlaw01_awake.f k2).bind fun t193 => (some t193)) else (some false)) = some true := by rw [if_pos rfl] at H; exact H
                          clear H
                          have H := H1
                          clear H1
                          by_cases c27 : t185 = t189
                          · rw [if_pos c27] at H
                            have c27b0 : (t185 == t189) = true := beq_iff_eq.mpr c27
                            have c27b1 : (t185 != t189) = false := bne_eq_false_iff_eq.mpr c27
                            clear c27
                            replace H := Option.bind_eq_some_iff.mp H
                            obtain ⟨t193, A280, H⟩ := H
                            replace H : (some t193) = some true := H
                            have A28 := Aside0.mk A280
                            clear A280
                            (have H9_ := Option.some.inj H; first | subst H9_ | clear H9_)
                            go_wp2_with (first | ((with_reducible refine gate_callee (f := 20) rfl ?_); refine goesL_ (some 43) rfl rfl Try.func20 (by kernel_rfl) rfl #[.slice A0 l0.length c0] rfl (by (try simp only [List.map_toArray, List.map_cons, List.map_nil]); first | done | rfl | (simp only [List.length_drop, List.length_take]; rfl)) ?_; (with_reducible refine (pack_Texts.calls k2 _ _ l0 t174 t175 _ ?side1 ?side2 A14.out).mono ?_); (case side1 => repeat (first | exact (Kd.C_below HR0.out HB.out) | (with_reducible refine Kd.C_alloc ?_ _) | (with_reducible refine Kd.C_drewN ?_ _) | (with_reducible refine Kd.C_drew ?_))); (case side2 => exact HC0.out); rintro e w29 ⟨rfl, hb⟩; refine ⟨_, rfl, ?_⟩; have n0_ := Aside0.mk (below_step (by repeat (first | (with_reducible first | exact HB.out | apply below_alloc | apply pw_below_drewN | apply below_drew1) | exact HB.out)) hb); clear HB; have HB := n0_; clear n0_; (try clear hb); (try clear hb2); (try clear hk); (try clear hi)) | ((with_reducible refine gate_callee (f := 21) rfl ?_); refine goesL_ (some 48) rfl rfl Try.func21 (by kernel_rfl) rfl #[.slice A0 l0.length c0] rfl (by (try simp only [List.map_toArray, List.map_cons, List.map_nil]); first | done | rfl | (simp only [List.length_drop, List.length_take]; rfl)) ?_; (with_reducible refine (weirkeeperref01_Texts.calls k2 _ _ l0 t176 t177 _ ?side1 ?side2 A15.out).mono ?_); (case side1 => repeat (first | exact (Kd.C_below HR0.out HB.out) | (with_reducible refine Kd.C_alloc ?_ _) | (with_reducible refine Kd.C_drewN ?_ _) | (with_reducible refine Kd.C_drew ?_))); (case side2 => exact HC0.out); rintro e w30 ⟨rfl, hb⟩; refine ⟨_, rfl, ?_⟩; have n0_ := Aside0.mk (below_step (by repeat (first | (with_reducible first | exact HB.out | apply below_alloc | apply pw_below_drewN | apply below_drew1) | exact HB.out)) hb); clear HB; have HB := n0_; clear n0_; (try clear hb); (try clear hb2); (try clear hk); (try clear hi)) | ((with_reducible refine gate_callee (f := 22) rfl ?_); refine goesL_ (some 53) rfl rfl Try.func22 (by kernel_rfl) rfl #[.string a1] rfl (by (try simp only [List.map_toArray, List.map_cons, List.map_nil]); first | done | rfl | (simp only [List.length_drop, List.length_take]; rfl)) ?_; (with_reducible refine (pack_TakeText.calls k2 a1 t178 t179 t180 _ A16.out).mono ?_); rintro e w' ⟨rfl, ⟨nd, rfl⟩⟩; refine ⟨_, rfl, ?_⟩) | ((with_reducible refine gate_callee (f := 23) rfl ?_); refine goesL_ (some 59) rfl rfl Try.func23 (by kernel_rfl) rfl #[.string a1] rfl (by (try simp only [List.map_toArray, List.map_cons, List.map_nil]); first | done | rfl | (simp only [List.length_drop, List.length_take]; rfl)) ?_; (with_reducible refine (weirkeeperref01_TakeText.calls a1 t181 t182 t183 _ A17.out).mono ?_); rintro e w' ⟨rfl, ⟨nd, rfl⟩⟩; refine ⟨_, rfl, ?_⟩) | ((with_reducible refine gate_callee (f := 24) rfl ?_); refine goesL_ (some 65) rfl rfl Try.func24 (by kernel_rfl) rfl #[.string a1] rfl (by (try simp only [List.map_toArray, List.map_cons, List.map_nil]); first | done | rfl | (simp only [List.length_drop, List.length_take]; rfl)) ?_; (with_reducible refine (pack_Parts.calls k2 a1 t184 t185 _ A18.out).mono ?_); rintro e w31 ⟨v186, rfl, ho0, hb⟩; refine ⟨_, rfl, ?_⟩; have n0_ := Aside0.mk (Kd.R_lower ho0 (below_size (by repeat (first | (with_reducible first | exact HB.out | apply below_alloc | apply pw_below_drewN | apply below_drew1) | exact HB.out)))); have n1_ := Aside0.mk (below_step (by repeat (first | (with_reducible first | exact HB.out | apply below_alloc | apply pw_below_drewN | apply below_drew1) | exact HB.out)) hb); clear HB; have HO187 := n0_; have HB := n1_; clear n0_ n1_; (try clear hb); (try clear hb2); (try clear hk); (try clear hi); (try clear ho0)) | ((with_reducible refine gate_callee (f := 25) rfl ?_); refine goesL_ (some 70) rfl rfl Try.func25 (by kernel_rfl) rfl #[.string a1] rfl (by (try simp only [List.map_toArray, List.map_cons, List.map_nil]); first | done | rfl | (simp only [List.length_drop, List.length_take]; rfl)) ?_; (with_reducible refine (weirkeeperref01_Parts.calls k2 a1 t188 t189 _ A19.out).mono ?_); rintro e w32 ⟨v190, rfl, ho0, hb⟩; refine ⟨_, rfl, ?_⟩; have n0_ := Aside0.mk (Kd.R_elder' (by (with_reducible repeat (first | apply Kd.R_alloc | apply Kd.R_drewN | apply Kd.R_drew)); exact HO187.out) (Kd.R_base ho0) hb); have n1_ := Aside0.mk (Kd.R_lower (Kd.R_new' ho0 (Kd.R_lt (by (with_reducible repeat (first | apply Kd.R_alloc | apply Kd.R_drewN | apply Kd.R_drew)); exact HO187.out))) (below_size (by repeat (first | (with_reducible first | exact HB.out | apply below_alloc | apply pw_below_drewN | apply below_drew1) | exact HB.out)))); have n2_ := Aside0.mk (below_step (by repeat (first | (with_reducible first | exact HB.out | apply below_alloc | apply pw_below_drewN | apply below_drew1) | exact HB.out)) hb); clear HO187; clear HB; have HO187 := n0_; have HO191 := n1_; have HB := n2_; clear n0_ n1_ n2_; (try clear hb); (try clear hb2); (try clear hk); (try clear hi); (try clear ho0); obtain ⟨Ao33, co33, eo33⟩ := Kd.R_slice HO187.out; subst eo33; obtain ⟨Ao34, co34, eo34⟩ := Kd.R_slice HO191.out; subst eo34) | (go_at_call 26; (with_reducible refine (weirkeeperref01_Same.calls k2 _ _ t184 _ _ t188 true _ ?side1 ?side2 ?side3 ?side4 A25.out).mono ?_); (case side1 => repeat (first | exact (Kd.R_reads' HO187.out).2.2 | (with_reducible refine Kd.C_alloc ?_ _) | (with_reducible refine Kd.C_drewN ?_ _) | (with_reducible refine Kd.C_drew ?_))); (case side2 => exact (Kd.R_reads' HO187.out).2.1); (case side3 => repeat (first | exact (Kd.R_reads' HO191.out).2.2 | (with_reducible refine Kd.C_alloc ?_ _) | (with_reducible refine Kd.C_drewN ?_ _) | (with_reducible refine Kd.C_drew ?_))); (case side4 => exact (Kd.R_reads' HO191.out).2.1); rintro e w' ⟨rfl, ⟨nd, rfl⟩⟩) | (go_at_call 15; (with_reducible refine (weirkeeperlaw01_awake.calls k2 _ A28.out).mono ?_); rintro e w35 ⟨rfl, hb⟩; have n0_ := Aside0.mk (Kd.R_below (by (with_reducible repeat (first | apply Kd.R_alloc | apply Kd.R_drewN | apply Kd.R_drew)); exact HO187.out) hb); have n1_ := Aside0.mk (Kd.R_below (by (with_reducible repeat (first | apply Kd.R_alloc | apply Kd.R_drewN | apply Kd.R_drew)); exact HO191.out) hb); have n2_ := Aside0.mk (below_step (by repeat (first | (with_reducible first | exact HB.out | apply below_alloc | apply pw_below_drewN | apply below_drew1) | exact HB.out)) hb); clear HO187; clear HO191; clear HB; have HO187 := n0_; have HO191 := n1_; have HB := n2_; clear n0_ n1_ n2_; (try clear hb); (try clear hb2); (try clear hk); (try clear hi)))
                            go_ret
                            exact ⟨by first | rfl | (simp [errW_none, errW_some] <;> rfl) | (simp [*, errW_none, errW_some] <;> rfl), by repeat (first | (with_reducible first | exact HB.out | apply below_alloc | apply pw_below_drewN | apply below_drew1) | exact HB.out)⟩
                          · rw [if_neg c27] at H
                            have c27b0 : (t185 == t189) = false := beq_eq_false_iff_ne.mpr c27
                            have c27b1 : (t185 != t189) = true := bne_iff_ne.mpr c27
                            exact absurd H (by simp)
                        · replace c26 := Bool.eq_false_iff.mpr c26
                          subst c26
                          have H1 : (some false) = some true := by rw [if_neg (show ¬ (false = true) by decide)] at H; exact H
                          clear H
                          have H := H1
                          clear H1
                          exact absurd H (by simp)
                      · rw [if_neg c24] at H
                        have c24b0 : (t180 == t183) = false := beq_eq_false_iff_ne.mpr c24
                        have c24b1 : (t180 != t183) = true := bne_iff_ne.mpr c24
                        exact absurd H (by simp)
                    · rw [if_neg c23] at H
                      have c23b0 : (t179.toList == t182.toList) = false := beq_eq_false_iff_ne.mpr c23
                      have c23b1 : (t179.toList != t182.toList) = true := bne_iff_ne.mpr c23
                      exact absurd H (by simp)
                  · rw [if_neg c22] at H
                    have c22b0 : (t178.toList == t181.toList) = false := beq_eq_false_iff_ne.mpr c22
                    have c22b1 : (t178.toList != t181.toList) = true := bne_iff_ne.mpr c22
                    exact absurd H (by simp)
                · rw [if_neg c21] at H
                  have c21b0 : (t175 == t177) = false := beq_eq_false_iff_ne.mpr c21
                  have c21b1 : (t175 != t177) = true := bne_iff_ne.mpr c21
                  exact absurd H (by simp)
              · rw [if_neg c20] at H
                have c20b0 : (t174.toList == t176.toList) = false := beq_eq_false_iff_ne.mpr c20
                have c20b1 : (t174.toList != t176.toList) = true := bne_iff_ne.mpr c20
                exact absurd H (by simp)

end Go.Proofs.Ytgccimhdbphenaa.F
