/- Contracts of Go functions of the seat Ytgccimhdbphenaa: what a call comes to; no condition but those that each theorem names. -/
import Derived.Test.YtgccimhdbphenaaFPre
import Derived.Test.YtgccimhdbphenaaFpack
import Derived.Test.YtgccimhdbphenaaFlaw01awake
import Derived.Test.YtgccimhdbphenaaFref01
namespace Go.Proofs.Ytgccimhdbphenaa.F
open Go.RowKit Go.Proofs.YtgccimhdbphenaaW.PrintWords Go.Proofs.YtgccimhdbphenaaW.PrintLast Go.Proofs.YtgccimhdbphenaaW.PrintMore
attribute [local go_sem] max2_int min2_int max_two min_two max_three min_three max_four min_four   -- for this text's walks alone
set_option linter.unusedVariables false
set_option linter.unusedSimpArgs false

/-! ### weirkeeperlaw01_PackBack: function 5 -/
mutual
def weirkeeperlaw01_PackBack.j0 : Nat → Int → Int → List ByteArray → ByteArray → Bool → Option (Bool)
  | 0, _, _, _, _, _ => none
  | k + 1, x0, x1, x2, x3, x37 => if x37 = true then ((weirkeeperlaw01_awake.f k).bind fun t194 => (some t194)) else (weirkeeperlaw01_PackBack.l0 k x0 x1 x2 x3 x2 (x2.length : Int) 0)
def weirkeeperlaw01_PackBack.l0 : Nat → Int → Int → List ByteArray → ByteArray → List ByteArray → Int → Int → Option (Bool)
  | 0, _, _, _, _, _, _, _ => none
  | k + 1, x0, x1, x2, x3, x39, x40, x41 => if x41 < x40 then (if 0 ≤ x41 then (if x41 < (x39.length : Int) then (if ((rdOf ByteArray.empty x39 x41).size : Int) > 300 then ((weirkeeperlaw01_awake.f k).bind fun t196 => (some t196)) else (weirkeeperlaw01_PackBack.l0 k x0 x1 x2 x3 x39 x40 (wrap64 (x41 + 1)))) else (none)) else (none)) else ((pack_Num.f k x0 x1).bind fun bt197 => (if bt197.2 = 0 then (if bt197.1.size + x3.size ≤ 9223372036854775807 then ((pack_Take.f k (bt197.1 ++ x3) x1).bind fun bt199 => (if bt199.1 = x0 then (if bt199.2.1.toList = x3.toList then (if bt199.2.2 = 0 then (if (bt197.1.size : Int) = x1 then (weirkeeperlaw01_PackBack.j2 k x2 x3) else (some false)) else (some false)) else (some false)) else (some false))) else (none)) else (weirkeeperlaw01_PackBack.j2 k x2 x3)))
def weirkeeperlaw01_PackBack.j2 : Nat → List ByteArray → ByteArray → Option (Bool)
  | 0, _, _ => none
  | k + 1, x2, x3 => (pack_Texts.f k x2).bind fun bt202 => ((pack_Parts.f k bt202.1).bind fun bt204 => (if bt202.2 = 0 then (if bt204.2 = 0 then ((weirkeeperref01_Same.f k bt204.1 x2).bind fun t208 => (weirkeeperlaw01_PackBack.j3 k x2 x3 (!t208))) else (weirkeeperlaw01_PackBack.j3 k x2 x3 true)) else (weirkeeperlaw01_PackBack.j3 k x2 x3 true)))
def weirkeeperlaw01_PackBack.j3 : Nat → List ByteArray → ByteArray → Bool → Option (Bool)
  | 0, _, _, _ => none
  | k + 1, x2, x3, x106 => if x106 = true then (some false) else (weirkeeperlaw01_PackBack.l1 k x2 x3 (wrap64 ((x2.length : Int) - 1)))
def weirkeeperlaw01_PackBack.l1 : Nat → List ByteArray → ByteArray → Int → Option (Bool)
  | 0, _, _, _ => none
  | k + 1, x2, x3, x20 => if x20 ≥ 0 then (if 0 ≤ x20 then (if x20 < (x2.length : Int) then ((pack_Text.f k (rdOf ByteArray.empty x2 x20)).bind fun bt210 => (if bt210.1.size + x3.size ≤ 9223372036854775807 then ((pack_TakeText.f k (bt210.1 ++ x3)).bind fun bt212 => (if bt210.2 = 0 then (if bt212.2.2 = 0 then (if bt212.1.toList = (rdOf ByteArray.empty x2 x20).toList then (if bt212.2.1.toList = x3.toList then (weirkeeperlaw01_PackBack.l1 k x2 x3 (wrap64 (x20 - 1))) else (some false)) else (some false)) else (some false)) else (some false))) else (none))) else (none)) else (none)) else ((pack_Parts.f k x3).bind fun bt216 => (if bt216.2 = 0 then ((pack_Texts.f k bt216.1).bind fun bt220 => (if bt220.1.toList = x3.toList then (if bt220.2 = 0 then ((weirkeeperlaw01_awake.f k).bind fun t222 => (some t222)) else (some false)) else (some false))) else ((weirkeeperlaw01_awake.f k).bind fun t223 => (some t223))))
end
def weirkeeperlaw01_PackBack.f (k : Nat) (a0 : Int) (a1 : Int) (l2 : List ByteArray) (a3 : ByteArray) : Option (Bool) := if (l2.length : Int) > 30 then (weirkeeperlaw01_PackBack.j0 k a0 a1 l2 a3 true) else (weirkeeperlaw01_PackBack.j0 k a0 a1 l2 a3 (decide ((a3.size : Int) > 300)))
theorem weirkeeperlaw01_PackBack.mono_l : ∀ k, (∀ y0 y1 y2 y3 y4, LeO (weirkeeperlaw01_PackBack.j0 k y0 y1 y2 y3 y4) (weirkeeperlaw01_PackBack.j0 (k + 1) y0 y1 y2 y3 y4)) ∧ (∀ y0 y1 y2 y3 y4 y5 y6, LeO (weirkeeperlaw01_PackBack.l0 k y0 y1 y2 y3 y4 y5 y6) (weirkeeperlaw01_PackBack.l0 (k + 1) y0 y1 y2 y3 y4 y5 y6)) ∧ (∀ y0 y1, LeO (weirkeeperlaw01_PackBack.j2 k y0 y1) (weirkeeperlaw01_PackBack.j2 (k + 1) y0 y1)) ∧ (∀ y0 y1 y2, LeO (weirkeeperlaw01_PackBack.j3 k y0 y1 y2) (weirkeeperlaw01_PackBack.j3 (k + 1) y0 y1 y2)) ∧ (∀ y0 y1 y2, LeO (weirkeeperlaw01_PackBack.l1 k y0 y1 y2) (weirkeeperlaw01_PackBack.l1 (k + 1) y0 y1 y2))
  | 0 => ⟨fun _ _ _ _ _ r h => by simp [weirkeeperlaw01_PackBack.j0] at h, fun _ _ _ _ _ _ _ r h => by simp [weirkeeperlaw01_PackBack.l0] at h, fun _ _ r h => by simp [weirkeeperlaw01_PackBack.j2] at h, fun _ _ _ r h => by simp [weirkeeperlaw01_PackBack.j3] at h, fun _ _ _ r h => by simp [weirkeeperlaw01_PackBack.l1] at h⟩
  | k + 1 => by
    obtain ⟨ih0, ih1, ih2, ih3, ih4⟩ := weirkeeperlaw01_PackBack.mono_l k
    refine ⟨?_, ?_, ?_, ?_, ?_⟩
    · intro y0 y1 y2 y3 y4
      unfold weirkeeperlaw01_PackBack.j0
      repeat' first
      | (with_reducible exact ih0 _ _ _ _ _)
      | (with_reducible exact ih1 _ _ _ _ _ _ _)
      | (with_reducible exact ih2 _ _)
      | (with_reducible exact ih3 _ _ _)
      | (with_reducible exact ih4 _ _ _)
      | (with_reducible exact pack_Num.mono _ _ _)
      | (with_reducible exact pack_Parts.mono _ _)
      | (with_reducible exact pack_Take.mono _ _ _)
      | (with_reducible exact pack_TakeText.mono _ _)
      | (with_reducible exact pack_Text.mono _ _)
      | (with_reducible exact pack_Texts.mono _ _)
      | (with_reducible exact weirkeeperlaw01_awake.mono _)
      | (with_reducible exact weirkeeperref01_Same.mono _ _ _)
      | (with_reducible exact LeO.refl _)
      | (with_reducible exact LeO.none _)
      | (with_reducible refine LeO.ite ?_ ?_)
      | (with_reducible refine LeO.bind ?_ (fun _ => ?_))
      | exact ih0 _ _ _ _ _
      | exact ih1 _ _ _ _ _ _ _
      | exact ih2 _ _
      | exact ih3 _ _ _
      | exact ih4 _ _ _
      | exact pack_Num.mono _ _ _
      | exact pack_Parts.mono _ _
      | exact pack_Take.mono _ _ _
      | exact pack_TakeText.mono _ _
      | exact pack_Text.mono _ _
      | exact pack_Texts.mono _ _
      | exact weirkeeperlaw01_awake.mono _
      | exact weirkeeperref01_Same.mono _ _ _
      | exact LeO.none _
      | refine LeO.ite ?_ ?_
      | refine LeO.bind ?_ (fun _ => ?_)
    · intro y0 y1 y2 y3 y4 y5 y6
      unfold weirkeeperlaw01_PackBack.l0
      repeat' first
      | (with_reducible exact ih0 _ _ _ _ _)
      | (with_reducible exact ih1 _ _ _ _ _ _ _)
      | (with_reducible exact ih2 _ _)
      | (with_reducible exact ih3 _ _ _)
      | (with_reducible exact ih4 _ _ _)
      | (with_reducible exact pack_Num.mono _ _ _)
      | (with_reducible exact pack_Parts.mono _ _)
      | (with_reducible exact pack_Take.mono _ _ _)
      | (with_reducible exact pack_TakeText.mono _ _)
      | (with_reducible exact pack_Text.mono _ _)
      | (with_reducible exact pack_Texts.mono _ _)
      | (with_reducible exact weirkeeperlaw01_awake.mono _)
      | (with_reducible exact weirkeeperref01_Same.mono _ _ _)
      | (with_reducible exact LeO.refl _)
      | (with_reducible exact LeO.none _)
      | (with_reducible refine LeO.ite ?_ ?_)
      | (with_reducible refine LeO.bind ?_ (fun _ => ?_))
      | exact ih0 _ _ _ _ _
      | exact ih1 _ _ _ _ _ _ _
      | exact ih2 _ _
      | exact ih3 _ _ _
      | exact ih4 _ _ _
      | exact pack_Num.mono _ _ _
      | exact pack_Parts.mono _ _
      | exact pack_Take.mono _ _ _
      | exact pack_TakeText.mono _ _
      | exact pack_Text.mono _ _
      | exact pack_Texts.mono _ _
      | exact weirkeeperlaw01_awake.mono _
      | exact weirkeeperref01_Same.mono _ _ _
      | exact LeO.none _
      | refine LeO.ite ?_ ?_
      | refine LeO.bind ?_ (fun _ => ?_)
    · intro y0 y1
      unfold weirkeeperlaw01_PackBack.j2
      repeat' first
      | (with_reducible exact ih0 _ _ _ _ _)
      | (with_reducible exact ih1 _ _ _ _ _ _ _)
      | (with_reducible exact ih2 _ _)
      | (with_reducible exact ih3 _ _ _)
      | (with_reducible exact ih4 _ _ _)
      | (with_reducible exact pack_Num.mono _ _ _)
      | (with_reducible exact pack_Parts.mono _ _)
      | (with_reducible exact pack_Take.mono _ _ _)
      | (with_reducible exact pack_TakeText.mono _ _)
      | (with_reducible exact pack_Text.mono _ _)
      | (with_reducible exact pack_Texts.mono _ _)
      | (with_reducible exact weirkeeperlaw01_awake.mono _)
      | (with_reducible exact weirkeeperref01_Same.mono _ _ _)
      | (with_reducible exact LeO.refl _)
      | (with_reducible exact LeO.none _)
      | (with_reducible refine LeO.ite ?_ ?_)
      | (with_reducible refine LeO.bind ?_ (fun _ => ?_))
      | exact ih0 _ _ _ _ _
      | exact ih1 _ _ _ _ _ _ _
      | exact ih2 _ _
      | exact ih3 _ _ _
      | exact ih4 _ _ _
      | exact pack_Num.mono _ _ _
      | exact pack_Parts.mono _ _
      | exact pack_Take.mono _ _ _
      | exact pack_TakeText.mono _ _
      | exact pack_Text.mono _ _
      | exact pack_Texts.mono _ _
      | exact weirkeeperlaw01_awake.mono _
      | exact weirkeeperref01_Same.mono _ _ _
      | exact LeO.none _
      | refine LeO.ite ?_ ?_
      | refine LeO.bind ?_ (fun _ => ?_)
    · intro y0 y1 y2
      unfold weirkeeperlaw01_PackBack.j3
      repeat' first
      | (with_reducible exact ih0 _ _ _ _ _)
      | (with_reducible exact ih1 _ _ _ _ _ _ _)
      | (with_reducible exact ih2 _ _)
      | (with_reducible exact ih3 _ _ _)
      | (with_reducible exact ih4 _ _ _)
      | (with_reducible exact pack_Num.mono _ _ _)
      | (with_reducible exact pack_Parts.mono _ _)
      | (with_reducible exact pack_Take.mono _ _ _)
      | (with_reducible exact pack_TakeText.mono _ _)
      | (with_reducible exact pack_Text.mono _ _)
      | (with_reducible exact pack_Texts.mono _ _)
      | (with_reducible exact weirkeeperlaw01_awake.mono _)
      | (with_reducible exact weirkeeperref01_Same.mono _ _ _)
      | (with_reducible exact LeO.refl _)
      | (with_reducible exact LeO.none _)
      | (with_reducible refine LeO.ite ?_ ?_)
      | (with_reducible refine LeO.bind ?_ (fun _ => ?_))
      | exact ih0 _ _ _ _ _
      | exact ih1 _ _ _ _ _ _ _
      | exact ih2 _ _
      | exact ih3 _ _ _
      | exact ih4 _ _ _
      | exact pack_Num.mono _ _ _
      | exact pack_Parts.mono _ _
      | exact pack_Take.mono _ _ _
      | exact pack_TakeText.mono _ _
      | exact pack_Text.mono _ _
      | exact pack_Texts.mono _ _
      | exact weirkeeperlaw01_awake.mono _
      | exact weirkeeperref01_Same.mono _ _ _
      | exact LeO.none _
      | refine LeO.ite ?_ ?_
      | refine LeO.bind ?_ (fun _ => ?_)
    · intro y0 y1 y2
      unfold weirkeeperlaw01_PackBack.l1
      repeat' first
      | (with_reducible exact ih0 _ _ _ _ _)
      | (with_reducible exact ih1 _ _ _ _ _ _ _)
      | (with_reducible exact ih2 _ _)
      | (with_reducible exact ih3 _ _ _)
      | (with_reducible exact ih4 _ _ _)
      | (with_reducible exact pack_Num.mono _ _ _)
      | (with_reducible exact pack_Parts.mono _ _)
      | (with_reducible exact pack_Take.mono _ _ _)
      | (with_reducible exact pack_TakeText.mono _ _)
      | (with_reducible exact pack_Text.mono _ _)
      | (with_reducible exact pack_Texts.mono _ _)
      | (with_reducible exact weirkeeperlaw01_awake.mono _)
      | (with_reducible exact weirkeeperref01_Same.mono _ _ _)
      | (with_reducible exact LeO.refl _)
      | (with_reducible exact LeO.none _)
      | (with_reducible refine LeO.ite ?_ ?_)
      | (with_reducible refine LeO.bind ?_ (fun _ => ?_))
      | exact ih0 _ _ _ _ _
      | exact ih1 _ _ _ _ _ _ _
      | exact ih2 _ _
      | exact ih3 _ _ _
      | exact ih4 _ _ _
      | exact pack_Num.mono _ _ _
      | exact pack_Parts.mono _ _
      | exact pack_Take.mono _ _ _
      | exact pack_TakeText.mono _ _
      | exact pack_Text.mono _ _
      | exact pack_Texts.mono _ _
      | exact weirkeeperlaw01_awake.mono _
      | exact weirkeeperref01_Same.mono _ _ _
      | exact LeO.none _
      | refine LeO.ite ?_ ?_
      | refine LeO.bind ?_ (fun _ => ?_)
theorem weirkeeperlaw01_PackBack.mono : ∀ a0 a1 a2 a3 k, LeO (weirkeeperlaw01_PackBack.f k a0 a1 a2 a3) (weirkeeperlaw01_PackBack.f (k + 1) a0 a1 a2 a3) := by
  intro a0 a1 a2 a3 k
  obtain ⟨ih0, ih1, ih2, ih3, ih4⟩ := weirkeeperlaw01_PackBack.mono_l k
  unfold weirkeeperlaw01_PackBack.f
  repeat' first
      | (with_reducible exact ih0 _ _ _ _ _)
      | (with_reducible exact ih1 _ _ _ _ _ _ _)
      | (with_reducible exact ih2 _ _)
      | (with_reducible exact ih3 _ _ _)
      | (with_reducible exact ih4 _ _ _)
      | (with_reducible exact pack_Num.mono _ _ _)
      | (with_reducible exact pack_Parts.mono _ _)
      | (with_reducible exact pack_Take.mono _ _ _)
      | (with_reducible exact pack_TakeText.mono _ _)
      | (with_reducible exact pack_Text.mono _ _)
      | (with_reducible exact pack_Texts.mono _ _)
      | (with_reducible exact weirkeeperlaw01_awake.mono _)
      | (with_reducible exact weirkeeperref01_Same.mono _ _ _)
      | (with_reducible exact LeO.refl _)
      | (with_reducible exact LeO.none _)
      | (with_reducible refine LeO.ite ?_ ?_)
      | (with_reducible refine LeO.bind ?_ (fun _ => ?_))
      | exact ih0 _ _ _ _ _
      | exact ih1 _ _ _ _ _ _ _
      | exact ih2 _ _
      | exact ih3 _ _ _
      | exact ih4 _ _ _
      | exact pack_Num.mono _ _ _
      | exact pack_Parts.mono _ _
      | exact pack_Take.mono _ _ _
      | exact pack_TakeText.mono _ _
      | exact pack_Text.mono _ _
      | exact pack_Texts.mono _ _
      | exact weirkeeperlaw01_awake.mono _
      | exact weirkeeperref01_Same.mono _ _ _
      | exact LeO.none _
      | refine LeO.ite ?_ ?_
      | refine LeO.bind ?_ (fun _ => ?_)
set_option maxHeartbeats 8000000 in
set_option maxRecDepth 100000 in
theorem weirkeeperlaw01_PackBack.calls (k : Nat) (a0 : Int) (a1 : Int) (A2 : Option Addr) (c2 : Nat) (l2 : List ByteArray) (a3 : ByteArray) (w : World) (hr2 : Kd.C Kd.string w A2 l2.length l2) (hc2 : l2.length ≤ c2) (h : weirkeeperlaw01_PackBack.f k a0 a1 l2 a3 = some true) :
    Calls Try.prog 5 #[.int .u64 a0, .int .i64 a1, .slice A2 l2.length c2, .string a3] w fun e w' => e = .returned (.bool true) ∧ Below w.heap.size w w' := by
  have HR2 := Aside0.mk hr2
  have HC2 := Aside0.mk hc2
  clear hr2 hc2
  have HB := Aside0.mk (Below.refl w.heap.size w)
  have H : (if (l2.length : Int) > 30 then (weirkeeperlaw01_PackBack.j0 k a0 a1 l2 a3 true) else (weirkeeperlaw01_PackBack.j0 k a0 a1 l2 a3 (decide ((a3.size : Int) > 300)))) = some true := h
  clear h
  have HC5 := Aside0.mk H
  clear H
  go_enter Try.func5, Try.ntmps5
  go_upto_region 1 with (fail)
  go_cut [37] (fun v37 wc => ∃ (kq : Nat) (x37_4 : Bool), v37 = .bool x37_4 ∧ Aside0 (weirkeeperlaw01_PackBack.j0 kq a0 a1 l2 a3 x37_4 = some true) ∧ Aside0 (kq ≤ k) ∧ Aside0 (Below w.heap.size w wc))
  case first =>
    have H := HC5.out
    clear HC5
    by_cases c6 : (l2.length : Int) > 30
    · rw [if_pos c6] at H
      have c6b0 : decide (30 < (l2.length : Int)) = true := decide_eq_true c6
      have c6b1 : decide (30 < l2.length) = true := decide_eq_true (by omega)
      clear c6
      (first | rw [c6b0] | (simp only [i64_w, i32_w]; rw [c6b0]) | skip)
      have H' := Aside0.mk H
      clear H
      go_wp2
      go_meet
      case rel => exact ⟨_, (true), (by first | rfl | (simp; done) | (simp [*]; done)), H', ⟨by first | omega | exact Nat.le_refl _⟩, ⟨by repeat (first | (with_reducible first | exact HB.out | apply below_alloc | apply pw_below_drewN | apply below_drew1) | exact HB.out)⟩⟩
    · rw [if_neg c6] at H
      have c6b0 : decide (30 < (l2.length : Int)) = false := decide_eq_false c6
      have c6b1 : decide (30 < l2.length) = false := decide_eq_false (by omega)
      clear c6
      (first | rw [c6b0] | (simp only [i64_w, i32_w]; rw [c6b0]) | skip)
      have H' := Aside0.mk H
      clear H
      go_wp2
      go_meet
      case rel => exact ⟨_, (decide ((a3.size : Int) > 300)), (by first | rfl | (simp; done) | (simp [*]; done)), H', ⟨by first | omega | exact Nat.le_refl _⟩, ⟨by repeat (first | (with_reducible first | exact HB.out | apply below_alloc | apply pw_below_drewN | apply below_drew1) | exact HB.out)⟩⟩
  case rest =>
    clear HC5
    try clear c2
    try clear p2
    try clear c5
    try clear c6
    try clear c6b0
    try clear c6b1
    obtain ⟨kq, x37_4, rfl, HA, HJ4, HB⟩ := hcut
    cases kq with
    | zero => exact absurd HA.out (by simp [weirkeeperlaw01_PackBack.j0])
    | succ kj4 =>
      have H := HA.out
      clear HA
      simp only [weirkeeperlaw01_PackBack.j0] at H
      by_cases c7 : x37_4 = true
      · subst c7
        have H1 : ((weirkeeperlaw01_awake.f kj4).bind fun t194 => (some t194)) = some true := by rw [if_pos rfl] at H; exact H
        clear H
        have H := H1
        clear H1
        replace H := Option.bind_eq_some_iff.mp H
        obtain ⟨t194, A80, H⟩ := H
        replace H : (some t194) = some true := H
        have A8 := Aside0.mk A80
        clear A80
        (have H9_ := Option.some.inj H; first | subst H9_ | clear H9_)
        go_wp2_with (first | ((with_reducible refine gate_callee (f := 15) rfl ?_); refine goesL_ (some 38) rfl rfl Try.func15 (by kernel_rfl) rfl #[] rfl (by (try simp only [List.map_toArray, List.map_cons, List.map_nil]); first | done | rfl | (simp only [List.length_drop, List.length_take]; rfl)) ?_; (with_reducible refine (weirkeeperlaw01_awake.calls kj4 _ A8.out).mono ?_); rintro e w9 ⟨rfl, hb⟩; refine ⟨_, rfl, ?_⟩; have n0_ := Aside0.mk (below_step (by repeat (first | (with_reducible first | exact HB.out | apply below_alloc | apply pw_below_drewN | apply below_drew1) | exact HB.out)) hb); clear HB; have HB := n0_; clear n0_; (try clear hb); (try clear hb2); (try clear hk); (try clear hi)))
        go_ret
        exact ⟨by first | rfl | (simp [errW_none, errW_some] <;> rfl) | (simp [*, errW_none, errW_some] <;> rfl), by repeat (first | (with_reducible first | exact HB.out | apply below_alloc | apply pw_below_drewN | apply below_drew1) | exact HB.out)⟩
      · replace c7 := Bool.eq_false_iff.mpr c7
        subst c7
        have H1 : (weirkeeperlaw01_PackBack.l0 kj4 a0 a1 l2 a3 l2 (l2.length : Int) 0) = some true := by rw [if_neg (show ¬ (false = true) by decide)] at H; exact H
        clear H
        have H := H1
        clear H1
        have H' := Aside0.mk H
        clear H
        go_wp2
        go_loopg [41] kj4 (fun kq v41 w' => ∃ (x41_2 : Int), v41 = .int .i64 x41_2 ∧ Aside0 (weirkeeperlaw01_PackBack.l0 kq a0 a1 l2 a3 l2 (l2.length : Int) x41_2 = some true) ∧ Aside0 (kq ≤ kj4) ∧ Aside0 (Below w.heap.size w w'))
        case atStart => exact ⟨(0), (by first | rfl | (simp; done) | (simp [*]; done)), H', ⟨Nat.le_refl _⟩, ⟨by repeat (first | (with_reducible first | exact HB.out | apply below_alloc | apply pw_below_drewN | apply below_drew1) | exact HB.out)⟩⟩
        case round =>
          clear H'
          try clear c1
          try clear c2
          try clear p2
          try clear c5
          try clear c6
          try clear c6b0
          try clear c6b1
          try clear c7
          try clear p2
          obtain ⟨x41_2, rfl, HA, HK2, HB⟩ := hrel
          cases gk with
          | zero => exact absurd HA.out (by simp [weirkeeperlaw01_PackBack.l0])
          | succ k2 =>
            have H := HA.out
            clear HA
            simp only [weirkeeperlaw01_PackBack.l0] at H
            by_cases c10 : x41_2 < (l2.length : Int)
            · rw [if_pos c10] at H
              have c10b0 : decide (x41_2 < (l2.length : Int)) = true := decide_eq_true c10
              clear c10
              by_cases c11 : 0 ≤ x41_2
              · rw [if_pos c11] at H
                have c11b0 : decide (0 ≤ x41_2) = true := decide_eq_true c11
                clear c11
                by_cases c12 : x41_2 < (l2.length : Int)
                · rw [if_pos c12] at H
                  have c12b0 : decide (x41_2 < (l2.length : Int)) = true := decide_eq_true c12
                  clear c12
                  by_cases c13 : ((rdOf ByteArray.empty l2 x41_2).size : Int) > 300
                  · rw [if_pos c13] at H
                    have c13b0 : decide (300 < ((rdOf ByteArray.empty l2 x41_2).size : Int)) = true := decide_eq_true c13
                    have c13b1 : decide (300 < (rdOf ByteArray.empty l2 x41_2).size) = true := decide_eq_true (by omega)
                    clear c13
                    replace H := Option.bind_eq_some_iff.mp H
                    obtain ⟨t196, A140, H⟩ := H
                    replace H : (some t196) = some true := H
                    have A14 := Aside0.mk A140
                    clear A140
                    (have H9_ := Option.some.inj H; first | subst H9_ | clear H9_)
                    have p195 : 0 ≤ (x41_2 : Int) := of_decide_eq_true (by first | (with_reducible assumption) | assumption)
                    have q195 : x41_2 < (l2.length : Int) := of_decide_eq_true (by first | (with_reducible assumption) | assumption)
                    obtain ⟨ad195, e195, hx195_0⟩ := Kd.at_string HR2.out x41_2 p195 q195
                    cases e195
                    replace hx195_0 := (HB.out.cell (World.block_lt_of_cell? w _ hx195_0)).trans hx195_0
                    replace p195 := eq_true p195
                    replace q195 := eq_true q195
                    go_wp2_with (first | ((with_reducible refine gate_callee (f := 15) rfl ?_); refine goesL_ (some 48) rfl rfl Try.func15 (by kernel_rfl) rfl #[] rfl (by (try simp only [List.map_toArray, List.map_cons, List.map_nil]); first | done | rfl | (simp only [List.length_drop, List.length_take]; rfl)) ?_; (with_reducible refine (weirkeeperlaw01_awake.calls k2 _ A14.out).mono ?_); rintro e w15 ⟨rfl, hb⟩; refine ⟨_, rfl, ?_⟩; have n0_ := Aside0.mk (below_step (by repeat (first | (with_reducible first | exact HB.out | apply below_alloc | apply pw_below_drewN | apply below_drew1) | exact HB.out)) hb); clear HB; have HB := n0_; clear n0_; (try clear hb); (try clear hb2); (try clear hk); (try clear hi)))
                    go_ret
                    exact ⟨by first | rfl | (simp [errW_none, errW_some] <;> rfl) | (simp [*, errW_none, errW_some] <;> rfl), by repeat (first | (with_reducible first | exact HB.out | apply below_alloc | apply pw_below_drewN | apply below_drew1) | exact HB.out)⟩
                  · rw [if_neg c13] at H
                    have c13b0 : decide (300 < ((rdOf ByteArray.empty l2 x41_2).size : Int)) = false := decide_eq_false c13
                    have c13b1 : decide (300 < (rdOf ByteArray.empty l2 x41_2).size) = false := decide_eq_false (by omega)
                    clear c13
                    have H' := Aside0.mk H
                    clear H
                    have p195 : 0 ≤ (x41_2 : Int) := of_decide_eq_true (by first | (with_reducible assumption) | assumption)
                    have q195 : x41_2 < (l2.length : Int) := of_decide_eq_true (by first | (with_reducible assumption) | assumption)
                    obtain ⟨ad195, e195, hx195_0⟩ := Kd.at_string HR2.out x41_2 p195 q195
                    cases e195
                    replace hx195_0 := (HB.out.cell (World.block_lt_of_cell? w _ hx195_0)).trans hx195_0
                    replace p195 := eq_true p195
                    replace q195 := eq_true q195
                    go_wp2
                    go_roundg k2
                    case measure => have := HJ4.out; have := HK2.out; omega
                    case rel => exact ⟨(wrap64 (x41_2 + 1)), (by first | rfl | (simp; done) | (simp [*]; done)), H', ⟨by have := HJ4.out; have := HK2.out; omega⟩, ⟨by repeat (first | (with_reducible first | exact HB.out | apply below_alloc | apply pw_below_drewN | apply below_drew1) | exact HB.out)⟩⟩
                · rw [if_neg c12] at H
                  exact absurd H (by simp)
              · rw [if_neg c11] at H
                exact absurd H (by simp)
            · rw [if_neg c10] at H
              have c10b0 : decide (x41_2 < (l2.length : Int)) = false := decide_eq_false c10
              clear c10
              replace H := Option.bind_eq_some_iff.mp H
              obtain ⟨⟨t197, t198⟩, A160, H⟩ := H
              replace H : (if t198 = 0 then (if t197.size + a3.size ≤ 9223372036854775807 then ((pack_Take.f k2 (t197 ++ a3) a1).bind fun bt199 => (if bt199.1 = a0 then (if bt199.2.1.toList = a3.toList then (if bt199.2.2 = 0 then (if (t197.size : Int) = a1 then (weirkeeperlaw01_PackBack.j2 k2 l2 a3) else (some false)) else (some false)) else (some false)) else (some false))) else (none)) else (weirkeeperlaw01_PackBack.j2 k2 l2 a3)) = some true := H
              have A16 := Aside0.mk A160
              clear A160
              have HC17 := Aside0.mk H
              clear H
              go_upto_if 57 with (first | ((with_reducible refine gate_callee (f := 16) rfl ?_); refine goesL_ (some 53) rfl rfl Try.func16 (by kernel_rfl) rfl #[.int .u64 a0, .int .i64 a1] rfl (by (try simp only [List.map_toArray, List.map_cons, List.map_nil]); first | done | rfl | (simp only [List.length_drop, List.length_take]; rfl)) ?_; (with_reducible refine (pack_Num.calls k2 a0 a1 t197 t198 _ A16.out).mono ?_); rintro e w18 ⟨rfl, hb⟩; refine ⟨_, rfl, ?_⟩; have n0_ := Aside0.mk (below_step (by repeat (first | (with_reducible first | exact HB.out | apply below_alloc | apply pw_below_drewN | apply below_drew1) | exact HB.out)) hb); clear HB; have HB := n0_; clear n0_; (try clear hb); (try clear hb2); (try clear hk); (try clear hi)))
              (try simp only [Act.put, List.setIfInBounds_toArray, List.set_cons_zero, List.set_cons_succ])
              go_cut [] (fun wc => ∃ (kq : Nat), Aside0 (weirkeeperlaw01_PackBack.j2 kq l2 a3 = some true) ∧ Aside0 (kq ≤ k2) ∧ Aside0 (Below w.heap.size w wc))
              case first =>
                have H := HC17.out
                clear HC17
                by_cases c19 : t198 = 0
                · rw [if_pos c19] at H
                  have c19b0 : (t198 == 0) = true := beq_iff_eq.mpr c19
                  have c19b1 : (t198 != 0) = false := bne_eq_false_iff_eq.mpr c19
                  clear c19
                  (first | rw [c19b0] | (simp only [i64_w, i32_w]; rw [c19b0]) | skip)
                  by_cases c20 : t197.size + a3.size ≤ 9223372036854775807
                  · rw [if_pos c20] at H
                    have c20b0 := eq_true c20
                    have c20b1 : decide (t197.size + a3.size ≤ 9223372036854775807) = true := decide_eq_true c20
                    try have c20b2 : (9223372036854775807 < t197.size + a3.size) = False := eq_false (Nat.not_lt.2 c20)
                    clear c20
                    replace H := Option.bind_eq_some_iff.mp H
                    obtain ⟨⟨t199, t200, t201⟩, A210, H⟩ := H
                    replace H : (if t199 = a0 then (if t200.toList = a3.toList then (if t201 = 0 then (if (t197.size : Int) = a1 then (weirkeeperlaw01_PackBack.j2 k2 l2 a3) else (some false)) else (some false)) else (some false)) else (some false)) = some true := H
                    have A21 := Aside0.mk A210
                    clear A210
                    by_cases c22 : t199 = a0
                    · rw [if_pos c22] at H
                      have c22b0 : (t199 == a0) = true := beq_iff_eq.mpr c22
                      have c22b1 : (t199 != a0) = false := bne_eq_false_iff_eq.mpr c22
                      clear c22
                      by_cases c23 : t200.toList = a3.toList
                      · rw [if_pos c23] at H
                        have c23b0 : (t200.toList == a3.toList) = true := beq_iff_eq.mpr c23
                        have c23b1 : (t200.toList != a3.toList) = false := bne_eq_false_iff_eq.mpr c23
                        clear c23
                        by_cases c24 : t201 = 0
                        · rw [if_pos c24] at H
                          have c24b0 : (t201 == 0) = true := beq_iff_eq.mpr c24
                          have c24b1 : (t201 != 0) = false := bne_eq_false_iff_eq.mpr c24
                          clear c24
                          by_cases c25 : (t197.size : Int) = a1
                          · rw [if_pos c25] at H
                            have c25b0 : ((t197.size : Int) == a1) = true := beq_iff_eq.mpr c25
                            have c25b1 : ((t197.size : Int) != a1) = false := bne_eq_false_iff_eq.mpr c25
                            clear c25
                            have H' := Aside0.mk H
                            clear H
                            go_wp2_with (first | ((with_reducible refine gate_callee (f := 18) rfl ?_); refine goesL_ (some 63) rfl rfl Try.func18 (by kernel_rfl) rfl #[.string (t197 ++ a3), .int .i64 a1] rfl (by (try simp only [List.map_toArray, List.map_cons, List.map_nil]); first | done | rfl | (simp only [List.length_drop, List.length_take]; rfl)) ?_; (with_reducible refine (pack_Take.calls k2 (t197 ++ a3) a1 t199 t200 t201 _ A21.out).mono ?_); rintro e w' ⟨rfl, ⟨nd, rfl⟩⟩; refine ⟨_, rfl, ?_⟩))
                            go_meet
                            case rel => exact ⟨_, H', ⟨by have := HJ4.out; have := HK2.out; first | omega | exact Nat.le_refl _⟩, ⟨by repeat (first | (with_reducible first | exact HB.out | apply below_alloc | apply pw_below_drewN | apply below_drew1) | exact HB.out)⟩⟩
                          · rw [if_neg c25] at H
                            have c25b0 : ((t197.size : Int) == a1) = false := beq_eq_false_iff_ne.mpr c25
                            have c25b1 : ((t197.size : Int) != a1) = true := bne_iff_ne.mpr c25
                            exact absurd H (by simp)
                        · rw [if_neg c24] at H
                          have c24b0 : (t201 == 0) = false := beq_eq_false_iff_ne.mpr c24
                          have c24b1 : (t201 != 0) = true := bne_iff_ne.mpr c24
                          exact absurd H (by simp)
                      · rw [if_neg c23] at H
                        have c23b0 : (t200.toList == a3.toList) = false := beq_eq_false_iff_ne.mpr c23
                        have c23b1 : (t200.toList != a3.toList) = true := bne_iff_ne.mpr c23
                        exact absurd H (by simp)
                    · rw [if_neg c22] at H
                      have c22b0 : (t199 == a0) = false := beq_eq_false_iff_ne.mpr c22
                      have c22b1 : (t199 != a0) = true := bne_iff_ne.mpr c22
                      exact absurd H (by simp)
                  · rw [if_neg c20] at H
                    exact absurd H (by simp)
                · rw [if_neg c19] at H
                  have c19b0 : (t198 == 0) = false := beq_eq_false_iff_ne.mpr c19
                  have c19b1 : (t198 != 0) = true := bne_iff_ne.mpr c19
                  (first | rw [c19b0] | (simp only [i64_w, i32_w]; rw [c19b0]) | skip)
                  have H' := Aside0.mk H
                  clear H
                  go_wp2
                  go_meet
                  case rel => exact ⟨_, H', ⟨by have := HJ4.out; have := HK2.out; first | omega | exact Nat.le_refl _⟩, ⟨by repeat (first | (with_reducible first | exact HB.out | apply below_alloc | apply pw_below_drewN | apply below_drew1) | exact HB.out)⟩⟩
              case rest =>
                clear HC17
                try clear c1
                try clear p1
                try clear q1
                try clear hx1
                try clear c2
                try clear p2
                try clear c5
                try clear c6
                try clear c6b0
                try clear c6b1
                try clear p6
                try clear c7
                try clear c10
                try clear c10b0
                try clear c11
                try clear c11b0
                try clear c12
                try clear c12b0
                try clear c13
                try clear c13b0
                try clear c13b1
                try clear c15
                try clear c16
                try clear c18
                try clear c19
                try clear c19b0
                try clear c19b1
                try clear p19
                try clear q19
                try clear hx19
                try clear c20
                try clear c20b0
                try clear c20b1
                try clear c20b2
                try clear c22
                try clear c22b0
                try clear c22b1
                try clear c23
                try clear c23b0
                try clear c23b1
                try clear c24
                try clear c24b0
                try clear c24b1
                try clear c25
                try clear c25b0
                try clear c25b1
                try clear hx195_0
                try clear p195
                try clear p2
                try clear q195
                obtain ⟨kq, HA, HJ16, HB⟩ := hcut
                cases kq with
                | zero => exact absurd HA.out (by simp [weirkeeperlaw01_PackBack.j2])
                | succ kj16 =>
                  have H := HA.out
                  clear HA
                  simp only [weirkeeperlaw01_PackBack.j2] at H
                  replace H := Option.bind_eq_some_iff.mp H
                  obtain ⟨⟨t202, t203⟩, A260, H⟩ := H
                  replace H : ((pack_Parts.f kj16 t202).bind fun bt204 => (if t203 = 0 then (if bt204.2 = 0 then ((weirkeeperref01_Same.f kj16 bt204.1 l2).bind fun t208 => (weirkeeperlaw01_PackBack.j3 kj16 l2 a3 (!t208))) else (weirkeeperlaw01_PackBack.j3 kj16 l2 a3 true)) else (weirkeeperlaw01_PackBack.j3 kj16 l2 a3 true))) = some true := H
                  have A26 := Aside0.mk A260
                  clear A260
                  replace H := Option.bind_eq_some_iff.mp H
                  obtain ⟨⟨t204, t205⟩, A270, H⟩ := H
                  replace H : (if t203 = 0 then (if t205 = 0 then ((weirkeeperref01_Same.f kj16 t204 l2).bind fun t208 => (weirkeeperlaw01_PackBack.j3 kj16 l2 a3 (!t208))) else (weirkeeperlaw01_PackBack.j3 kj16 l2 a3 true)) else (weirkeeperlaw01_PackBack.j3 kj16 l2 a3 true)) = some true := H
                  have A27 := Aside0.mk A270
                  clear A270
                  have HC28 := Aside0.mk H
                  clear H
                  go_upto_region 16 with (first | ((with_reducible refine gate_callee (f := 20) rfl ?_); refine goesL_ (some 87) rfl rfl Try.func20 (by kernel_rfl) rfl #[.slice A2 l2.length c2] rfl (by (try simp only [List.map_toArray, List.map_cons, List.map_nil]); first | done | rfl | (simp only [List.length_drop, List.length_take]; rfl)) ?_; (with_reducible refine (pack_Texts.calls kj16 _ _ l2 t202 t203 _ ?side1 ?side2 A26.out).mono ?_); (case side1 => repeat (first | exact (Kd.C_below HR2.out HB.out) | (with_reducible refine Kd.C_alloc ?_ _) | (with_reducible refine Kd.C_drewN ?_ _) | (with_reducible refine Kd.C_drew ?_))); (case side2 => exact HC2.out); rintro e w29 ⟨rfl, hb⟩; refine ⟨_, rfl, ?_⟩; have n0_ := Aside0.mk (below_step (by repeat (first | (with_reducible first | exact HB.out | apply below_alloc | apply pw_below_drewN | apply below_drew1) | exact HB.out)) hb); clear HB; have HB := n0_; clear n0_; (try clear hb); (try clear hb2); (try clear hk); (try clear hi)) | ((with_reducible refine gate_callee (f := 24) rfl ?_); refine goesL_ (some 92) rfl rfl Try.func24 (by kernel_rfl) rfl #[.string t202] rfl (by (try simp only [List.map_toArray, List.map_cons, List.map_nil]); first | done | rfl | (simp only [List.length_drop, List.length_take]; rfl)) ?_; (with_reducible refine (pack_Parts.calls kj16 t202 t204 t205 _ A27.out).mono ?_); rintro e w30 ⟨v206, rfl, ho0, hb⟩; refine ⟨_, rfl, ?_⟩; have n0_ := Aside0.mk (Kd.R_lower ho0 (below_size (by repeat (first | (with_reducible first | exact HB.out | apply below_alloc | apply pw_below_drewN | apply below_drew1) | exact HB.out)))); have n1_ := Aside0.mk (below_step (by repeat (first | (with_reducible first | exact HB.out | apply below_alloc | apply pw_below_drewN | apply below_drew1) | exact HB.out)) hb); clear HB; have HO207 := n0_; have HB := n1_; clear n0_ n1_; (try clear hb); (try clear hb2); (try clear hk); (try clear hi); (try clear ho0)))
                  (try simp only [Act.put, List.setIfInBounds_toArray, List.set_cons_zero, List.set_cons_succ])
                  go_cut [106] (fun v106 wc => ∃ (kq : Nat) (x106_27 : Bool), v106 = .bool x106_27 ∧ Aside0 (weirkeeperlaw01_PackBack.j3 kq l2 a3 x106_27 = some true) ∧ Aside0 (kq ≤ kj16) ∧ Aside0 (Below w.heap.size w wc))
                  case first =>
                    have H := HC28.out
                    clear HC28
                    by_cases c31 : t203 = 0
                    · rw [if_pos c31] at H
                      have c31b0 : (t203 == 0) = true := beq_iff_eq.mpr c31
                      have c31b1 : (t203 != 0) = false := bne_eq_false_iff_eq.mpr c31
                      clear c31
                      (first | rw [c31b0] | (simp only [i64_w, i32_w]; rw [c31b0]) | skip)
                      by_cases c32 : t205 = 0
                      · rw [if_pos c32] at H
                        have c32b0 : (t205 == 0) = true := beq_iff_eq.mpr c32
                        have c32b1 : (t205 != 0) = false := bne_eq_false_iff_eq.mpr c32
                        clear c32
                        replace H := Option.bind_eq_some_iff.mp H
                        obtain ⟨t208, A330, H⟩ := H
                        replace H : (weirkeeperlaw01_PackBack.j3 kj16 l2 a3 (!t208)) = some true := H
                        have A33 := Aside0.mk A330
                        clear A330
                        have H' := Aside0.mk H
                        clear H
                        obtain ⟨Ao34, co34, eo34⟩ := Kd.R_slice HO207.out
                        subst eo34
                        go_wp2_with (first | (go_at_call 26; (with_reducible refine (weirkeeperref01_Same.calls kj16 _ _ t204 _ _ l2 t208 _ ?side1 ?side2 ?side3 ?side4 A33.out).mono ?_); (case side1 => repeat (first | exact (Kd.R_reads' HO207.out).2.2 | (with_reducible refine Kd.C_alloc ?_ _) | (with_reducible refine Kd.C_drewN ?_ _) | (with_reducible refine Kd.C_drew ?_))); (case side2 => exact (Kd.R_reads' HO207.out).2.1); (case side3 => repeat (first | exact (Kd.C_below HR2.out HB.out) | (with_reducible refine Kd.C_alloc ?_ _) | (with_reducible refine Kd.C_drewN ?_ _) | (with_reducible refine Kd.C_drew ?_))); (case side4 => exact HC2.out); rintro e w' ⟨rfl, ⟨nd, rfl⟩⟩))
                        go_meet
                        case rel => exact ⟨_, (!t208), (by first | rfl | (simp; done) | (simp [*]; done)), H', ⟨by have := HJ4.out; have := HK2.out; have := HJ16.out; first | omega | exact Nat.le_refl _⟩, ⟨by repeat (first | (with_reducible first | exact HB.out | apply below_alloc | apply pw_below_drewN | apply below_drew1) | exact HB.out)⟩⟩
                      · rw [if_neg c32] at H
                        have c32b0 : (t205 == 0) = false := beq_eq_false_iff_ne.mpr c32
                        have c32b1 : (t205 != 0) = true := bne_iff_ne.mpr c32
                        have H' := Aside0.mk H
                        clear H
                        go_wp2
                        go_meet
                        case rel => exact ⟨_, (true), (by first | rfl | (simp; done) | (simp [*]; done)), H', ⟨by have := HJ4.out; have := HK2.out; have := HJ16.out; first | omega | exact Nat.le_refl _⟩, ⟨by repeat (first | (with_reducible first | exact HB.out | apply below_alloc | apply pw_below_drewN | apply below_drew1) | exact HB.out)⟩⟩
                    · rw [if_neg c31] at H
                      have c31b0 : (t203 == 0) = false := beq_eq_false_iff_ne.mpr c31
                      have c31b1 : (t203 != 0) = true := bne_iff_ne.mpr c31
                      (first | rw [c31b0] | (simp only [i64_w, i32_w]; rw [c31b0]) | skip)
                      have H' := Aside0.mk H
                      clear H
                      go_wp2
                      go_meet
                      case rel => exact ⟨_, (true), (by first | rfl | (simp; done) | (simp [*]; done)), H', ⟨by have := HJ4.out; have := HK2.out; have := HJ16.out; first | omega | exact Nat.le_refl _⟩, ⟨by repeat (first | (with_reducible first | exact HB.out | apply below_alloc | apply pw_below_drewN | apply below_drew1) | exact HB.out)⟩⟩
                  case rest =>
                    clear HC28
                    try clear c1
                    try clear p1
                    try clear q1
                    try clear hx1
                    try clear c2
                    try clear p2
                    try clear c3
                    try clear c5
                    try clear c6
                    try clear c6b0
                    try clear c6b1
                    try clear p6
                    try clear c7
                    try clear c10
                    try clear c10b0
                    try clear c11
                    try clear c11b0
                    try clear c12
                    try clear c12b0
                    try clear c13
                    try clear c13b0
                    try clear c13b1
                    try clear c15
                    try clear c16
                    try clear c18
                    try clear c19
                    try clear c19b0
                    try clear c19b1
                    try clear p19
                    try clear q19
                    try clear hx19
                    try clear c20
                    try clear c20b0
                    try clear c20b1
                    try clear c20b2
                    try clear c22
                    try clear c22b0
                    try clear c22b1
                    try clear c23
                    try clear c23b0
                    try clear c23b1
                    try clear c24
                    try clear c24b0
                    try clear c24b1
                    try clear c25
                    try clear c25b0
                    try clear c25b1
                    try clear c31
                    try clear c31b0
                    try clear c31b1
                    try clear c32
                    try clear c32b0
                    try clear c32b1
                    try clear hx195_0
                    try clear p1
                    try clear p19
                    try clear p195
                    try clear p2
                    try clear p6
                    try clear q1
                    try clear q19
                    try clear q195
                    obtain ⟨kq, x106_27, rfl, HA, HJ27, HB⟩ := hcut
                    cases kq with
                    | zero => exact absurd HA.out (by simp [weirkeeperlaw01_PackBack.j3])
                    | succ kj27 =>
                      have H := HA.out
                      clear HA
                      simp only [weirkeeperlaw01_PackBack.j3] at H
                      by_cases c35 : x106_27 = true
                      · subst c35
                        have H1 : (some false) = some true := by rw [if_pos rfl] at H; exact H
                        clear H
                        have H := H1
                        clear H1
                        exact absurd H (by simp)
                      · replace c35 := Bool.eq_false_iff.mpr c35
                        subst c35
                        have H1 : (weirkeeperlaw01_PackBack.l1 kj27 l2 a3 (wrap64 ((l2.length : Int) - 1))) = some true := by rw [if_neg (show ¬ (false = true) by decide)] at H; exact H
                        clear H
                        have H := H1
                        clear H1
                        have H' := Aside0.mk H
                        clear H
                        go_wp2
                        go_loopg [20] kj27 (fun kq v20 w' => ∃ (x20_5 : Int), v20 = .int .i64 x20_5 ∧ Aside0 (weirkeeperlaw01_PackBack.l1 kq l2 a3 x20_5 = some true) ∧ Aside0 (kq ≤ kj27) ∧ Aside0 (Below w.heap.size w w'))
                        case atStart => exact ⟨(wrap64 ((l2.length : Int) - 1)), (by first | rfl | (simp; done) | (simp [*]; done)), H', ⟨Nat.le_refl _⟩, ⟨by repeat (first | (with_reducible first | exact HB.out | apply below_alloc | apply pw_below_drewN | apply below_drew1) | exact HB.out)⟩⟩
                        case round =>
                          clear H'
                          try clear c1
                          try clear p1
                          try clear q1
                          try clear hx1
                          try clear c2
                          try clear p2
                          try clear c3
                          try clear c5
                          try clear c6
                          try clear c6b0
                          try clear c6b1
                          try clear p6
                          try clear c7
                          try clear c10
                          try clear c10b0
                          try clear c11
                          try clear c11b0
                          try clear c12
                          try clear c12b0
                          try clear c13
                          try clear c13b0
                          try clear c13b1
                          try clear c15
                          try clear c16
                          try clear c18
                          try clear c19
                          try clear c19b0
                          try clear c19b1
                          try clear p19
                          try clear q19
                          try clear hx19
                          try clear c20
                          try clear c20b0
                          try clear c20b1
                          try clear c20b2
                          try clear c22
                          try clear c22b0
                          try clear c22b1
                          try clear c23
                          try clear c23b0
                          try clear c23b1
                          try clear c24
                          try clear c24b0
                          try clear c24b1
                          try clear c25
                          try clear c25b0
                          try clear c25b1
                          try clear c31
                          try clear c31b0
                          try clear c31b1
                          try clear c32
                          try clear c32b0
                          try clear c32b1
                          try clear c35
                          try clear hx195_0
                          try clear p1
                          try clear p19
                          try clear p195
                          try clear p2
                          try clear p6
                          try clear q1
                          try clear q19
                          try clear q195
                          obtain ⟨x20_5, rfl, HA, HK5, HB⟩ := hrel
                          cases gk with
                          | zero => exact absurd HA.out (by simp [weirkeeperlaw01_PackBack.l1])
                          | succ k5 =>
                            have H := HA.out
                            clear HA
                            simp only [weirkeeperlaw01_PackBack.l1] at H
                            by_cases c36 : x20_5 ≥ 0
                            · rw [if_pos c36] at H
                              have c36b0 : decide (0 ≤ x20_5) = true := decide_eq_true c36
                              clear c36
                              by_cases c37 : 0 ≤ x20_5
                              · rw [if_pos c37] at H
                                have c37b0 : decide (0 ≤ x20_5) = true := decide_eq_true c37
                                clear c37
                                by_cases c38 : x20_5 < (l2.length : Int)
                                · rw [if_pos c38] at H
                                  have c38b0 : decide (x20_5 < (l2.length : Int)) = true := decide_eq_true c38
                                  clear c38
                                  replace H := Option.bind_eq_some_iff.mp H
                                  obtain ⟨⟨t210, t211⟩, A390, H⟩ := H
                                  replace H : (if t210.size + a3.size ≤ 9223372036854775807 then ((pack_TakeText.f k5 (t210 ++ a3)).bind fun bt212 => (if t211 = 0 then (if bt212.2.2 = 0 then (if bt212.1.toList = (rdOf ByteArray.empty l2 x20_5).toList then (if bt212.2.1.toList = a3.toList then (weirkeeperlaw01_PackBack.l1 k5 l2 a3 (wrap64 (x20_5 - 1))) else (some false)) else (some false)) else (some false)) else (some false))) else (none)) = some true := H
                                  have A39 := Aside0.mk A390
                                  clear A390
                                  by_cases c40 : t210.size + a3.size ≤ 9223372036854775807
                                  · rw [if_pos c40] at H
                                    have c40b0 := eq_true c40
                                    have c40b1 : decide (t210.size + a3.size ≤ 9223372036854775807) = true := decide_eq_true c40
                                    try have c40b2 : (9223372036854775807 < t210.size + a3.size) = False := eq_false (Nat.not_lt.2 c40)
                                    clear c40
                                    replace H := Option.bind_eq_some_iff.mp H
                                    obtain ⟨⟨t212, t213, t214⟩, A410, H⟩ := H
                                    replace H : (if t211 = 0 then (if t214 = 0 then (if t212.toList = (rdOf ByteArray.empty l2 x20_5).toList then (if t213.toList = a3.toList then (weirkeeperlaw01_PackBack.l1 k5 l2 a3 (wrap64 (x20_5 - 1))) else (some false)) else (some false)) else (some false)) else (some false)) = some true := H
                                    have A41 := Aside0.mk A410
                                    clear A410
                                    by_cases c42 : t211 = 0
                                    · rw [if_pos c42] at H
                                      have c42b0 : (t211 == 0) = true := beq_iff_eq.mpr c42
                                      have c42b1 : (t211 != 0) = false := bne_eq_false_iff_eq.mpr c42
                                      clear c42
                                      by_cases c43 : t214 = 0
                                      · rw [if_pos c43] at H
                                        have c43b0 : (t214 == 0) = true := beq_iff_eq.mpr c43
                                        have c43b1 : (t214 != 0) = false := bne_eq_false_iff_eq.mpr c43
                                        clear c43
                                        by_cases c44 : t212.toList = (rdOf ByteArray.empty l2 x20_5).toList
                                        · rw [if_pos c44] at H
                                          have c44b0 : (t212.toList == (rdOf ByteArray.empty l2 x20_5).toList) = true := beq_iff_eq.mpr c44
                                          have c44b1 : (t212.toList != (rdOf ByteArray.empty l2 x20_5).toList) = false := bne_eq_false_iff_eq.mpr c44
                                          clear c44
                                          by_cases c45 : t213.toList = a3.toList
                                          · rw [if_pos c45] at H
                                            have c45b0 : (t213.toList == a3.toList) = true := beq_iff_eq.mpr c45
                                            have c45b1 : (t213.toList != a3.toList) = false := bne_eq_false_iff_eq.mpr c45
                                            clear c45
                                            have H' := Aside0.mk H
                                            clear H
                                            have p209 : 0 ≤ (x20_5 : Int) := of_decide_eq_true (by first | (with_reducible assumption) | assumption)
                                            have q209 : x20_5 < (l2.length : Int) := of_decide_eq_true (by first | (with_reducible assumption) | assumption)
                                            obtain ⟨ad209, e209, hx209_0⟩ := Kd.at_string HR2.out x20_5 p209 q209
                                            cases e209
                                            replace hx209_0 := (HB.out.cell (World.block_lt_of_cell? w _ hx209_0)).trans hx209_0
                                            replace p209 := eq_true p209
                                            replace q209 := eq_true q209
                                            go_wp2_with (first | ((with_reducible refine gate_callee (f := 27) rfl ?_); refine goesL_ (some 119) rfl rfl Try.func27 (by kernel_rfl) rfl #[.string (rdOf ByteArray.empty l2 x20_5)] rfl (by (try simp only [List.map_toArray, List.map_cons, List.map_nil]); first | done | rfl | (simp only [List.length_drop, List.length_take]; rfl)) ?_; (with_reducible refine (pack_Text.calls k5 (rdOf ByteArray.empty l2 x20_5) t210 t211 _ A39.out).mono ?_); rintro e w46 ⟨rfl, hb⟩; refine ⟨_, rfl, ?_⟩; have n0_ := Aside0.mk (below_step (by repeat (first | (with_reducible first | exact HB.out | apply below_alloc | apply pw_below_drewN | apply below_drew1) | exact HB.out)) hb); clear HB; have HB := n0_; clear n0_; (try clear hb); (try clear hb2); (try clear hk); (try clear hi)) | ((with_reducible refine gate_callee (f := 22) rfl ?_); refine goesL_ (some 126) rfl rfl Try.func22 (by kernel_rfl) rfl #[.string (t210 ++ a3)] rfl (by (try simp only [List.map_toArray, List.map_cons, List.map_nil]); first | done | rfl | (simp only [List.length_drop, List.length_take]; rfl)) ?_; (with_reducible refine (pack_TakeText.calls k5 (t210 ++ a3) t212 t213 t214 _ A41.out).mono ?_); rintro e w' ⟨rfl, ⟨nd, rfl⟩⟩; refine ⟨_, rfl, ?_⟩; have p215 : 0 ≤ (x20_5 : Int) := of_decide_eq_true (by first | (with_reducible assumption) | assumption); have q215 : x20_5 < (l2.length : Int) := of_decide_eq_true (by first | (with_reducible assumption) | assumption); obtain ⟨ad215, e215, hx215_0⟩ := Kd.at_string HR2.out x20_5 p215 q215; obtain rfl : ad209 = ad215 := (by injection e215); replace hx215_0 := (HB.out.cell (World.block_lt_of_cell? w _ hx215_0)).trans hx215_0; replace p215 := eq_true p215; replace q215 := eq_true q215))
                                            go_roundg k5
                                            case measure => have := HJ4.out; have := HK2.out; have := HJ16.out; have := HJ27.out; have := HK5.out; omega
                                            case rel => exact ⟨(wrap64 (x20_5 - 1)), (by first | rfl | (simp; done) | (simp [*]; done)), H', ⟨by have := HJ4.out; have := HK2.out; have := HJ16.out; have := HJ27.out; have := HK5.out; omega⟩, ⟨by repeat (first | (with_reducible first | exact HB.out | apply below_alloc | apply pw_below_drewN | apply below_drew1) | exact HB.out)⟩⟩
                                          · rw [if_neg c45] at H
                                            have c45b0 : (t213.toList == a3.toList) = false := beq_eq_false_iff_ne.mpr c45
                                            have c45b1 : (t213.toList != a3.toList) = true := bne_iff_ne.mpr c45
                                            exact absurd H (by simp)
                                        · rw [if_neg c44] at H
                                          have c44b0 : (t212.toList == (rdOf ByteArray.empty l2 x20_5).toList) = false := beq_eq_false_iff_ne.mpr c44
                                          have c44b1 : (t212.toList != (rdOf ByteArray.empty l2 x20_5).toList) = true := bne_iff_ne.mpr c44
                                          exact absurd H (by simp)
                                      · rw [if_neg c43] at H
                                        have c43b0 : (t214 == 0) = false := beq_eq_false_iff_ne.mpr c43
                                        have c43b1 : (t214 != 0) = true := bne_iff_ne.mpr c43
                                        exact absurd H (by simp)
                                    · rw [if_neg c42] at H
                                      have c42b0 : (t211 == 0) = false := beq_eq_false_iff_ne.mpr c42
                                      have c42b1 : (t211 != 0) = true := bne_iff_ne.mpr c42
                                      exact absurd H (by simp)
                                  · rw [if_neg c40] at H
                                    exact absurd H (by simp)
                                · rw [if_neg c38] at H
                                  exact absurd H (by simp)
                              · rw [if_neg c37] at H
                                exact absurd H (by simp)
                            · rw [if_neg c36] at H
                              have c36b0 : decide (0 ≤ x20_5) = false := decide_eq_false c36
                              clear c36
                              replace H := Option.bind_eq_some_iff.mp H
                              obtain ⟨⟨t216, t217⟩, A470, H⟩ := H
                              replace H : (if t217 = 0 then ((pack_Texts.f k5 t216).bind fun bt220 => (if bt220.1.toList = a3.toList then (if bt220.2 = 0 then ((weirkeeperlaw01_awake.f k5).bind fun t222 => (some t222)) else (some false)) else (some false))) else ((weirkeeperlaw01_awake.f k5).bind fun t223 => (some t223))) = some true := H
                              have A47 := Aside0.mk A470
                              clear A470
                              by_cases c48 : t217 = 0
                              · rw [if_pos c48] at H
                                have c48b0 : (t217 == 0) = true := beq_iff_eq.mpr c48
                                have c48b1 : (t217 != 0) = false := bne_eq_false_iff_eq.mpr c48
                                clear c48
                                replace H := Option.bind_eq_some_iff.mp H
                                obtain ⟨⟨t220, t221⟩, A490, H⟩ := H
                                replace H : (if t220.toList = a3.toList then (if t221 = 0 then ((weirkeeperlaw01_awake.f k5).bind fun t222 => (some t222)) else (some false)) else (some false)) = some true := H
                                have A49 := Aside0.mk A490
                                clear A490
                                by_cases c50 : t220.toList = a3.toList
                                · rw [if_pos c50] at H
                                  have c50b0 : (t220.toList == a3.toList) = true := beq_iff_eq.mpr c50
                                  have c50b1 : (t220.toList != a3.toList) = false := bne_eq_false_iff_eq.mpr c50
                                  clear c50
                                  by_cases c51 : t221 = 0
                                  · rw [if_pos c51] at H
                                    have c51b0 : (t221 == 0) = true := beq_iff_eq.mpr c51
                                    have c51b1 : (t221 != 0) = false := bne_eq_false_iff_eq.mpr c51
                                    clear c51
                                    replace H := Option.bind_eq_some_iff.mp H
                                    obtain ⟨t222, A520, H⟩ := H
                                    replace H : (some t222) = some true := H
                                    have A52 := Aside0.mk A520
                                    clear A520
                                    (have H9_ := Option.some.inj H; first | subst H9_ | clear H9_)
                                    go_wp2_with (first | ((with_reducible refine gate_callee (f := 24) rfl ?_); refine goesL_ (some 151) rfl rfl Try.func24 (by kernel_rfl) rfl #[.string a3] rfl (by (try simp only [List.map_toArray, List.map_cons, List.map_nil]); first | done | rfl | (simp only [List.length_drop, List.length_take]; rfl)) ?_; (with_reducible refine (pack_Parts.calls k5 a3 t216 t217 _ A47.out).mono ?_); rintro e w53 ⟨v218, rfl, ho0, hb⟩; refine ⟨_, rfl, ?_⟩; have n0_ := Aside0.mk (Kd.R_lower ho0 (below_size (by repeat (first | (with_reducible first | exact HB.out | apply below_alloc | apply pw_below_drewN | apply below_drew1) | exact HB.out)))); have n1_ := Aside0.mk (below_step (by repeat (first | (with_reducible first | exact HB.out | apply below_alloc | apply pw_below_drewN | apply below_drew1) | exact HB.out)) hb); clear HB; have HO219 := n0_; have HB := n1_; clear n0_ n1_; (try clear hb); (try clear hb2); (try clear hk); (try clear hi); (try clear ho0); obtain ⟨Ao54, co54, eo54⟩ := Kd.R_slice HO219.out; subst eo54) | ((with_reducible refine gate_callee (f := 20) rfl ?_); refine goesL_ (some 158) rfl rfl Try.func20 (by kernel_rfl) rfl #[.slice Ao54 t216.length co54] rfl (by (try simp only [List.map_toArray, List.map_cons, List.map_nil]); first | done | rfl | (simp only [List.length_drop, List.length_take]; rfl)) ?_; (with_reducible refine (pack_Texts.calls k5 _ _ t216 t220 t221 _ ?side1 ?side2 A49.out).mono ?_); (case side1 => repeat (first | exact (Kd.R_reads' HO219.out).2.2 | (with_reducible refine Kd.C_alloc ?_ _) | (with_reducible refine Kd.C_drewN ?_ _) | (with_reducible refine Kd.C_drew ?_))); (case side2 => exact (Kd.R_reads' HO219.out).2.1); rintro e w55 ⟨rfl, hb⟩; refine ⟨_, rfl, ?_⟩; have n0_ := Aside0.mk (Kd.R_below (by (with_reducible repeat (first | apply Kd.R_alloc | apply Kd.R_drewN | apply Kd.R_drew)); exact HO219.out) hb); have n1_ := Aside0.mk (below_step (by repeat (first | (with_reducible first | exact HB.out | apply below_alloc | apply pw_below_drewN | apply below_drew1) | exact HB.out)) hb); clear HO219; clear HB; have HO219 := n0_; have HB := n1_; clear n0_ n1_; (try clear hb); (try clear hb2); (try clear hk); (try clear hi)) | (go_at_call 15; (with_reducible refine (weirkeeperlaw01_awake.calls k5 _ A52.out).mono ?_); rintro e w56 ⟨rfl, hb⟩; have n0_ := Aside0.mk (Kd.R_below (by (with_reducible repeat (first | apply Kd.R_alloc | apply Kd.R_drewN | apply Kd.R_drew)); exact HO219.out) hb); have n1_ := Aside0.mk (below_step (by repeat (first | (with_reducible first | exact HB.out | apply below_alloc | apply pw_below_drewN | apply below_drew1) | exact HB.out)) hb); clear HO219; clear HB; have HO219 := n0_; have HB := n1_; clear n0_ n1_; (try clear hb); (try clear hb2); (try clear hk); (try clear hi)))
                                    go_ret
                                    exact ⟨by first | rfl | (simp [errW_none, errW_some] <;> rfl) | (simp [*, errW_none, errW_some] <;> rfl), by repeat (first | (with_reducible first | exact HB.out | apply below_alloc | apply pw_below_drewN | apply below_drew1) | exact HB.out)⟩
                                  · rw [if_neg c51] at H
                                    have c51b0 : (t221 == 0) = false := beq_eq_false_iff_ne.mpr c51
                                    have c51b1 : (t221 != 0) = true := bne_iff_ne.mpr c51
                                    exact absurd H (by simp)
                                · rw [if_neg c50] at H
                                  have c50b0 : (t220.toList == a3.toList) = false := beq_eq_false_iff_ne.mpr c50
                                  have c50b1 : (t220.toList != a3.toList) = true := bne_iff_ne.mpr c50
                                  exact absurd H (by simp)
                              · rw [if_neg c48] at H
                                have c48b0 : (t217 == 0) = false := beq_eq_false_iff_ne.mpr c48
                                have c48b1 : (t217 != 0) = true := bne_iff_ne.mpr c48
                                replace H := Option.bind_eq_some_iff.mp H
                                obtain ⟨t223, A570, H⟩ := H
                                replace H : (some t223) = some true := H
                                have A57 := Aside0.mk A570
                                clear A570
                                (have H9_ := Option.some.inj H; first | subst H9_ | clear H9_)
                                go_wp2_with (first | ((with_reducible refine gate_callee (f := 24) rfl ?_); refine goesL_ (some 151) rfl rfl Try.func24 (by kernel_rfl) rfl #[.string a3] rfl (by (try simp only [List.map_toArray, List.map_cons, List.map_nil]); first | done | rfl | (simp only [List.length_drop, List.length_take]; rfl)) ?_; (with_reducible refine (pack_Parts.calls k5 a3 t216 t217 _ A47.out).mono ?_); rintro e w58 ⟨v218, rfl, ho0, hb⟩; refine ⟨_, rfl, ?_⟩; have n0_ := Aside0.mk (Kd.R_lower ho0 (below_size (by repeat (first | (with_reducible first | exact HB.out | apply below_alloc | apply pw_below_drewN | apply below_drew1) | exact HB.out)))); have n1_ := Aside0.mk (below_step (by repeat (first | (with_reducible first | exact HB.out | apply below_alloc | apply pw_below_drewN | apply below_drew1) | exact HB.out)) hb); clear HB; have HO219 := n0_; have HB := n1_; clear n0_ n1_; (try clear hb); (try clear hb2); (try clear hk); (try clear hi); (try clear ho0)) | ((with_reducible refine gate_callee (f := 15) rfl ?_); refine goesL_ (some 171) rfl rfl Try.func15 (by kernel_rfl) rfl #[] rfl (by (try simp only [List.map_toArray, List.map_cons, List.map_nil]); first | done | rfl | (simp only [List.length_drop, List.length_take]; rfl)) ?_; (with_reducible refine (weirkeeperlaw01_awake.calls k5 _ A57.out).mono ?_); rintro e w59 ⟨rfl, hb⟩; refine ⟨_, rfl, ?_⟩; have n0_ := Aside0.mk (Kd.R_below (by (with_reducible repeat (first | apply Kd.R_alloc | apply Kd.R_drewN | apply Kd.R_drew)); exact HO219.out) hb); have n1_ := Aside0.mk (below_step (by repeat (first | (with_reducible first | exact HB.out | apply below_alloc | apply pw_below_drewN | apply below_drew1) | exact HB.out)) hb); clear HO219; clear HB; have HO219 := n0_; have HB := n1_; clear n0_ n1_; (try clear hb); (try clear hb2); (try clear hk); (try clear hi)))
                                go_ret
                                exact ⟨by first | rfl | (simp [errW_none, errW_some] <;> rfl) | (simp [*, errW_none, errW_some] <;> rfl), by repeat (first | (with_reducible first | exact HB.out | apply below_alloc | apply pw_below_drewN | apply below_drew1) | exact HB.out)⟩

end Go.Proofs.Ytgccimhdbphenaa.F
