/- Contracts of Go functions of the seat Ythidkdlmpkeogaa: what a call comes to; no condition but those that each theorem names. -/
import Derived.Test.YthidkdlmpkeogaaFPre
import Derived.Test.YthidkdlmpkeogaaFflatx2
import Derived.Test.YthidkdlmpkeogaaFflatx0
import Derived.Test.YthidkdlmpkeogaaFflatx3
import Derived.Test.YthidkdlmpkeogaaFlaw13awake
import Derived.Test.YthidkdlmpkeogaaFlaw13fit
import Derived.Test.YthidkdlmpkeogaaFlaw13short
import Derived.Test.YthidkdlmpkeogaaFref03
import Derived.Test.YthidkdlmpkeogaaFref09
import Derived.Test.YthidkdlmpkeogaaFref13x8
namespace Go.Proofs.Ythidkdlmpkeogaa.F
open Go.RowKit Go.Proofs.YthidkdlmpkeogaaW.PrintWords Go.Proofs.YthidkdlmpkeogaaW.PrintLast Go.Proofs.YthidkdlmpkeogaaW.PrintMore
attribute [local go_sem] max2_int min2_int max_two min_two max_three min_three max_four min_four   -- for this text's walks alone
set_option linter.unusedVariables false
set_option linter.unusedSimpArgs false

theorem ite_ok_law13FlatBack {α} (c : Prop) [Decidable c] (a b : α) (w : World) : (if c then Result.ok a w else Result.ok b w) = Result.ok (if c then a else b) w := by split <;> rfl
theorem ite_ff_law13FlatBack (a b : Bool) : (if (!a) = true then false else b) = (a && b) := by cases a <;> rfl
theorem ite_fg_law13FlatBack (a b : Bool) : (if a = false then false else b) = (a && b) := by cases a <;> rfl
attribute [local go_sem] ite_ok_law13FlatBack ite_ff_law13FlatBack ite_fg_law13FlatBack Bool.not_and Bool.and_true
/-! ### weirkeeperlaw13_FlatBack: function 6 -/
mutual
def weirkeeperlaw13_FlatBack.j0 : Nat → List (S48) → List (S50) → List (S42) → ByteArray → Bool → ByteArray → ByteArray → Bool → Option (Bool)
  | 0, _, _, _, _, _, _, _, _ => none
  | k + 1, x0, x1, x2, x4, x45, x510000, x510001, x510002 => if x45 = true then ((weirkeeperlaw13_awake.f k).bind fun t515 => (some t515)) else ((flat_Notes.f k x0).bind fun bt516 => (if bt516.2 = 0 then (if bt516.1.size + x4.size ≤ 9223372036854775807 then ((flat_TakeNotes.f k (bt516.1 ++ x4)).bind fun bt518 => ((weirkeeperref09_Same.f k bt518.1 x0).bind fun t523 => (if t523 = true then (if bt518.2.1.toList = x4.toList then (if bt518.2.2 = 0 then (weirkeeperlaw13_FlatBack.j1 k x1 x2 x4 x510000 x510001 x510002) else (some false)) else (some false)) else (some false)))) else (none)) else (weirkeeperlaw13_FlatBack.j1 k x1 x2 x4 x510000 x510001 x510002)))
def weirkeeperlaw13_FlatBack.j1 : Nat → List (S50) → List (S42) → ByteArray → ByteArray → ByteArray → Bool → Option (Bool)
  | 0, _, _, _, _, _, _ => none
  | k + 1, x1, x2, x4, x510000, x510001, x510002 => (flat_Pairs.f k x1).bind fun bt524 => (if bt524.2 = 0 then (if bt524.1.size + x4.size ≤ 9223372036854775807 then ((flat_TakePairs.f k (bt524.1 ++ x4)).bind fun bt526 => ((weirkeeperref03_Same.f k bt526.1 x1).bind fun t531 => (if t531 = true then (if bt526.2.1.toList = x4.toList then (if bt526.2.2 = 0 then (weirkeeperlaw13_FlatBack.j2 k x2 x4 x510000 x510001 x510002) else (some false)) else (some false)) else (some false)))) else (none)) else (weirkeeperlaw13_FlatBack.j2 k x2 x4 x510000 x510001 x510002))
def weirkeeperlaw13_FlatBack.j2 : Nat → List (S42) → ByteArray → ByteArray → ByteArray → Bool → Option (Bool)
  | 0, _, _, _, _, _ => none
  | k + 1, x2, x4, x510000, x510001, x510002 => (flat_Changes.f k x2).bind fun bt532 => (if bt532.2 = 0 then (if bt532.1.size + x4.size ≤ 9223372036854775807 then ((flat_TakeChanges.f k (bt532.1 ++ x4)).bind fun bt534 => ((weirkeeperref13_Same.f k bt534.1 x2).bind fun t539 => (if t539 = true then (if bt534.2.1.toList = x4.toList then (if bt534.2.2 = 0 then (weirkeeperlaw13_FlatBack.j3 k x4 x510000 x510001 x510002) else (some false)) else (some false)) else (some false)))) else (none)) else (weirkeeperlaw13_FlatBack.j3 k x4 x510000 x510001 x510002))
def weirkeeperlaw13_FlatBack.j3 : Nat → ByteArray → ByteArray → ByteArray → Bool → Option (Bool)
  | 0, _, _, _, _ => none
  | k + 1, x4, x510000, x510001, x510002 => (flat_Range.f k x510000 x510001 x510002).bind fun bt540 => (if bt540.2 = 0 then (if bt540.1.size + x4.size ≤ 9223372036854775807 then ((flat_TakeRange.f k (bt540.1 ++ x4)).bind fun bt542 => (if (!(bt542.1.toList == x510000.toList) || (!(bt542.2.1.toList == x510001.toList) || (!(bt542.2.2.1 == x510002)))) = true then (some false) else (if bt542.2.2.2.1.toList = x4.toList then (if bt542.2.2.2.2 = 0 then ((weirkeeperlaw13_awake.f k).bind fun t548 => (some t548)) else (some false)) else (some false)))) else (none)) else ((weirkeeperlaw13_awake.f k).bind fun t549 => (some t549)))
end
def weirkeeperlaw13_FlatBack.f (k : Nat) (l0 : List (S48)) (l1 : List (S50)) (l2 : List (S42)) (a3_0 : ByteArray) (a3_1 : ByteArray) (a3_2 : Bool) (a4 : ByteArray) : Option (Bool) := (weirkeeperlaw13_fit.f k l0 l1 l2).bind fun t510 => (if t510 = true then ((weirkeeperlaw13_short.f k (([a3_0, a3_1, a4] : List ByteArray))).bind fun t514 => (weirkeeperlaw13_FlatBack.j0 k l0 l1 l2 a4 (!t514) a3_0 a3_1 a3_2)) else (weirkeeperlaw13_FlatBack.j0 k l0 l1 l2 a4 true a3_0 a3_1 a3_2))
theorem weirkeeperlaw13_FlatBack.mono_l : ∀ k, (∀ y0 y1 y2 y3 y4 y5 y6 y7, LeO (weirkeeperlaw13_FlatBack.j0 k y0 y1 y2 y3 y4 y5 y6 y7) (weirkeeperlaw13_FlatBack.j0 (k + 1) y0 y1 y2 y3 y4 y5 y6 y7)) ∧ (∀ y0 y1 y2 y3 y4 y5, LeO (weirkeeperlaw13_FlatBack.j1 k y0 y1 y2 y3 y4 y5) (weirkeeperlaw13_FlatBack.j1 (k + 1) y0 y1 y2 y3 y4 y5)) ∧ (∀ y0 y1 y2 y3 y4, LeO (weirkeeperlaw13_FlatBack.j2 k y0 y1 y2 y3 y4) (weirkeeperlaw13_FlatBack.j2 (k + 1) y0 y1 y2 y3 y4)) ∧ (∀ y0 y1 y2 y3, LeO (weirkeeperlaw13_FlatBack.j3 k y0 y1 y2 y3) (weirkeeperlaw13_FlatBack.j3 (k + 1) y0 y1 y2 y3))
  | 0 => ⟨fun _ _ _ _ _ _ _ _ r h => by simp [weirkeeperlaw13_FlatBack.j0] at h, fun _ _ _ _ _ _ r h => by simp [weirkeeperlaw13_FlatBack.j1] at h, fun _ _ _ _ _ r h => by simp [weirkeeperlaw13_FlatBack.j2] at h, fun _ _ _ _ r h => by simp [weirkeeperlaw13_FlatBack.j3] at h⟩
  | k + 1 => by
    obtain ⟨ih0, ih1, ih2, ih3⟩ := weirkeeperlaw13_FlatBack.mono_l k
    refine ⟨?_, ?_, ?_, ?_⟩
    · intro y0 y1 y2 y3 y4 y5 y6 y7
      unfold weirkeeperlaw13_FlatBack.j0
      repeat' first
      | (with_reducible exact ih0 _ _ _ _ _ _ _ _)
      | (with_reducible exact ih1 _ _ _ _ _ _)
      | (with_reducible exact ih2 _ _ _ _ _)
      | (with_reducible exact ih3 _ _ _ _)
      | (with_reducible exact flat_Changes.mono _ _)
      | (with_reducible exact flat_Notes.mono _ _)
      | (with_reducible exact flat_Pairs.mono _ _)
      | (with_reducible exact flat_Range.mono _ _ _ _)
      | (with_reducible exact flat_TakeChanges.mono _ _)
      | (with_reducible exact flat_TakeNotes.mono _ _)
      | (with_reducible exact flat_TakePairs.mono _ _)
      | (with_reducible exact flat_TakeRange.mono _ _)
      | (with_reducible exact weirkeeperlaw13_awake.mono _)
      | (with_reducible exact weirkeeperlaw13_fit.mono _ _ _ _)
      | (with_reducible exact weirkeeperlaw13_short.mono _ _)
      | (with_reducible exact weirkeeperref03_Same.mono _ _ _)
      | (with_reducible exact weirkeeperref09_Same.mono _ _ _)
      | (with_reducible exact weirkeeperref13_Same.mono _ _ _)
      | (with_reducible exact LeO.refl _)
      | (with_reducible exact LeO.none _)
      | (with_reducible refine LeO.ite ?_ ?_)
      | (with_reducible refine LeO.bind ?_ (fun _ => ?_))
      | exact ih0 _ _ _ _ _ _ _ _
      | exact ih1 _ _ _ _ _ _
      | exact ih2 _ _ _ _ _
      | exact ih3 _ _ _ _
      | exact flat_Changes.mono _ _
      | exact flat_Notes.mono _ _
      | exact flat_Pairs.mono _ _
      | exact flat_Range.mono _ _ _ _
      | exact flat_TakeChanges.mono _ _
      | exact flat_TakeNotes.mono _ _
      | exact flat_TakePairs.mono _ _
      | exact flat_TakeRange.mono _ _
      | exact weirkeeperlaw13_awake.mono _
      | exact weirkeeperlaw13_fit.mono _ _ _ _
      | exact weirkeeperlaw13_short.mono _ _
      | exact weirkeeperref03_Same.mono _ _ _
      | exact weirkeeperref09_Same.mono _ _ _
      | exact weirkeeperref13_Same.mono _ _ _
      | exact LeO.none _
      | refine LeO.ite ?_ ?_
      | refine LeO.bind ?_ (fun _ => ?_)
    · intro y0 y1 y2 y3 y4 y5
      unfold weirkeeperlaw13_FlatBack.j1
      repeat' first
      | (with_reducible exact ih0 _ _ _ _ _ _ _ _)
      | (with_reducible exact ih1 _ _ _ _ _ _)
      | (with_reducible exact ih2 _ _ _ _ _)
      | (with_reducible exact ih3 _ _ _ _)
      | (with_reducible exact flat_Changes.mono _ _)
      | (with_reducible exact flat_Notes.mono _ _)
      | (with_reducible exact flat_Pairs.mono _ _)
      | (with_reducible exact flat_Range.mono _ _ _ _)
      | (with_reducible exact flat_TakeChanges.mono _ _)
      | (with_reducible exact flat_TakeNotes.mono _ _)
      | (with_reducible exact flat_TakePairs.mono _ _)
      | (with_reducible exact flat_TakeRange.mono _ _)
      | (with_reducible exact weirkeeperlaw13_awake.mono _)
      | (with_reducible exact weirkeeperlaw13_fit.mono _ _ _ _)
      | (with_reducible exact weirkeeperlaw13_short.mono _ _)
      | (with_reducible exact weirkeeperref03_Same.mono _ _ _)
      | (with_reducible exact weirkeeperref09_Same.mono _ _ _)
      | (with_reducible exact weirkeeperref13_Same.mono _ _ _)
      | (with_reducible exact LeO.refl _)
      | (with_reducible exact LeO.none _)
      | (with_reducible refine LeO.ite ?_ ?_)
      | (with_reducible refine LeO.bind ?_ (fun _ => ?_))
      | exact ih0 _ _ _ _ _ _ _ _
      | exact ih1 _ _ _ _ _ _
      | exact ih2 _ _ _ _ _
      | exact ih3 _ _ _ _
      | exact flat_Changes.mono _ _
      | exact flat_Notes.mono _ _
      | exact flat_Pairs.mono _ _
      | exact flat_Range.mono _ _ _ _
      | exact flat_TakeChanges.mono _ _
      | exact flat_TakeNotes.mono _ _
      | exact flat_TakePairs.mono _ _
      | exact flat_TakeRange.mono _ _
      | exact weirkeeperlaw13_awake.mono _
      | exact weirkeeperlaw13_fit.mono _ _ _ _
      | exact weirkeeperlaw13_short.mono _ _
      | exact weirkeeperref03_Same.mono _ _ _
      | exact weirkeeperref09_Same.mono _ _ _
      | exact weirkeeperref13_Same.mono _ _ _
      | exact LeO.none _
      | refine LeO.ite ?_ ?_
      | refine LeO.bind ?_ (fun _ => ?_)
    · intro y0 y1 y2 y3 y4
      unfold weirkeeperlaw13_FlatBack.j2
      repeat' first
      | (with_reducible exact ih0 _ _ _ _ _ _ _ _)
      | (with_reducible exact ih1 _ _ _ _ _ _)
      | (with_reducible exact ih2 _ _ _ _ _)
      | (with_reducible exact ih3 _ _ _ _)
      | (with_reducible exact flat_Changes.mono _ _)
      | (with_reducible exact flat_Notes.mono _ _)
      | (with_reducible exact flat_Pairs.mono _ _)
      | (with_reducible exact flat_Range.mono _ _ _ _)
      | (with_reducible exact flat_TakeChanges.mono _ _)
      | (with_reducible exact flat_TakeNotes.mono _ _)
      | (with_reducible exact flat_TakePairs.mono _ _)
      | (with_reducible exact flat_TakeRange.mono _ _)
      | (with_reducible exact weirkeeperlaw13_awake.mono _)
      | (with_reducible exact weirkeeperlaw13_fit.mono _ _ _ _)
      | (with_reducible exact weirkeeperlaw13_short.mono _ _)
      | (with_reducible exact weirkeeperref03_Same.mono _ _ _)
      | (with_reducible exact weirkeeperref09_Same.mono _ _ _)
      | (with_reducible exact weirkeeperref13_Same.mono _ _ _)
      | (with_reducible exact LeO.refl _)
      | (with_reducible exact LeO.none _)
      | (with_reducible refine LeO.ite ?_ ?_)
      | (with_reducible refine LeO.bind ?_ (fun _ => ?_))
      | exact ih0 _ _ _ _ _ _ _ _
      | exact ih1 _ _ _ _ _ _
      | exact ih2 _ _ _ _ _
      | exact ih3 _ _ _ _
      | exact flat_Changes.mono _ _
      | exact flat_Notes.mono _ _
      | exact flat_Pairs.mono _ _
      | exact flat_Range.mono _ _ _ _
      | exact flat_TakeChanges.mono _ _
      | exact flat_TakeNotes.mono _ _
      | exact flat_TakePairs.mono _ _
      | exact flat_TakeRange.mono _ _
      | exact weirkeeperlaw13_awake.mono _
      | exact weirkeeperlaw13_fit.mono _ _ _ _
      | exact weirkeeperlaw13_short.mono _ _
      | exact weirkeeperref03_Same.mono _ _ _
      | exact weirkeeperref09_Same.mono _ _ _
      | exact weirkeeperref13_Same.mono _ _ _
      | exact LeO.none _
      | refine LeO.ite ?_ ?_
      | refine LeO.bind ?_ (fun _ => ?_)
    · intro y0 y1 y2 y3
      unfold weirkeeperlaw13_FlatBack.j3
      repeat' first
      | (with_reducible exact ih0 _ _ _ _ _ _ _ _)
      | (with_reducible exact ih1 _ _ _ _ _ _)
      | (with_reducible exact ih2 _ _ _ _ _)
      | (with_reducible exact ih3 _ _ _ _)
      | (with_reducible exact flat_Changes.mono _ _)
      | (with_reducible exact flat_Notes.mono _ _)
      | (with_reducible exact flat_Pairs.mono _ _)
      | (with_reducible exact flat_Range.mono _ _ _ _)
      | (with_reducible exact flat_TakeChanges.mono _ _)
      | (with_reducible exact flat_TakeNotes.mono _ _)
      | (with_reducible exact flat_TakePairs.mono _ _)
      | (with_reducible exact flat_TakeRange.mono _ _)
      | (with_reducible exact weirkeeperlaw13_awake.mono _)
      | (with_reducible exact weirkeeperlaw13_fit.mono _ _ _ _)
      | (with_reducible exact weirkeeperlaw13_short.mono _ _)
      | (with_reducible exact weirkeeperref03_Same.mono _ _ _)
      | (with_reducible exact weirkeeperref09_Same.mono _ _ _)
      | (with_reducible exact weirkeeperref13_Same.mono _ _ _)
      | (with_reducible exact LeO.refl _)
      | (with_reducible exact LeO.none _)
      | (with_reducible refine LeO.ite ?_ ?_)
      | (with_reducible refine LeO.bind ?_ (fun _ => ?_))
      | exact ih0 _ _ _ _ _ _ _ _
      | exact ih1 _ _ _ _ _ _
      | exact ih2 _ _ _ _ _
      | exact ih3 _ _ _ _
      | exact flat_Changes.mono _ _
      | exact flat_Notes.mono _ _
      | exact flat_Pairs.mono _ _
      | exact flat_Range.mono _ _ _ _
      | exact flat_TakeChanges.mono _ _
      | exact flat_TakeNotes.mono _ _
      | exact flat_TakePairs.mono _ _
      | exact flat_TakeRange.mono _ _
      | exact weirkeeperlaw13_awake.mono _
      | exact weirkeeperlaw13_fit.mono _ _ _ _
      | exact weirkeeperlaw13_short.mono _ _
      | exact weirkeeperref03_Same.mono _ _ _
      | exact weirkeeperref09_Same.mono _ _ _
      | exact weirkeeperref13_Same.mono _ _ _
      | exact LeO.none _
      | refine LeO.ite ?_ ?_
      | refine LeO.bind ?_ (fun _ => ?_)
theorem weirkeeperlaw13_FlatBack.mono : ∀ a0 a1 a2 a3 a4 a5 a6 k, LeO (weirkeeperlaw13_FlatBack.f k a0 a1 a2 a3 a4 a5 a6) (weirkeeperlaw13_FlatBack.f (k + 1) a0 a1 a2 a3 a4 a5 a6) := by
  intro a0 a1 a2 a3 a4 a5 a6 k
  obtain ⟨ih0, ih1, ih2, ih3⟩ := weirkeeperlaw13_FlatBack.mono_l k
  unfold weirkeeperlaw13_FlatBack.f
  repeat' first
      | (with_reducible exact ih0 _ _ _ _ _ _ _ _)
      | (with_reducible exact ih1 _ _ _ _ _ _)
      | (with_reducible exact ih2 _ _ _ _ _)
      | (with_reducible exact ih3 _ _ _ _)
      | (with_reducible exact flat_Changes.mono _ _)
      | (with_reducible exact flat_Notes.mono _ _)
      | (with_reducible exact flat_Pairs.mono _ _)
      | (with_reducible exact flat_Range.mono _ _ _ _)
      | (with_reducible exact flat_TakeChanges.mono _ _)
      | (with_reducible exact flat_TakeNotes.mono _ _)
      | (with_reducible exact flat_TakePairs.mono _ _)
      | (with_reducible exact flat_TakeRange.mono _ _)
      | (with_reducible exact weirkeeperlaw13_awake.mono _)
      | (with_reducible exact weirkeeperlaw13_fit.mono _ _ _ _)
      | (with_reducible exact weirkeeperlaw13_short.mono _ _)
      | (with_reducible exact weirkeeperref03_Same.mono _ _ _)
      | (with_reducible exact weirkeeperref09_Same.mono _ _ _)
      | (with_reducible exact weirkeeperref13_Same.mono _ _ _)
      | (with_reducible exact LeO.refl _)
      | (with_reducible exact LeO.none _)
      | (with_reducible refine LeO.ite ?_ ?_)
      | (with_reducible refine LeO.bind ?_ (fun _ => ?_))
      | exact ih0 _ _ _ _ _ _ _ _
      | exact ih1 _ _ _ _ _ _
      | exact ih2 _ _ _ _ _
      | exact ih3 _ _ _ _
      | exact flat_Changes.mono _ _
      | exact flat_Notes.mono _ _
      | exact flat_Pairs.mono _ _
      | exact flat_Range.mono _ _ _ _
      | exact flat_TakeChanges.mono _ _
      | exact flat_TakeNotes.mono _ _
      | exact flat_TakePairs.mono _ _
      | exact flat_TakeRange.mono _ _
      | exact weirkeeperlaw13_awake.mono _
      | exact weirkeeperlaw13_fit.mono _ _ _ _
      | exact weirkeeperlaw13_short.mono _ _
      | exact weirkeeperref03_Same.mono _ _ _
      | exact weirkeeperref09_Same.mono _ _ _
      | exact weirkeeperref13_Same.mono _ _ _
      | exact LeO.none _
      | refine LeO.ite ?_ ?_
      | refine LeO.bind ?_ (fun _ => ?_)
set_option maxHeartbeats 8000000 in
set_option maxRecDepth 100000 in
theorem weirkeeperlaw13_FlatBack.calls (k : Nat) (A0 : Option Addr) (c0 : Nat) (l0 : List (S48)) (A1 : Option Addr) (c1 : Nat) (l1 : List (S50)) (A2 : Option Addr) (c2 : Nat) (l2 : List (S42)) (a3_0 : ByteArray) (a3_1 : ByteArray) (a3_2 : Bool) (a4 : ByteArray) (w : World) (hr0 : Kd.C k48 w A0 l0.length l0) (hc0 : l0.length ≤ c0) (hr1 : Kd.C k50 w A1 l1.length l1) (hc1 : l1.length ≤ c1) (hr2 : Kd.C k42 w A2 l2.length l2) (hc2 : l2.length ≤ c2) (h : weirkeeperlaw13_FlatBack.f k l0 l1 l2 a3_0 a3_1 a3_2 a4 = some true) :
    Calls Try.prog 6 #[.slice A0 l0.length c0, .slice A1 l1.length c1, .slice A2 l2.length c2, .agg #[.string a3_0, .string a3_1, .bool a3_2], .string a4] w fun e w' => e = .returned (.bool true) ∧ Below w.heap.size w w' := by
  have hu26 := Try.underlying26
  have HR0 := Aside0.mk hr0
  have HC0 := Aside0.mk hc0
  clear hr0 hc0
  have HR1 := Aside0.mk hr1
  have HC1 := Aside0.mk hc1
  clear hr1 hc1
  have HR2 := Aside0.mk hr2
  have HC2 := Aside0.mk hc2
  clear hr2 hc2
  have HB := Aside0.mk (Below.refl w.heap.size w)
  have H : ((weirkeeperlaw13_fit.f k l0 l1 l2).bind fun t510 => (if t510 = true then ((weirkeeperlaw13_short.f k (([a3_0, a3_1, a4] : List ByteArray))).bind fun t514 => (weirkeeperlaw13_FlatBack.j0 k l0 l1 l2 a4 (!t514) a3_0 a3_1 a3_2)) else (weirkeeperlaw13_FlatBack.j0 k l0 l1 l2 a4 true a3_0 a3_1 a3_2))) = some true := h
  clear h
  have HC6 := Aside0.mk H
  clear H
  go_enter Try.func6, Try.ntmps6
  go_upto_region 1 with (first | ((with_reducible refine gate_dst (N := 8) rfl ?_); (try (refine gate_guard (by rfl) ?_; dsimp only)); refine box_event ?hg (N := 8) ?hd (cs := #[.string a3_0, .string a3_1, .bool a3_2]) (t := 26) ?hr ?_; (case hd => rfl); (case hg => rfl); (case hr => first | (go_simp; done) | (go_simp; rfl)); intro gb509 hg w7 hbox hb; have n0_ := Aside0.mk (below_step (by repeat (first | (with_reducible first | exact HB.out | apply below_alloc | apply pw_below_drewN | apply below_drew1) | exact HB.out)) hb); have n1_ := Aside0.mk (hbox); have n2_ := Aside0.mk ((by rw [hg]; exact (below_size (by repeat (first | (with_reducible first | exact HB.out | apply below_alloc | apply pw_below_drewN | apply below_drew1) | exact HB.out))) : w.heap.size ≤ gb509)); have n3_ := Aside0.mk ((by rw [hg]; exact (below_size (by repeat (first | (with_reducible first | exact HB.out | apply below_alloc | apply pw_below_drewN | apply below_drew1) | exact HB.out))) : w.heap.size ≤ gb509)); clear HB; have HB := n0_; have BK509 := n1_; have GW509 := n2_; have GE509 := n3_; clear n0_ n1_ n2_ n3_; clear hb hbox hg))
  (try simp only [Act.put, List.setIfInBounds_toArray, List.set_cons_zero, List.set_cons_succ])
  go_cut [45] (fun v45 wc => ∃ (kq : Nat) (x45_5 : Bool), v45 = .bool x45_5 ∧ Aside0 (weirkeeperlaw13_FlatBack.j0 kq l0 l1 l2 a4 x45_5 a3_0 a3_1 a3_2 = some true) ∧ Aside0 (kq ≤ k) ∧ Aside0 (wc.heap[gb509]? = some (.cells #[.string a3_0, .string a3_1, .bool a3_2] 26 (0, 0))) ∧ Aside0 (Below w.heap.size w wc))
  case first =>
    have H := HC6.out
    clear HC6
    replace H := Option.bind_eq_some_iff.mp H
    obtain ⟨t510, A80, H⟩ := H
    replace H : (if t510 = true then ((weirkeeperlaw13_short.f k (([a3_0, a3_1, a4] : List ByteArray))).bind fun t514 => (weirkeeperlaw13_FlatBack.j0 k l0 l1 l2 a4 (!t514) a3_0 a3_1 a3_2)) else (weirkeeperlaw13_FlatBack.j0 k l0 l1 l2 a4 true a3_0 a3_1 a3_2)) = some true := H
    have A8 := Aside0.mk A80
    clear A80
    by_cases c9 : t510 = true
    · subst c9
      have H1 : ((weirkeeperlaw13_short.f k (([a3_0, a3_1, a4] : List ByteArray))).bind fun t514 => (weirkeeperlaw13_FlatBack.j0 k l0 l1 l2 a4 (!t514) a3_0 a3_1 a3_2)) = some true := by rw [if_pos rfl] at H; exact H
      clear H
      have H := H1
      clear H1
      obtain ⟨y511, hy511⟩ : ∃ y_ : List ByteArray, y_ = (([a3_0, a3_1, a4] : List ByteArray)) := ⟨_, rfl⟩
      replace H : ((weirkeeperlaw13_short.f k y511).bind fun t514 => (weirkeeperlaw13_FlatBack.j0 k l0 l1 l2 a4 (!t514) a3_0 a3_1 a3_2)) = some true := by first | (rw [hy511]; with_reducible exact H) | (have H2_ := (Option.bind_some _ _).symm.trans H; rw [hy511]; with_reducible exact H2_) | (have H2_ := (Option.bind_some _ _).symm.trans H; with_reducible exact H2_) | with_reducible exact H | (rw [hy511]; exact H) | exact H
      have Ny511 := Aside0.mk hy511
      clear hy511
      replace H := Option.bind_eq_some_iff.mp H
      obtain ⟨t514, A100, H⟩ := H
      replace H : (weirkeeperlaw13_FlatBack.j0 k l0 l1 l2 a4 (!t514) a3_0 a3_1 a3_2) = some true := H
      have A10 := Aside0.mk A100
      clear A100
      have H' := Aside0.mk H
      clear H
      go_wp2_with (first | ((with_reducible refine gate_callee (f := 13) rfl ?_); refine goesL_ (some 34) rfl rfl Try.func13 (by kernel_rfl) rfl #[.slice A0 l0.length c0, .slice A1 l1.length c1, .slice A2 l2.length c2] rfl (by (try simp only [List.map_toArray, List.map_cons, List.map_nil]); first | done | rfl | (simp only [List.length_drop, List.length_take]; rfl)) ?_; (with_reducible refine (weirkeeperlaw13_fit.calls k _ _ l0 _ _ l1 _ _ l2 true _ ?side1 ?side2 ?side3 ?side4 ?side5 ?side6 A8.out).mono ?_); (case side1 => repeat (first | exact (Kd.C_below HR0.out HB.out) | (with_reducible refine Kd.C_alloc ?_ _) | (with_reducible refine Kd.C_drewN ?_ _) | (with_reducible refine Kd.C_drew ?_))); (case side2 => exact HC0.out); (case side3 => repeat (first | exact (Kd.C_below HR1.out HB.out) | (with_reducible refine Kd.C_alloc ?_ _) | (with_reducible refine Kd.C_drewN ?_ _) | (with_reducible refine Kd.C_drew ?_))); (case side4 => exact HC1.out); (case side5 => repeat (first | exact (Kd.C_below HR2.out HB.out) | (with_reducible refine Kd.C_alloc ?_ _) | (with_reducible refine Kd.C_drewN ?_ _) | (with_reducible refine Kd.C_drew ?_))); (case side6 => exact HC2.out); rintro e w11 ⟨rfl, hb⟩; refine ⟨_, rfl, ?_⟩; have n0_ := Aside0.mk (blk_below (g := gb509) (o := .cells #[.string a3_0, .string a3_1, .bool a3_2] 26 (0, 0)) (by (with_reducible repeat (first | refine blk_drewN ?_ _ | refine blk_drew ?_ | refine blk_alloc ?_ _)); exact BK509.out) hb); have n1_ := Aside0.mk (below_step (by repeat (first | (with_reducible first | exact HB.out | apply below_alloc | apply pw_below_drewN | apply below_drew1 | refine below_set ?_ GE509.out) | exact HB.out)) hb); clear BK509; clear HB; have BK509 := n0_; have HB := n1_; clear n0_ n1_; (try clear hb); (try clear hb2); (try clear hk); (try clear hi); have hcz12_0 : w11.cell? ⟨gb509, 0, none⟩ = some (.string a3_0) := (blk_cell BK509.out 0).trans rfl; have hcz12_1 : w11.cell? ⟨gb509, 1, none⟩ = some (.string a3_1) := (blk_cell BK509.out 1).trans rfl; have hcz12_2 : w11.cell? ⟨gb509, 2, none⟩ = some (.bool a3_2) := (blk_cell BK509.out 2).trans rfl; have hfz12_0 := blk_frozen BK509.out 0; have hfz12_1 := blk_frozen BK509.out 1; have hfz12_2 := blk_frozen BK509.out 2) | ((with_reducible refine gate_dst (N := 42) rfl ?_); (try (refine gate_guard (by rfl) ?_; dsimp only)); refine Kd.R_lit Kd.string _ 9 ?hg (N := 42) ?hd (xs := ([a3_0, a3_1, a4] : List ByteArray)) (inner := [.string a3_0, .string a3_1, .string a4]) (ok := fun _ => True) (okp := fun _ => True) ?hr ?hp (fun _ hk => hk) trivial (Below.refl _ _) (Nat.le_refl _) (by simp) ?_; (case hd => rfl); (case hg => rfl); (case hr => first | (go_simp; done) | (go_simp; rfl)); (case hp => exact (Reps.one (show Kd.M Kd.string _ _ _ a3_0 [.string a3_0] from rfl) (Reps.one (show Kd.M Kd.string _ _ _ a3_1 [.string a3_1] from rfl) (Reps.one (show Kd.M Kd.string _ _ _ a4 [.string a4] from rfl) (Reps.none _ _))))); intro v512 w13 ho14 hb hg_ hnew_; clear hg_ hnew_; (first | rw [← Ny511.out] at ho14 | (simp only [Int.reduceToNat] at ho14; rw [← Ny511.out] at ho14)); have n0_ := Aside0.mk (Kd.R_lower ho14 (below_size (by repeat (first | (with_reducible first | exact HB.out | apply below_alloc | apply pw_below_drewN | apply below_drew1 | refine below_set ?_ GE509.out) | exact HB.out)))); have n1_ := Aside0.mk (blk_below (g := gb509) (o := .cells #[.string a3_0, .string a3_1, .bool a3_2] 26 (0, 0)) (by (with_reducible repeat (first | refine blk_drewN ?_ _ | refine blk_drew ?_ | refine blk_alloc ?_ _)); exact BK509.out) hb); have n2_ := Aside0.mk (below_step (by repeat (first | (with_reducible first | exact HB.out | apply below_alloc | apply pw_below_drewN | apply below_drew1 | refine below_set ?_ GE509.out) | exact HB.out)) hb); clear BK509; clear HB; have HO513 := n0_; have BK509 := n1_; have HB := n2_; clear n0_ n1_ n2_; clear hb ho14; obtain ⟨Ao15, co15, eo15⟩ := Kd.R_slice HO513.out; subst eo15) | (go_at_call 14; (with_reducible refine (weirkeeperlaw13_short.calls k _ _ y511 t514 _ ?side1 ?side2 A10.out).mono ?_); (case side1 => repeat (first | exact (Kd.R_reads' HO513.out).2.2 | (with_reducible refine Kd.C_alloc ?_ _) | (with_reducible refine Kd.C_drewN ?_ _) | (with_reducible refine Kd.C_drew ?_))); (case side2 => exact (Kd.R_reads' HO513.out).2.1); rintro e w' ⟨rfl, ⟨nd, rfl⟩⟩))
      go_meet
      case rel => exact ⟨_, (!t514), (by first | rfl | (simp; done) | (simp [*]; done)), H', ⟨by first | omega | exact Nat.le_refl _⟩, ⟨by (with_reducible repeat (first | refine blk_drewN ?_ _ | refine blk_drew ?_ | refine blk_alloc ?_ _)); exact BK509.out⟩, ⟨by repeat (first | (with_reducible first | exact HB.out | apply below_alloc | apply pw_below_drewN | apply below_drew1 | refine below_set ?_ GE509.out) | exact HB.out)⟩⟩
    · replace c9 := Bool.eq_false_iff.mpr c9
      subst c9
      have H1 : (weirkeeperlaw13_FlatBack.j0 k l0 l1 l2 a4 true a3_0 a3_1 a3_2) = some true := by rw [if_neg (show ¬ (false = true) by decide)] at H; exact H
      clear H
      have H := H1
      clear H1
      have H' := Aside0.mk H
      clear H
      go_wp2_with (first | ((with_reducible refine gate_callee (f := 13) rfl ?_); refine goesL_ (some 34) rfl rfl Try.func13 (by kernel_rfl) rfl #[.slice A0 l0.length c0, .slice A1 l1.length c1, .slice A2 l2.length c2] rfl (by (try simp only [List.map_toArray, List.map_cons, List.map_nil]); first | done | rfl | (simp only [List.length_drop, List.length_take]; rfl)) ?_; (with_reducible refine (weirkeeperlaw13_fit.calls k _ _ l0 _ _ l1 _ _ l2 false _ ?side1 ?side2 ?side3 ?side4 ?side5 ?side6 A8.out).mono ?_); (case side1 => repeat (first | exact (Kd.C_below HR0.out HB.out) | (with_reducible refine Kd.C_alloc ?_ _) | (with_reducible refine Kd.C_drewN ?_ _) | (with_reducible refine Kd.C_drew ?_))); (case side2 => exact HC0.out); (case side3 => repeat (first | exact (Kd.C_below HR1.out HB.out) | (with_reducible refine Kd.C_alloc ?_ _) | (with_reducible refine Kd.C_drewN ?_ _) | (with_reducible refine Kd.C_drew ?_))); (case side4 => exact HC1.out); (case side5 => repeat (first | exact (Kd.C_below HR2.out HB.out) | (with_reducible refine Kd.C_alloc ?_ _) | (with_reducible refine Kd.C_drewN ?_ _) | (with_reducible refine Kd.C_drew ?_))); (case side6 => exact HC2.out); rintro e w16 ⟨rfl, hb⟩; refine ⟨_, rfl, ?_⟩; have n0_ := Aside0.mk (blk_below (g := gb509) (o := .cells #[.string a3_0, .string a3_1, .bool a3_2] 26 (0, 0)) (by (with_reducible repeat (first | refine blk_drewN ?_ _ | refine blk_drew ?_ | refine blk_alloc ?_ _)); exact BK509.out) hb); have n1_ := Aside0.mk (below_step (by repeat (first | (with_reducible first | exact HB.out | apply below_alloc | apply pw_below_drewN | apply below_drew1 | refine below_set ?_ GE509.out) | exact HB.out)) hb); clear BK509; clear HB; have BK509 := n0_; have HB := n1_; clear n0_ n1_; (try clear hb); (try clear hb2); (try clear hk); (try clear hi)))
      go_meet
      case rel => exact ⟨_, (true), (by first | rfl | (simp; done) | (simp [*]; done)), H', ⟨by first | omega | exact Nat.le_refl _⟩, ⟨by (with_reducible repeat (first | refine blk_drewN ?_ _ | refine blk_drew ?_ | refine blk_alloc ?_ _)); exact BK509.out⟩, ⟨by repeat (first | (with_reducible first | exact HB.out | apply below_alloc | apply pw_below_drewN | apply below_drew1 | refine below_set ?_ GE509.out) | exact HB.out)⟩⟩
  case rest =>
    clear HC6
    try clear c1
    try clear c2
    try clear p2
    try clear c6
    try clear c9
    try clear c13
    try clear hcz12_0
    try clear hcz12_1
    try clear hcz12_2
    try clear hfz12_0
    try clear hfz12_1
    try clear hfz12_2
    obtain ⟨kq, x45_5, rfl, HA, HJ5, BK509, HB⟩ := hcut
    cases kq with
    | zero => exact absurd HA.out (by simp [weirkeeperlaw13_FlatBack.j0])
    | succ kj5 =>
      have H := HA.out
      clear HA
      simp only [weirkeeperlaw13_FlatBack.j0] at H
      by_cases c17 : x45_5 = true
      · subst c17
        have H1 : ((weirkeeperlaw13_awake.f kj5).bind fun t515 => (some t515)) = some true := by rw [if_pos rfl] at H; exact H
        clear H
        have H := H1
        clear H1
        replace H := Option.bind_eq_some_iff.mp H
        obtain ⟨t515, A180, H⟩ := H
        replace H : (some t515) = some true := H
        have A18 := Aside0.mk A180
        clear A180
        (have H9_ := Option.some.inj H; first | subst H9_ | (have h9_ := Aside0.mk H9_; clear H9_))
        go_wp2_with (first | ((with_reducible refine gate_callee (f := 15) rfl ?_); refine goesL_ (some 46) rfl rfl Try.func15 (by kernel_rfl) rfl #[] rfl (by (try simp only [List.map_toArray, List.map_cons, List.map_nil]); first | done | rfl | (simp only [List.length_drop, List.length_take]; rfl)) ?_; (with_reducible refine (weirkeeperlaw13_awake.calls kj5 _ A18.out).mono ?_); rintro e w19 ⟨rfl, hb⟩; refine ⟨_, rfl, ?_⟩; have n0_ := Aside0.mk (blk_below (g := gb509) (o := .cells #[.string a3_0, .string a3_1, .bool a3_2] 26 (0, 0)) (by (with_reducible repeat (first | refine blk_drewN ?_ _ | refine blk_drew ?_ | refine blk_alloc ?_ _)); exact BK509.out) hb); have n1_ := Aside0.mk (below_step (by repeat (first | (with_reducible first | exact HB.out | apply below_alloc | apply pw_below_drewN | apply below_drew1 | refine below_set ?_ GE509.out) | exact HB.out)) hb); clear BK509; clear HB; have BK509 := n0_; have HB := n1_; clear n0_ n1_; (try clear hb); (try clear hb2); (try clear hk); (try clear hi)))
        go_ret
        exact ⟨by first | rfl | (simp only [h9_.out]; done) | (have h8_ := h9_.out; simp [h8_]; done) | (simp [errW_none, errW_some] <;> rfl) | (simp [*, errW_none, errW_some] <;> rfl), by repeat (first | (with_reducible first | exact HB.out | apply below_alloc | apply pw_below_drewN | apply below_drew1 | refine below_set ?_ GE509.out) | exact HB.out)⟩
      · replace c17 := Bool.eq_false_iff.mpr c17
        subst c17
        have H1 : ((flat_Notes.f kj5 l0).bind fun bt516 => (if bt516.2 = 0 then (if bt516.1.size + a4.size ≤ 9223372036854775807 then ((flat_TakeNotes.f kj5 (bt516.1 ++ a4)).bind fun bt518 => ((weirkeeperref09_Same.f kj5 bt518.1 l0).bind fun t523 => (if t523 = true then (if bt518.2.1.toList = a4.toList then (if bt518.2.2 = 0 then (weirkeeperlaw13_FlatBack.j1 kj5 l1 l2 a4 a3_0 a3_1 a3_2) else (some false)) else (some false)) else (some false)))) else (none)) else (weirkeeperlaw13_FlatBack.j1 kj5 l1 l2 a4 a3_0 a3_1 a3_2))) = some true := by rw [if_neg (show ¬ (false = true) by decide)] at H; exact H
        clear H
        have H := H1
        clear H1
        replace H := Option.bind_eq_some_iff.mp H
        obtain ⟨⟨t516, t517⟩, A200, H⟩ := H
        replace H : (if t517 = 0 then (if t516.size + a4.size ≤ 9223372036854775807 then ((flat_TakeNotes.f kj5 (t516 ++ a4)).bind fun bt518 => ((weirkeeperref09_Same.f kj5 bt518.1 l0).bind fun t523 => (if t523 = true then (if bt518.2.1.toList = a4.toList then (if bt518.2.2 = 0 then (weirkeeperlaw13_FlatBack.j1 kj5 l1 l2 a4 a3_0 a3_1 a3_2) else (some false)) else (some false)) else (some false)))) else (none)) else (weirkeeperlaw13_FlatBack.j1 kj5 l1 l2 a4 a3_0 a3_1 a3_2)) = some true := H
        have A20 := Aside0.mk A200
        clear A200
        have HC21 := Aside0.mk H
        clear H
        go_upto_if 53 with (first | ((with_reducible refine gate_callee (f := 16) rfl ?_); refine goesL_ (some 49) rfl rfl Try.func16 (by kernel_rfl) rfl #[.slice A0 l0.length c0] rfl (by (try simp only [List.map_toArray, List.map_cons, List.map_nil]); first | done | rfl | (simp only [List.length_drop, List.length_take]; rfl)) ?_; (with_reducible refine (flat_Notes.calls kj5 _ _ l0 t516 t517 _ ?side1 ?side2 A20.out).mono ?_); (case side1 => repeat (first | exact (Kd.C_below HR0.out HB.out) | (with_reducible refine Kd.C_alloc ?_ _) | (with_reducible refine Kd.C_drewN ?_ _) | (with_reducible refine Kd.C_drew ?_))); (case side2 => exact HC0.out); rintro e w22 ⟨rfl, hb⟩; refine ⟨_, rfl, ?_⟩; have n0_ := Aside0.mk (blk_below (g := gb509) (o := .cells #[.string a3_0, .string a3_1, .bool a3_2] 26 (0, 0)) (by (with_reducible repeat (first | refine blk_drewN ?_ _ | refine blk_drew ?_ | refine blk_alloc ?_ _)); exact BK509.out) hb); have n1_ := Aside0.mk (below_step (by repeat (first | (with_reducible first | exact HB.out | apply below_alloc | apply pw_below_drewN | apply below_drew1 | refine below_set ?_ GE509.out) | exact HB.out)) hb); clear BK509; clear HB; have BK509 := n0_; have HB := n1_; clear n0_ n1_; (try clear hb); (try clear hb2); (try clear hk); (try clear hi)))
        (try simp only [Act.put, List.setIfInBounds_toArray, List.set_cons_zero, List.set_cons_succ])
        go_cut [] (fun wc => ∃ (kq : Nat), Aside0 (weirkeeperlaw13_FlatBack.j1 kq l1 l2 a4 a3_0 a3_1 a3_2 = some true) ∧ Aside0 (kq ≤ kj5) ∧ Aside0 (wc.heap[gb509]? = some (.cells #[.string a3_0, .string a3_1, .bool a3_2] 26 (0, 0))) ∧ Aside0 (Below w.heap.size w wc))
        case first =>
          have H := HC21.out
          clear HC21
          by_cases c23 : t517 = 0
          · rw [if_pos c23] at H
            have c23b0 : (t517 == 0) = true := beq_iff_eq.mpr c23
            have c23b1 : (t517 != 0) = false := bne_eq_false_iff_eq.mpr c23
            clear c23
            (first | rw [c23b0] | (simp only [i64_w, i32_w]; rw [c23b0]) | skip)
            by_cases c24 : t516.size + a4.size ≤ 9223372036854775807
            · rw [if_pos c24] at H
              have c24b0 := eq_true c24
              have c24b1 : decide (t516.size + a4.size ≤ 9223372036854775807) = true := decide_eq_true c24
              try have c24b2 : (9223372036854775807 < t516.size + a4.size) = False := eq_false (Nat.not_lt.2 c24)
              clear c24
              replace H := Option.bind_eq_some_iff.mp H
              obtain ⟨⟨t518, t519, t520⟩, A250, H⟩ := H
              replace H : ((weirkeeperref09_Same.f kj5 t518 l0).bind fun t523 => (if t523 = true then (if t519.toList = a4.toList then (if t520 = 0 then (weirkeeperlaw13_FlatBack.j1 kj5 l1 l2 a4 a3_0 a3_1 a3_2) else (some false)) else (some false)) else (some false))) = some true := H
              have A25 := Aside0.mk A250
              clear A250
              replace H := Option.bind_eq_some_iff.mp H
              obtain ⟨t523, A260, H⟩ := H
              replace H : (if t523 = true then (if t519.toList = a4.toList then (if t520 = 0 then (weirkeeperlaw13_FlatBack.j1 kj5 l1 l2 a4 a3_0 a3_1 a3_2) else (some false)) else (some false)) else (some false)) = some true := H
              have A26 := Aside0.mk A260
              clear A260
              by_cases c27 : t523 = true
              · subst c27
                have H1 : (if t519.toList = a4.toList then (if t520 = 0 then (weirkeeperlaw13_FlatBack.j1 kj5 l1 l2 a4 a3_0 a3_1 a3_2) else (some false)) else (some false)) = some true := by rw [if_pos rfl] at H; exact H
                clear H
                have H := H1
                clear H1
                by_cases c28 : t519.toList = a4.toList
                · rw [if_pos c28] at H
                  have c28b0 : (t519.toList == a4.toList) = true := beq_iff_eq.mpr c28
                  have c28b1 : (t519.toList != a4.toList) = false := bne_eq_false_iff_eq.mpr c28
                  clear c28
                  by_cases c29 : t520 = 0
                  · rw [if_pos c29] at H
                    have c29b0 : (t520 == 0) = true := beq_iff_eq.mpr c29
                    have c29b1 : (t520 != 0) = false := bne_eq_false_iff_eq.mpr c29
                    clear c29
                    have H' := Aside0.mk H
                    clear H
                    go_wp2_with (first | ((with_reducible refine gate_callee (f := 27) rfl ?_); refine goesL_ (some 58) rfl rfl Try.func27 (by kernel_rfl) rfl #[.string (t516 ++ a4)] rfl (by (try simp only [List.map_toArray, List.map_cons, List.map_nil]); first | done | rfl | (simp only [List.length_drop, List.length_take]; rfl)) ?_; (with_reducible refine (flat_TakeNotes.calls kj5 (t516 ++ a4) t518 t519 t520 _ A25.out).mono ?_); rintro e w30 ⟨v521, rfl, ho0, hb⟩; refine ⟨_, rfl, ?_⟩; have n0_ := Aside0.mk (Kd.R_lower ho0 (below_size (by repeat (first | (with_reducible first | exact HB.out | apply below_alloc | apply pw_below_drewN | apply below_drew1 | refine below_set ?_ GE509.out) | exact HB.out)))); have n1_ := Aside0.mk (blk_below (g := gb509) (o := .cells #[.string a3_0, .string a3_1, .bool a3_2] 26 (0, 0)) (by (with_reducible repeat (first | refine blk_drewN ?_ _ | refine blk_drew ?_ | refine blk_alloc ?_ _)); exact BK509.out) hb); have n2_ := Aside0.mk (below_step (by repeat (first | (with_reducible first | exact HB.out | apply below_alloc | apply pw_below_drewN | apply below_drew1 | refine below_set ?_ GE509.out) | exact HB.out)) hb); clear BK509; clear HB; have HO522 := n0_; have BK509 := n1_; have HB := n2_; clear n0_ n1_ n2_; (try clear hb); (try clear hb2); (try clear hk); (try clear hi); (try clear ho0); obtain ⟨Ao31, co31, eo31⟩ := Kd.R_slice HO522.out; subst eo31) | ((with_reducible refine gate_callee (f := 39) rfl ?_); refine goesL_ (some 64) rfl rfl Try.func39 (by kernel_rfl) rfl #[.slice Ao31 t518.length co31, .slice A0 l0.length c0] rfl (by (try simp only [List.map_toArray, List.map_cons, List.map_nil]); first | done | rfl | (simp only [List.length_drop, List.length_take]; rfl)) ?_; (with_reducible refine (weirkeeperref09_Same.calls kj5 _ _ t518 _ _ l0 true _ ?side1 ?side2 ?side3 ?side4 A26.out).mono ?_); (case side1 => repeat (first | exact (Kd.R_reads' HO522.out).2.2 | (with_reducible refine Kd.C_alloc ?_ _) | (with_reducible refine Kd.C_drewN ?_ _) | (with_reducible refine Kd.C_drew ?_))); (case side2 => exact (Kd.R_reads' HO522.out).2.1); (case side3 => repeat (first | exact (Kd.C_below HR0.out HB.out) | (with_reducible refine Kd.C_alloc ?_ _) | (with_reducible refine Kd.C_drewN ?_ _) | (with_reducible refine Kd.C_drew ?_))); (case side4 => exact HC0.out); rintro e w' ⟨rfl, ⟨nd, rfl⟩⟩; refine ⟨_, rfl, ?_⟩))
                    go_meet
                    case rel => exact ⟨_, H', ⟨by have := HJ5.out; first | omega | exact Nat.le_refl _⟩, ⟨by (with_reducible repeat (first | refine blk_drewN ?_ _ | refine blk_drew ?_ | refine blk_alloc ?_ _)); exact BK509.out⟩, ⟨by repeat (first | (with_reducible first | exact HB.out | apply below_alloc | apply pw_below_drewN | apply below_drew1 | refine below_set ?_ GE509.out) | exact HB.out)⟩⟩
                  · rw [if_neg c29] at H
                    have c29b0 : (t520 == 0) = false := beq_eq_false_iff_ne.mpr c29
                    have c29b1 : (t520 != 0) = true := bne_iff_ne.mpr c29
                    exact absurd H (by simp)
                · rw [if_neg c28] at H
                  have c28b0 : (t519.toList == a4.toList) = false := beq_eq_false_iff_ne.mpr c28
                  have c28b1 : (t519.toList != a4.toList) = true := bne_iff_ne.mpr c28
                  exact absurd H (by simp)
              · replace c27 := Bool.eq_false_iff.mpr c27
                subst c27
                have H1 : (some false) = some true := by rw [if_neg (show ¬ (false = true) by decide)] at H; exact H
                clear H
                have H := H1
                clear H1
                exact absurd H (by simp)
            · rw [if_neg c24] at H
              exact absurd H (by simp)
          · rw [if_neg c23] at H
            have c23b0 : (t517 == 0) = false := beq_eq_false_iff_ne.mpr c23
            have c23b1 : (t517 != 0) = true := bne_iff_ne.mpr c23
            (first | rw [c23b0] | (simp only [i64_w, i32_w]; rw [c23b0]) | skip)
            have H' := Aside0.mk H
            clear H
            go_wp2
            go_meet
            case rel => exact ⟨_, H', ⟨by have := HJ5.out; first | omega | exact Nat.le_refl _⟩, ⟨by (with_reducible repeat (first | refine blk_drewN ?_ _ | refine blk_drew ?_ | refine blk_alloc ?_ _)); exact BK509.out⟩, ⟨by repeat (first | (with_reducible first | exact HB.out | apply below_alloc | apply pw_below_drewN | apply below_drew1 | refine below_set ?_ GE509.out) | exact HB.out)⟩⟩
        case rest =>
          clear HC21
          try clear c1
          try clear c2
          try clear p2
          try clear c3
          try clear c6
          try clear c9
          try clear c13
          try clear c15
          try clear c16
          try clear c17
          try clear c23
          try clear c23b0
          try clear c23b1
          try clear c24
          try clear c24b0
          try clear c24b1
          try clear c24b2
          try clear c27
          try clear c28
          try clear c28b0
          try clear c28b1
          try clear c29
          try clear c29b0
          try clear c29b1
          try clear hcz12_0
          try clear hcz12_1
          try clear hcz12_2
          try clear hfz12_0
          try clear hfz12_1
          try clear hfz12_2
          try clear p2
          obtain ⟨kq, HA, HJ20, BK509, HB⟩ := hcut
          cases kq with
          | zero => exact absurd HA.out (by simp [weirkeeperlaw13_FlatBack.j1])
          | succ kj20 =>
            have H := HA.out
            clear HA
            simp only [weirkeeperlaw13_FlatBack.j1] at H
            replace H := Option.bind_eq_some_iff.mp H
            obtain ⟨⟨t524, t525⟩, A320, H⟩ := H
            replace H : (if t525 = 0 then (if t524.size + a4.size ≤ 9223372036854775807 then ((flat_TakePairs.f kj20 (t524 ++ a4)).bind fun bt526 => ((weirkeeperref03_Same.f kj20 bt526.1 l1).bind fun t531 => (if t531 = true then (if bt526.2.1.toList = a4.toList then (if bt526.2.2 = 0 then (weirkeeperlaw13_FlatBack.j2 kj20 l2 a4 a3_0 a3_1 a3_2) else (some false)) else (some false)) else (some false)))) else (none)) else (weirkeeperlaw13_FlatBack.j2 kj20 l2 a4 a3_0 a3_1 a3_2)) = some true := H
            have A32 := Aside0.mk A320
            clear A320
            have HC33 := Aside0.mk H
            clear H
            go_upto_if 81 with (first | ((with_reducible refine gate_callee (f := 17) rfl ?_); refine goesL_ (some 77) rfl rfl Try.func17 (by kernel_rfl) rfl #[.slice A1 l1.length c1] rfl (by (try simp only [List.map_toArray, List.map_cons, List.map_nil]); first | done | rfl | (simp only [List.length_drop, List.length_take]; rfl)) ?_; (with_reducible refine (flat_Pairs.calls kj20 _ _ l1 t524 t525 _ ?side1 ?side2 A32.out).mono ?_); (case side1 => repeat (first | exact (Kd.C_below HR1.out HB.out) | (with_reducible refine Kd.C_alloc ?_ _) | (with_reducible refine Kd.C_drewN ?_ _) | (with_reducible refine Kd.C_drew ?_))); (case side2 => exact HC1.out); rintro e w34 ⟨rfl, hb⟩; refine ⟨_, rfl, ?_⟩; have n0_ := Aside0.mk (blk_below (g := gb509) (o := .cells #[.string a3_0, .string a3_1, .bool a3_2] 26 (0, 0)) (by (with_reducible repeat (first | refine blk_drewN ?_ _ | refine blk_drew ?_ | refine blk_alloc ?_ _)); exact BK509.out) hb); have n1_ := Aside0.mk (below_step (by repeat (first | (with_reducible first | exact HB.out | apply below_alloc | apply pw_below_drewN | apply below_drew1 | refine below_set ?_ GE509.out) | exact HB.out)) hb); clear BK509; clear HB; have BK509 := n0_; have HB := n1_; clear n0_ n1_; (try clear hb); (try clear hb2); (try clear hk); (try clear hi)))
            (try simp only [Act.put, List.setIfInBounds_toArray, List.set_cons_zero, List.set_cons_succ])
            go_cut [] (fun wc => ∃ (kq : Nat), Aside0 (weirkeeperlaw13_FlatBack.j2 kq l2 a4 a3_0 a3_1 a3_2 = some true) ∧ Aside0 (kq ≤ kj20) ∧ Aside0 (wc.heap[gb509]? = some (.cells #[.string a3_0, .string a3_1, .bool a3_2] 26 (0, 0))) ∧ Aside0 (Below w.heap.size w wc))
            case first =>
              have H := HC33.out
              clear HC33
              by_cases c35 : t525 = 0
              · rw [if_pos c35] at H
                have c35b0 : (t525 == 0) = true := beq_iff_eq.mpr c35
                have c35b1 : (t525 != 0) = false := bne_eq_false_iff_eq.mpr c35
                clear c35
                (first | rw [c35b0] | (simp only [i64_w, i32_w]; rw [c35b0]) | skip)
                by_cases c36 : t524.size + a4.size ≤ 9223372036854775807
                · rw [if_pos c36] at H
                  have c36b0 := eq_true c36
                  have c36b1 : decide (t524.size + a4.size ≤ 9223372036854775807) = true := decide_eq_true c36
                  try have c36b2 : (9223372036854775807 < t524.size + a4.size) = False := eq_false (Nat.not_lt.2 c36)
                  clear c36
                  replace H := Option.bind_eq_some_iff.mp H
                  obtain ⟨⟨t526, t527, t528⟩, A370, H⟩ := H
                  replace H : ((weirkeeperref03_Same.f kj20 t526 l1).bind fun t531 => (if t531 = true then (if t527.toList = a4.toList then (if t528 = 0 then (weirkeeperlaw13_FlatBack.j2 kj20 l2 a4 a3_0 a3_1 a3_2) else (some false)) else (some false)) else (some false))) = some true := H
                  have A37 := Aside0.mk A370
                  clear A370
                  replace H := Option.bind_eq_some_iff.mp H
                  obtain ⟨t531, A380, H⟩ := H
                  replace H : (if t531 = true then (if t527.toList = a4.toList then (if t528 = 0 then (weirkeeperlaw13_FlatBack.j2 kj20 l2 a4 a3_0 a3_1 a3_2) else (some false)) else (some false)) else (some false)) = some true := H
                  have A38 := Aside0.mk A380
                  clear A380
                  by_cases c39 : t531 = true
                  · subst c39
                    have H1 : (if t527.toList = a4.toList then (if t528 = 0 then (weirkeeperlaw13_FlatBack.j2 kj20 l2 a4 a3_0 a3_1 a3_2) else (some false)) else (some false)) = some true := by rw [if_pos rfl] at H; exact H
                    clear H
                    have H := H1
                    clear H1
                    by_cases c40 : t527.toList = a4.toList
                    · rw [if_pos c40] at H
                      have c40b0 : (t527.toList == a4.toList) = true := beq_iff_eq.mpr c40
                      have c40b1 : (t527.toList != a4.toList) = false := bne_eq_false_iff_eq.mpr c40
                      clear c40
                      by_cases c41 : t528 = 0
                      · rw [if_pos c41] at H
                        have c41b0 : (t528 == 0) = true := beq_iff_eq.mpr c41
                        have c41b1 : (t528 != 0) = false := bne_eq_false_iff_eq.mpr c41
                        clear c41
                        have H' := Aside0.mk H
                        clear H
                        go_wp2_with (first | ((with_reducible refine gate_callee (f := 28) rfl ?_); refine goesL_ (some 86) rfl rfl Try.func28 (by kernel_rfl) rfl #[.string (t524 ++ a4)] rfl (by (try simp only [List.map_toArray, List.map_cons, List.map_nil]); first | done | rfl | (simp only [List.length_drop, List.length_take]; rfl)) ?_; (with_reducible refine (flat_TakePairs.calls kj20 (t524 ++ a4) t526 t527 t528 _ A37.out).mono ?_); rintro e w42 ⟨v529, rfl, ho0, hb⟩; refine ⟨_, rfl, ?_⟩; have n0_ := Aside0.mk (Kd.R_lower ho0 (below_size (by repeat (first | (with_reducible first | exact HB.out | apply below_alloc | apply pw_below_drewN | apply below_drew1 | refine below_set ?_ GE509.out) | exact HB.out)))); have n1_ := Aside0.mk (blk_below (g := gb509) (o := .cells #[.string a3_0, .string a3_1, .bool a3_2] 26 (0, 0)) (by (with_reducible repeat (first | refine blk_drewN ?_ _ | refine blk_drew ?_ | refine blk_alloc ?_ _)); exact BK509.out) hb); have n2_ := Aside0.mk (below_step (by repeat (first | (with_reducible first | exact HB.out | apply below_alloc | apply pw_below_drewN | apply below_drew1 | refine below_set ?_ GE509.out) | exact HB.out)) hb); clear BK509; clear HB; have HO530 := n0_; have BK509 := n1_; have HB := n2_; clear n0_ n1_ n2_; (try clear hb); (try clear hb2); (try clear hk); (try clear hi); (try clear ho0); obtain ⟨Ao43, co43, eo43⟩ := Kd.R_slice HO530.out; subst eo43) | ((with_reducible refine gate_callee (f := 40) rfl ?_); refine goesL_ (some 92) rfl rfl Try.func40 (by kernel_rfl) rfl #[.slice Ao43 t526.length co43, .slice A1 l1.length c1] rfl (by (try simp only [List.map_toArray, List.map_cons, List.map_nil]); first | done | rfl | (simp only [List.length_drop, List.length_take]; rfl)) ?_; (with_reducible refine (weirkeeperref03_Same.calls kj20 _ _ t526 _ _ l1 true _ ?side1 ?side2 ?side3 ?side4 A38.out).mono ?_); (case side1 => repeat (first | exact (Kd.R_reads' HO530.out).2.2 | (with_reducible refine Kd.C_alloc ?_ _) | (with_reducible refine Kd.C_drewN ?_ _) | (with_reducible refine Kd.C_drew ?_))); (case side2 => exact (Kd.R_reads' HO530.out).2.1); (case side3 => repeat (first | exact (Kd.C_below HR1.out HB.out) | (with_reducible refine Kd.C_alloc ?_ _) | (with_reducible refine Kd.C_drewN ?_ _) | (with_reducible refine Kd.C_drew ?_))); (case side4 => exact HC1.out); rintro e w' ⟨rfl, ⟨nd, rfl⟩⟩; refine ⟨_, rfl, ?_⟩))
                        go_meet
                        case rel => exact ⟨_, H', ⟨by have := HJ5.out; have := HJ20.out; first | omega | exact Nat.le_refl _⟩, ⟨by (with_reducible repeat (first | refine blk_drewN ?_ _ | refine blk_drew ?_ | refine blk_alloc ?_ _)); exact BK509.out⟩, ⟨by repeat (first | (with_reducible first | exact HB.out | apply below_alloc | apply pw_below_drewN | apply below_drew1 | refine below_set ?_ GE509.out) | exact HB.out)⟩⟩
                      · rw [if_neg c41] at H
                        have c41b0 : (t528 == 0) = false := beq_eq_false_iff_ne.mpr c41
                        have c41b1 : (t528 != 0) = true := bne_iff_ne.mpr c41
                        exact absurd H (by simp)
                    · rw [if_neg c40] at H
                      have c40b0 : (t527.toList == a4.toList) = false := beq_eq_false_iff_ne.mpr c40
                      have c40b1 : (t527.toList != a4.toList) = true := bne_iff_ne.mpr c40
                      exact absurd H (by simp)
                  · replace c39 := Bool.eq_false_iff.mpr c39
                    subst c39
                    have H1 : (some false) = some true := by rw [if_neg (show ¬ (false = true) by decide)] at H; exact H
                    clear H
                    have H := H1
                    clear H1
                    exact absurd H (by simp)
                · rw [if_neg c36] at H
                  exact absurd H (by simp)
              · rw [if_neg c35] at H
                have c35b0 : (t525 == 0) = false := beq_eq_false_iff_ne.mpr c35
                have c35b1 : (t525 != 0) = true := bne_iff_ne.mpr c35
                (first | rw [c35b0] | (simp only [i64_w, i32_w]; rw [c35b0]) | skip)
                have H' := Aside0.mk H
                clear H
                go_wp2
                go_meet
                case rel => exact ⟨_, H', ⟨by have := HJ5.out; have := HJ20.out; first | omega | exact Nat.le_refl _⟩, ⟨by (with_reducible repeat (first | refine blk_drewN ?_ _ | refine blk_drew ?_ | refine blk_alloc ?_ _)); exact BK509.out⟩, ⟨by repeat (first | (with_reducible first | exact HB.out | apply below_alloc | apply pw_below_drewN | apply below_drew1 | refine below_set ?_ GE509.out) | exact HB.out)⟩⟩
            case rest =>
              clear HC33
              try clear c1
              try clear c2
              try clear p2
              try clear c3
              try clear c4
              try clear c6
              try clear c9
              try clear c13
              try clear c15
              try clear c16
              try clear c17
              try clear c23
              try clear c23b0
              try clear c23b1
              try clear c24
              try clear c24b0
              try clear c24b1
              try clear c24b2
              try clear c27
              try clear c28
              try clear c28b0
              try clear c28b1
              try clear c29
              try clear c29b0
              try clear c29b1
              try clear c35
              try clear c35b0
              try clear c35b1
              try clear c36
              try clear c36b0
              try clear c36b1
              try clear c36b2
              try clear c39
              try clear c40
              try clear c40b0
              try clear c40b1
              try clear c41
              try clear c41b0
              try clear c41b1
              try clear hcz12_0
              try clear hcz12_1
              try clear hcz12_2
              try clear hfz12_0
              try clear hfz12_1
              try clear hfz12_2
              try clear p2
              obtain ⟨kq, HA, HJ32, BK509, HB⟩ := hcut
              cases kq with
              | zero => exact absurd HA.out (by simp [weirkeeperlaw13_FlatBack.j2])
              | succ kj32 =>
                have H := HA.out
                clear HA
                simp only [weirkeeperlaw13_FlatBack.j2] at H
                replace H := Option.bind_eq_some_iff.mp H
                obtain ⟨⟨t532, t533⟩, A440, H⟩ := H
                replace H : (if t533 = 0 then (if t532.size + a4.size ≤ 9223372036854775807 then ((flat_TakeChanges.f kj32 (t532 ++ a4)).bind fun bt534 => ((weirkeeperref13_Same.f kj32 bt534.1 l2).bind fun t539 => (if t539 = true then (if bt534.2.1.toList = a4.toList then (if bt534.2.2 = 0 then (weirkeeperlaw13_FlatBack.j3 kj32 a4 a3_0 a3_1 a3_2) else (some false)) else (some false)) else (some false)))) else (none)) else (weirkeeperlaw13_FlatBack.j3 kj32 a4 a3_0 a3_1 a3_2)) = some true := H
                have A44 := Aside0.mk A440
                clear A440
                have HC45 := Aside0.mk H
                clear H
                go_upto_if 109 with (first | ((with_reducible refine gate_callee (f := 18) rfl ?_); refine goesL_ (some 105) rfl rfl Try.func18 (by kernel_rfl) rfl #[.slice A2 l2.length c2] rfl (by (try simp only [List.map_toArray, List.map_cons, List.map_nil]); first | done | rfl | (simp only [List.length_drop, List.length_take]; rfl)) ?_; (with_reducible refine (flat_Changes.calls kj32 _ _ l2 t532 t533 _ ?side1 ?side2 A44.out).mono ?_); (case side1 => repeat (first | exact (Kd.C_below HR2.out HB.out) | (with_reducible refine Kd.C_alloc ?_ _) | (with_reducible refine Kd.C_drewN ?_ _) | (with_reducible refine Kd.C_drew ?_))); (case side2 => exact HC2.out); rintro e w46 ⟨rfl, hb⟩; refine ⟨_, rfl, ?_⟩; have n0_ := Aside0.mk (blk_below (g := gb509) (o := .cells #[.string a3_0, .string a3_1, .bool a3_2] 26 (0, 0)) (by (with_reducible repeat (first | refine blk_drewN ?_ _ | refine blk_drew ?_ | refine blk_alloc ?_ _)); exact BK509.out) hb); have n1_ := Aside0.mk (below_step (by repeat (first | (with_reducible first | exact HB.out | apply below_alloc | apply pw_below_drewN | apply below_drew1 | refine below_set ?_ GE509.out) | exact HB.out)) hb); clear BK509; clear HB; have BK509 := n0_; have HB := n1_; clear n0_ n1_; (try clear hb); (try clear hb2); (try clear hk); (try clear hi)))
                (try simp only [Act.put, List.setIfInBounds_toArray, List.set_cons_zero, List.set_cons_succ])
                go_cut [] (fun wc => ∃ (kq : Nat), Aside0 (weirkeeperlaw13_FlatBack.j3 kq a4 a3_0 a3_1 a3_2 = some true) ∧ Aside0 (kq ≤ kj32) ∧ Aside0 (wc.heap[gb509]? = some (.cells #[.string a3_0, .string a3_1, .bool a3_2] 26 (0, 0))) ∧ Aside0 (Below w.heap.size w wc))
                case first =>
                  have H := HC45.out
                  clear HC45
                  by_cases c47 : t533 = 0
                  · rw [if_pos c47] at H
                    have c47b0 : (t533 == 0) = true := beq_iff_eq.mpr c47
                    have c47b1 : (t533 != 0) = false := bne_eq_false_iff_eq.mpr c47
                    clear c47
                    (first | rw [c47b0] | (simp only [i64_w, i32_w]; rw [c47b0]) | skip)
                    by_cases c48 : t532.size + a4.size ≤ 9223372036854775807
                    · rw [if_pos c48] at H
                      have c48b0 := eq_true c48
                      have c48b1 : decide (t532.size + a4.size ≤ 9223372036854775807) = true := decide_eq_true c48
                      try have c48b2 : (9223372036854775807 < t532.size + a4.size) = False := eq_false (Nat.not_lt.2 c48)
                      clear c48
                      replace H := Option.bind_eq_some_iff.mp H
                      obtain ⟨⟨t534, t535, t536⟩, A490, H⟩ := H
                      replace H : ((weirkeeperref13_Same.f kj32 t534 l2).bind fun t539 => (if t539 = true then (if t535.toList = a4.toList then (if t536 = 0 then (weirkeeperlaw13_FlatBack.j3 kj32 a4 a3_0 a3_1 a3_2) else (some false)) else (some false)) else (some false))) = some true := H
                      have A49 := Aside0.mk A490
                      clear A490
                      replace H := Option.bind_eq_some_iff.mp H
                      obtain ⟨t539, A500, H⟩ := H
                      replace H : (if t539 = true then (if t535.toList = a4.toList then (if t536 = 0 then (weirkeeperlaw13_FlatBack.j3 kj32 a4 a3_0 a3_1 a3_2) else (some false)) else (some false)) else (some false)) = some true := H
                      have A50 := Aside0.mk A500
                      clear A500
                      by_cases c51 : t539 = true
                      · subst c51
                        have H1 : (if t535.toList = a4.toList then (if t536 = 0 then (weirkeeperlaw13_FlatBack.j3 kj32 a4 a3_0 a3_1 a3_2) else (some false)) else (some false)) = some true := by rw [if_pos rfl] at H; exact H
                        clear H
                        have H := H1
                        clear H1
                        by_cases c52 : t535.toList = a4.toList
                        · rw [if_pos c52] at H
                          have c52b0 : (t535.toList == a4.toList) = true := beq_iff_eq.mpr c52
                          have c52b1 : (t535.toList != a4.toList) = false := bne_eq_false_iff_eq.mpr c52
                          clear c52
                          by_cases c53 : t536 = 0
                          · rw [if_pos c53] at H
                            have c53b0 : (t536 == 0) = true := beq_iff_eq.mpr c53
                            have c53b1 : (t536 != 0) = false := bne_eq_false_iff_eq.mpr c53
                            clear c53
                            have H' := Aside0.mk H
                            clear H
                            go_wp2_with (first | ((with_reducible refine gate_callee (f := 29) rfl ?_); refine goesL_ (some 114) rfl rfl Try.func29 (by kernel_rfl) rfl #[.string (t532 ++ a4)] rfl (by (try simp only [List.map_toArray, List.map_cons, List.map_nil]); first | done | rfl | (simp only [List.length_drop, List.length_take]; rfl)) ?_; (with_reducible refine (flat_TakeChanges.calls kj32 (t532 ++ a4) t534 t535 t536 _ A49.out).mono ?_); rintro e w54 ⟨v537, rfl, ho0, hb⟩; refine ⟨_, rfl, ?_⟩; have n0_ := Aside0.mk (Kd.R_lower ho0 (below_size (by repeat (first | (with_reducible first | exact HB.out | apply below_alloc | apply pw_below_drewN | apply below_drew1 | refine below_set ?_ GE509.out) | exact HB.out)))); have n1_ := Aside0.mk (blk_below (g := gb509) (o := .cells #[.string a3_0, .string a3_1, .bool a3_2] 26 (0, 0)) (by (with_reducible repeat (first | refine blk_drewN ?_ _ | refine blk_drew ?_ | refine blk_alloc ?_ _)); exact BK509.out) hb); have n2_ := Aside0.mk (below_step (by repeat (first | (with_reducible first | exact HB.out | apply below_alloc | apply pw_below_drewN | apply below_drew1 | refine below_set ?_ GE509.out) | exact HB.out)) hb); clear BK509; clear HB; have HO538 := n0_; have BK509 := n1_; have HB := n2_; clear n0_ n1_ n2_; (try clear hb); (try clear hb2); (try clear hk); (try clear hi); (try clear ho0); obtain ⟨Ao55, co55, eo55⟩ := Kd.R_slice HO538.out; subst eo55) | ((with_reducible refine gate_callee (f := 41) rfl ?_); refine goesL_ (some 120) rfl rfl Try.func41 (by kernel_rfl) rfl #[.slice Ao55 t534.length co55, .slice A2 l2.length c2] rfl (by (try simp only [List.map_toArray, List.map_cons, List.map_nil]); first | done | rfl | (simp only [List.length_drop, List.length_take]; rfl)) ?_; (with_reducible refine (weirkeeperref13_Same.calls kj32 _ _ t534 _ _ l2 true _ ?side1 ?side2 ?side3 ?side4 A50.out).mono ?_); (case side1 => repeat (first | exact (Kd.R_reads' HO538.out).2.2 | (with_reducible refine Kd.C_alloc ?_ _) | (with_reducible refine Kd.C_drewN ?_ _) | (with_reducible refine Kd.C_drew ?_))); (case side2 => exact (Kd.R_reads' HO538.out).2.1); (case side3 => repeat (first | exact (Kd.C_below HR2.out HB.out) | (with_reducible refine Kd.C_alloc ?_ _) | (with_reducible refine Kd.C_drewN ?_ _) | (with_reducible refine Kd.C_drew ?_))); (case side4 => exact HC2.out); rintro e w' ⟨rfl, ⟨nd, rfl⟩⟩; refine ⟨_, rfl, ?_⟩))
                            go_meet
                            case rel => exact ⟨_, H', ⟨by have := HJ5.out; have := HJ20.out; have := HJ32.out; first | omega | exact Nat.le_refl _⟩, ⟨by (with_reducible repeat (first | refine blk_drewN ?_ _ | refine blk_drew ?_ | refine blk_alloc ?_ _)); exact BK509.out⟩, ⟨by repeat (first | (with_reducible first | exact HB.out | apply below_alloc | apply pw_below_drewN | apply below_drew1 | refine below_set ?_ GE509.out) | exact HB.out)⟩⟩
                          · rw [if_neg c53] at H
                            have c53b0 : (t536 == 0) = false := beq_eq_false_iff_ne.mpr c53
                            have c53b1 : (t536 != 0) = true := bne_iff_ne.mpr c53
                            exact absurd H (by simp)
                        · rw [if_neg c52] at H
                          have c52b0 : (t535.toList == a4.toList) = false := beq_eq_false_iff_ne.mpr c52
                          have c52b1 : (t535.toList != a4.toList) = true := bne_iff_ne.mpr c52
                          exact absurd H (by simp)
                      · replace c51 := Bool.eq_false_iff.mpr c51
                        subst c51
                        have H1 : (some false) = some true := by rw [if_neg (show ¬ (false = true) by decide)] at H; exact H
                        clear H
                        have H := H1
                        clear H1
                        exact absurd H (by simp)
                    · rw [if_neg c48] at H
                      exact absurd H (by simp)
                  · rw [if_neg c47] at H
                    have c47b0 : (t533 == 0) = false := beq_eq_false_iff_ne.mpr c47
                    have c47b1 : (t533 != 0) = true := bne_iff_ne.mpr c47
                    (first | rw [c47b0] | (simp only [i64_w, i32_w]; rw [c47b0]) | skip)
                    have H' := Aside0.mk H
                    clear H
                    go_wp2
                    go_meet
                    case rel => exact ⟨_, H', ⟨by have := HJ5.out; have := HJ20.out; have := HJ32.out; first | omega | exact Nat.le_refl _⟩, ⟨by (with_reducible repeat (first | refine blk_drewN ?_ _ | refine blk_drew ?_ | refine blk_alloc ?_ _)); exact BK509.out⟩, ⟨by repeat (first | (with_reducible first | exact HB.out | apply below_alloc | apply pw_below_drewN | apply below_drew1 | refine below_set ?_ GE509.out) | exact HB.out)⟩⟩
                case rest =>
                  clear HC45
                  try clear c1
                  try clear c2
                  try clear p2
                  try clear c3
                  try clear c4
                  try clear c5
                  try clear c6
                  try clear c9
                  try clear c13
                  try clear c15
                  try clear c16
                  try clear c17
                  try clear c18
                  try clear c23
                  try clear c23b0
                  try clear c23b1
                  try clear c24
                  try clear c24b0
                  try clear c24b1
                  try clear c24b2
                  try clear c27
                  try clear c28
                  try clear c28b0
                  try clear c28b1
                  try clear c29
                  try clear c29b0
                  try clear c29b1
                  try clear c35
                  try clear c35b0
                  try clear c35b1
                  try clear c36
                  try clear c36b0
                  try clear c36b1
                  try clear c36b2
                  try clear c39
                  try clear c40
                  try clear c40b0
                  try clear c40b1
                  try clear c41
                  try clear c41b0
                  try clear c41b1
                  try clear c47
                  try clear c47b0
                  try clear c47b1
                  try clear c48
                  try clear c48b0
                  try clear c48b1
                  try clear c48b2
                  try clear c51
                  try clear c52
                  try clear c52b0
                  try clear c52b1
                  try clear c53
                  try clear c53b0
                  try clear c53b1
                  try clear hcz12_0
                  try clear hcz12_1
                  try clear hcz12_2
                  try clear hfz12_0
                  try clear hfz12_1
                  try clear hfz12_2
                  try clear p2
                  obtain ⟨kq, HA, HJ44, BK509, HB⟩ := hcut
                  cases kq with
                  | zero => exact absurd HA.out (by simp [weirkeeperlaw13_FlatBack.j3])
                  | succ kj44 =>
                    have H := HA.out
                    clear HA
                    simp only [weirkeeperlaw13_FlatBack.j3] at H
                    replace H := Option.bind_eq_some_iff.mp H
                    obtain ⟨⟨t540, t541⟩, A560, H⟩ := H
                    replace H : (if t541 = 0 then (if t540.size + a4.size ≤ 9223372036854775807 then ((flat_TakeRange.f kj44 (t540 ++ a4)).bind fun bt542 => (if (!(bt542.1.toList == a3_0.toList) || (!(bt542.2.1.toList == a3_1.toList) || (!(bt542.2.2.1 == a3_2)))) = true then (some false) else (if bt542.2.2.2.1.toList = a4.toList then (if bt542.2.2.2.2 = 0 then ((weirkeeperlaw13_awake.f kj44).bind fun t548 => (some t548)) else (some false)) else (some false)))) else (none)) else ((weirkeeperlaw13_awake.f kj44).bind fun t549 => (some t549))) = some true := H
                    have A56 := Aside0.mk A560
                    clear A560
                    by_cases c57 : t541 = 0
                    · rw [if_pos c57] at H
                      have c57b0 : (t541 == 0) = true := beq_iff_eq.mpr c57
                      have c57b1 : (t541 != 0) = false := bne_eq_false_iff_eq.mpr c57
                      clear c57
                      by_cases c58 : t540.size + a4.size ≤ 9223372036854775807
                      · rw [if_pos c58] at H
                        have c58b0 := eq_true c58
                        have c58b1 : decide (t540.size + a4.size ≤ 9223372036854775807) = true := decide_eq_true c58
                        try have c58b2 : (9223372036854775807 < t540.size + a4.size) = False := eq_false (Nat.not_lt.2 c58)
                        clear c58
                        replace H := Option.bind_eq_some_iff.mp H
                        obtain ⟨⟨t542, t543, t544, t545, t546⟩, A590, H⟩ := H
                        replace H : (if (!(t542.toList == a3_0.toList) || (!(t543.toList == a3_1.toList) || (!(t544 == a3_2)))) = true then (some false) else (if t545.toList = a4.toList then (if t546 = 0 then ((weirkeeperlaw13_awake.f kj44).bind fun t548 => (some t548)) else (some false)) else (some false))) = some true := H
                        have A59 := Aside0.mk A590
                        clear A590
                        by_cases c60 : (!(t542.toList == a3_0.toList) || (!(t543.toList == a3_1.toList) || (!(t544 == a3_2)))) = true
                        · rw [if_pos c60] at H
                          have c60b0 : (!(t542.toList == a3_0.toList) || (!(t543.toList == a3_1.toList) || (!(t544 == a3_2)))) = true := c60
                          clear c60
                          exact absurd H (by simp)
                        · rw [if_neg c60] at H
                          have c60b0 : (!(t542.toList == a3_0.toList) || (!(t543.toList == a3_1.toList) || (!(t544 == a3_2)))) = false := by simpa using c60
                          clear c60
                          by_cases c61 : t545.toList = a4.toList
                          · rw [if_pos c61] at H
                            have c61b0 : (t545.toList == a4.toList) = true := beq_iff_eq.mpr c61
                            have c61b1 : (t545.toList != a4.toList) = false := bne_eq_false_iff_eq.mpr c61
                            clear c61
                            by_cases c62 : t546 = 0
                            · rw [if_pos c62] at H
                              have c62b0 : (t546 == 0) = true := beq_iff_eq.mpr c62
                              have c62b1 : (t546 != 0) = false := bne_eq_false_iff_eq.mpr c62
                              clear c62
                              replace H := Option.bind_eq_some_iff.mp H
                              obtain ⟨t548, A630, H⟩ := H
                              replace H : (some t548) = some true := H
                              have A63 := Aside0.mk A630
                              clear A630
                              (have H9_ := Option.some.inj H; first | subst H9_ | (have h9_ := Aside0.mk H9_; clear H9_))
                              have hcz64_0 : wc.cell? ⟨gb509, 0, none⟩ = some (.string a3_0) := (blk_cell BK509.out 0).trans rfl
                              have hcz64_1 : wc.cell? ⟨gb509, 1, none⟩ = some (.string a3_1) := (blk_cell BK509.out 1).trans rfl
                              have hcz64_2 : wc.cell? ⟨gb509, 2, none⟩ = some (.bool a3_2) := (blk_cell BK509.out 2).trans rfl
                              have hfz64_0 := blk_frozen BK509.out 0
                              have hfz64_1 := blk_frozen BK509.out 1
                              have hfz64_2 := blk_frozen BK509.out 2
                              go_wp2_with (first | ((with_reducible refine gate_callee (f := 19) rfl ?_); refine goesL_ (some 133) rfl rfl Try.func19 (by kernel_rfl) rfl #[.agg #[.string a3_0, .string a3_1, .bool a3_2]] rfl (by (try simp only [List.map_toArray, List.map_cons, List.map_nil]); first | done | rfl | (simp only [List.length_drop, List.length_take]; rfl)) ?_; (with_reducible refine (flat_Range.calls kj44 a3_0 a3_1 a3_2 t540 t541 _ A56.out).mono ?_); rintro e w65 ⟨rfl, hb⟩; refine ⟨_, rfl, ?_⟩; have n0_ := Aside0.mk (blk_below (g := gb509) (o := .cells #[.string a3_0, .string a3_1, .bool a3_2] 26 (0, 0)) (by (with_reducible repeat (first | refine blk_drewN ?_ _ | refine blk_drew ?_ | refine blk_alloc ?_ _)); exact BK509.out) hb); have n1_ := Aside0.mk (below_step (by repeat (first | (with_reducible first | exact HB.out | apply below_alloc | apply pw_below_drewN | apply below_drew1 | refine below_set ?_ GE509.out) | exact HB.out)) hb); clear BK509; clear HB; have BK509 := n0_; have HB := n1_; clear n0_ n1_; (try clear hb); (try clear hb2); (try clear hk); (try clear hi)) | ((with_reducible refine gate_callee (f := 30) rfl ?_); refine goesL_ (some 142) rfl rfl Try.func30 (by kernel_rfl) rfl #[.string (t540 ++ a4)] rfl (by (try simp only [List.map_toArray, List.map_cons, List.map_nil]); first | done | rfl | (simp only [List.length_drop, List.length_take]; rfl)) ?_; (with_reducible refine (flat_TakeRange.calls kj44 (t540 ++ a4) t542 t543 t544 t545 t546 _ A59.out).mono ?_); rintro e w66 ⟨rfl, hb⟩; refine ⟨_, rfl, ?_⟩; have n0_ := Aside0.mk (blk_below (g := gb509) (o := .cells #[.string a3_0, .string a3_1, .bool a3_2] 26 (0, 0)) (by (with_reducible repeat (first | refine blk_drewN ?_ _ | refine blk_drew ?_ | refine blk_alloc ?_ _)); exact BK509.out) hb); have n1_ := Aside0.mk (below_step (by repeat (first | (with_reducible first | exact HB.out | apply below_alloc | apply pw_below_drewN | apply below_drew1 | refine below_set ?_ GE509.out) | exact HB.out)) hb); clear BK509; clear HB; have BK509 := n0_; have HB := n1_; clear n0_ n1_; (try clear hb); (try clear hb2); (try clear hk); (try clear hi)) | ((with_reducible refine gate_dst (N := 28) rfl ?_); (try (refine gate_guard (by rfl) ?_; dsimp only)); refine box_event ?hg (N := 28) ?hd (cs := #[.string (⟨#[]⟩ : ByteArray), .string (⟨#[]⟩ : ByteArray), .bool false]) (t := 26) ?hr ?_; (case hd => rfl); (case hg => rfl); (case hr => first | (go_simp; done) | (go_simp; rfl)); intro gb547 hg w67 hbox hb; have n0_ := Aside0.mk (blk_below (g := gb509) (o := .cells #[.string a3_0, .string a3_1, .bool a3_2] 26 (0, 0)) (by (with_reducible repeat (first | refine blk_drewN ?_ _ | refine blk_drew ?_ | refine blk_alloc ?_ _)); exact BK509.out) hb); have n1_ := Aside0.mk (below_step (by repeat (first | (with_reducible first | exact HB.out | apply below_alloc | apply pw_below_drewN | apply below_drew1 | refine below_set ?_ GE509.out) | exact HB.out)) hb); have n2_ := Aside0.mk (hbox); have n3_ := Aside0.mk ((by rw [hg]; exact (below_size (by repeat (first | (with_reducible first | exact HB.out | apply below_alloc | apply pw_below_drewN | apply below_drew1 | refine below_set ?_ GE509.out) | exact HB.out))) : w.heap.size ≤ gb547)); have n4_ := Aside0.mk ((by rw [hg]; exact (below_size (by repeat (first | (with_reducible first | exact HB.out | apply below_alloc | apply pw_below_drewN | apply below_drew1 | refine below_set ?_ GE509.out) | exact HB.out))) : w.heap.size ≤ gb547)); have n5_ := Aside0.mk ((by rw [hg]; exact Nat.ne_of_lt (blk_lt (g := gb509) (o := .cells #[.string a3_0, .string a3_1, .bool a3_2] 26 (0, 0)) (by (with_reducible repeat (first | refine blk_drewN ?_ _ | refine blk_drew ?_ | refine blk_alloc ?_ _)); exact BK509.out)) : gb509 ≠ gb547)); have n6_ := Aside0.mk ((by rw [hg]; exact Nat.ne_of_gt (blk_lt (g := gb509) (o := .cells #[.string a3_0, .string a3_1, .bool a3_2] 26 (0, 0)) (by (with_reducible repeat (first | refine blk_drewN ?_ _ | refine blk_drew ?_ | refine blk_alloc ?_ _)); exact BK509.out)) : gb547 ≠ gb509)); clear BK509; clear HB; have BK509 := n0_; have HB := n1_; have BK547 := n2_; have GW547 := n3_; have GE547 := n4_; have NB509_547 := n5_; have NB547_509 := n6_; clear n0_ n1_ n2_ n3_ n4_ n5_ n6_; clear hb hbox hg; have hnb68 := NB547_509.out; have hnc68 := NB509_547.out; have hcz69_0 : w67.cell? ⟨gb547, 0, none⟩ = some (.string (⟨#[]⟩ : ByteArray)) := (blk_cell BK547.out 0).trans rfl; have hcz69_1 : w67.cell? ⟨gb547, 1, none⟩ = some (.string (⟨#[]⟩ : ByteArray)) := (blk_cell BK547.out 1).trans rfl; have hcz69_2 : w67.cell? ⟨gb547, 2, none⟩ = some (.bool false) := (blk_cell BK547.out 2).trans rfl; have hfz69_0 := blk_frozen BK547.out 0; have hfz69_1 := blk_frozen BK547.out 1; have hfz69_2 := blk_frozen BK547.out 2; have hcz70_0 : w67.cell? ⟨gb509, 0, none⟩ = some (.string a3_0) := (blk_cell BK509.out 0).trans rfl; have hcz70_1 : w67.cell? ⟨gb509, 1, none⟩ = some (.string a3_1) := (blk_cell BK509.out 1).trans rfl; have hcz70_2 : w67.cell? ⟨gb509, 2, none⟩ = some (.bool a3_2) := (blk_cell BK509.out 2).trans rfl; have hfz70_0 := blk_frozen BK509.out 0; have hfz70_1 := blk_frozen BK509.out 1; have hfz70_2 := blk_frozen BK509.out 2) | ((with_reducible refine gate_callee (f := 15) rfl ?_); refine goesL_ (some 158) rfl rfl Try.func15 (by kernel_rfl) rfl #[] rfl (by (try simp only [List.map_toArray, List.map_cons, List.map_nil]); first | done | rfl | (simp only [List.length_drop, List.length_take]; rfl)) ?_; (with_reducible refine (weirkeeperlaw13_awake.calls kj44 _ A63.out).mono ?_); rintro e w71 ⟨rfl, hb⟩; refine ⟨_, rfl, ?_⟩; have n0_ := Aside0.mk (blk_below (g := gb509) (o := .cells #[.string a3_0, .string a3_1, .bool a3_2] 26 (0, 0)) (by (with_reducible repeat (first | refine blk_drewN ?_ _ | refine blk_drew ?_ | refine blk_alloc ?_ _)); refine blk_far ?_ NB509_547.out _; (with_reducible repeat (first | refine blk_drewN ?_ _ | refine blk_drew ?_ | refine blk_alloc ?_ _)); refine blk_far ?_ NB509_547.out _; (with_reducible repeat (first | refine blk_drewN ?_ _ | refine blk_drew ?_ | refine blk_alloc ?_ _)); refine blk_far ?_ NB509_547.out _; (with_reducible repeat (first | refine blk_drewN ?_ _ | refine blk_drew ?_ | refine blk_alloc ?_ _)); exact BK509.out) hb); have n1_ := Aside0.mk (blk_below (g := gb547) (o := .cells #[.string t542, .string t543, .bool t544] 26 (0, 0)) (by (with_reducible repeat (first | refine blk_drewN ?_ _ | refine blk_drew ?_ | refine blk_alloc ?_ _)); refine blk_put (cs := #[.string t542, .string t543, .bool false]) ?_ 2 _ rfl; (with_reducible repeat (first | refine blk_drewN ?_ _ | refine blk_drew ?_ | refine blk_alloc ?_ _)); refine blk_put (cs := #[.string t542, .string (⟨#[]⟩ : ByteArray), .bool false]) ?_ 1 _ rfl; (with_reducible repeat (first | refine blk_drewN ?_ _ | refine blk_drew ?_ | refine blk_alloc ?_ _)); refine blk_put (cs := #[.string (⟨#[]⟩ : ByteArray), .string (⟨#[]⟩ : ByteArray), .bool false]) ?_ 0 _ rfl; (with_reducible repeat (first | refine blk_drewN ?_ _ | refine blk_drew ?_ | refine blk_alloc ?_ _)); exact BK547.out) hb); have n2_ := Aside0.mk (below_step (by repeat (first | (with_reducible first | exact HB.out | apply below_alloc | apply pw_below_drewN | apply below_drew1 | refine below_set ?_ GE509.out | refine below_set ?_ GE547.out) | exact HB.out)) hb); clear BK509; clear BK547; clear HB; have BK509 := n0_; have BK547 := n1_; have HB := n2_; clear n0_ n1_ n2_; (try clear hb); (try clear hb2); (try clear hk); (try clear hi)))
                              go_ret
                              exact ⟨by first | rfl | (simp only [h9_.out]; done) | (have h8_ := h9_.out; simp [h8_]; done) | (simp [errW_none, errW_some] <;> rfl) | (simp [*, errW_none, errW_some] <;> rfl), by repeat (first | (with_reducible first | exact HB.out | apply below_alloc | apply pw_below_drewN | apply below_drew1 | refine below_set ?_ GE509.out | refine below_set ?_ GE547.out) | exact HB.out)⟩
                            · rw [if_neg c62] at H
                              have c62b0 : (t546 == 0) = false := beq_eq_false_iff_ne.mpr c62
                              have c62b1 : (t546 != 0) = true := bne_iff_ne.mpr c62
                              exact absurd H (by simp)
                          · rw [if_neg c61] at H
                            have c61b0 : (t545.toList == a4.toList) = false := beq_eq_false_iff_ne.mpr c61
                            have c61b1 : (t545.toList != a4.toList) = true := bne_iff_ne.mpr c61
                            exact absurd H (by simp)
                      · rw [if_neg c58] at H
                        exact absurd H (by simp)
                    · rw [if_neg c57] at H
                      have c57b0 : (t541 == 0) = false := beq_eq_false_iff_ne.mpr c57
                      have c57b1 : (t541 != 0) = true := bne_iff_ne.mpr c57
                      replace H := Option.bind_eq_some_iff.mp H
                      obtain ⟨t549, A720, H⟩ := H
                      replace H : (some t549) = some true := H
                      have A72 := Aside0.mk A720
                      clear A720
                      (have H9_ := Option.some.inj H; first | subst H9_ | (have h9_ := Aside0.mk H9_; clear H9_))
                      have hcz73_0 : wc.cell? ⟨gb509, 0, none⟩ = some (.string a3_0) := (blk_cell BK509.out 0).trans rfl
                      have hcz73_1 : wc.cell? ⟨gb509, 1, none⟩ = some (.string a3_1) := (blk_cell BK509.out 1).trans rfl
                      have hcz73_2 : wc.cell? ⟨gb509, 2, none⟩ = some (.bool a3_2) := (blk_cell BK509.out 2).trans rfl
                      have hfz73_0 := blk_frozen BK509.out 0
                      have hfz73_1 := blk_frozen BK509.out 1
                      have hfz73_2 := blk_frozen BK509.out 2
                      go_wp2_with (first | ((with_reducible refine gate_callee (f := 19) rfl ?_); refine goesL_ (some 133) rfl rfl Try.func19 (by kernel_rfl) rfl #[.agg #[.string a3_0, .string a3_1, .bool a3_2]] rfl (by (try simp only [List.map_toArray, List.map_cons, List.map_nil]); first | done | rfl | (simp only [List.length_drop, List.length_take]; rfl)) ?_; (with_reducible refine (flat_Range.calls kj44 a3_0 a3_1 a3_2 t540 t541 _ A56.out).mono ?_); rintro e w74 ⟨rfl, hb⟩; refine ⟨_, rfl, ?_⟩; have n0_ := Aside0.mk (blk_below (g := gb509) (o := .cells #[.string a3_0, .string a3_1, .bool a3_2] 26 (0, 0)) (by (with_reducible repeat (first | refine blk_drewN ?_ _ | refine blk_drew ?_ | refine blk_alloc ?_ _)); exact BK509.out) hb); have n1_ := Aside0.mk (below_step (by repeat (first | (with_reducible first | exact HB.out | apply below_alloc | apply pw_below_drewN | apply below_drew1 | refine below_set ?_ GE509.out) | exact HB.out)) hb); clear BK509; clear HB; have BK509 := n0_; have HB := n1_; clear n0_ n1_; (try clear hb); (try clear hb2); (try clear hk); (try clear hi)) | ((with_reducible refine gate_callee (f := 15) rfl ?_); refine goesL_ (some 158) rfl rfl Try.func15 (by kernel_rfl) rfl #[] rfl (by (try simp only [List.map_toArray, List.map_cons, List.map_nil]); first | done | rfl | (simp only [List.length_drop, List.length_take]; rfl)) ?_; (with_reducible refine (weirkeeperlaw13_awake.calls kj44 _ A72.out).mono ?_); rintro e w75 ⟨rfl, hb⟩; refine ⟨_, rfl, ?_⟩; have n0_ := Aside0.mk (blk_below (g := gb509) (o := .cells #[.string a3_0, .string a3_1, .bool a3_2] 26 (0, 0)) (by (with_reducible repeat (first | refine blk_drewN ?_ _ | refine blk_drew ?_ | refine blk_alloc ?_ _)); exact BK509.out) hb); have n1_ := Aside0.mk (below_step (by repeat (first | (with_reducible first | exact HB.out | apply below_alloc | apply pw_below_drewN | apply below_drew1 | refine below_set ?_ GE509.out) | exact HB.out)) hb); clear BK509; clear HB; have BK509 := n0_; have HB := n1_; clear n0_ n1_; (try clear hb); (try clear hb2); (try clear hk); (try clear hi)))
                      go_ret
                      exact ⟨by first | rfl | (simp only [h9_.out]; done) | (have h8_ := h9_.out; simp [h8_]; done) | (simp [errW_none, errW_some] <;> rfl) | (simp [*, errW_none, errW_some] <;> rfl), by repeat (first | (with_reducible first | exact HB.out | apply below_alloc | apply pw_below_drewN | apply below_drew1 | refine below_set ?_ GE509.out) | exact HB.out)⟩

end Go.Proofs.Ythidkdlmpkeogaa.F
