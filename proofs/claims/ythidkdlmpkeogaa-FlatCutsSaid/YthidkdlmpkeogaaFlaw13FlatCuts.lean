/- Contracts of Go functions of the seat Ythidkdlmpkeogaa: what a call comes to; no condition but those that each theorem names. -/
import Derived.Test.YthidkdlmpkeogaaFPre
import Derived.Test.YthidkdlmpkeogaaFflatx2
import Derived.Test.YthidkdlmpkeogaaFflatx0
import Derived.Test.YthidkdlmpkeogaaFflatx3
import Derived.Test.YthidkdlmpkeogaaFlaw13awake
import Derived.Test.YthidkdlmpkeogaaFlaw13fit
import Derived.Test.YthidkdlmpkeogaaFlaw13short
namespace Go.Proofs.Ythidkdlmpkeogaa.F
open Go.RowKit Go.Proofs.YthidkdlmpkeogaaW.PrintWords Go.Proofs.YthidkdlmpkeogaaW.PrintLast Go.Proofs.YthidkdlmpkeogaaW.PrintMore
attribute [local go_sem] max2_int min2_int max_two min_two max_three min_three max_four min_four   -- for this text's walks alone
set_option linter.unusedVariables false
set_option linter.unusedSimpArgs false

/-! ### weirkeeperlaw13_FlatCuts: function 8 -/
mutual
def weirkeeperlaw13_FlatCuts.j0 : Nat → List (S48) → List (S50) → List (S42) → Int → Bool → ByteArray → ByteArray → Bool → Option (Bool)
  | 0, _, _, _, _, _, _, _, _ => none
  | k + 1, x0, x1, x2, x4, x44, x597000, x597001, x597002 => if x44 = true then ((weirkeeperlaw13_awake.f k).bind fun t602 => (some t602)) else ((flat_Notes.f k x0).bind fun bt603 => ((flat_Pairs.f k x1).bind fun bt605 => ((flat_Changes.f k x2).bind fun bt607 => ((flat_Range.f k x597000 x597001 x597002).bind fun bt609 => (if bt603.2 = 0 then (weirkeeperlaw13_FlatCuts.j1 k x4 bt603.1 bt605.1 bt605.2 bt607.1 bt607.2 bt609.1 bt609.2 (decide ((bt603.1.size : Int) > 0))) else (weirkeeperlaw13_FlatCuts.j1 k x4 bt603.1 bt605.1 bt605.2 bt607.1 bt607.2 bt609.1 bt609.2 false))))))
def weirkeeperlaw13_FlatCuts.j1 : Nat → Int → ByteArray → ByteArray → Int → ByteArray → Int → ByteArray → Int → Bool → Option (Bool)
  | 0, _, _, _, _, _, _, _, _, _ => none
  | k + 1, x4, x11, x13, x14, x15, x16, x17, x18, x72 => if x72 = true then (if (x11.size : Int) = 0 then (none) else (if 0 ≤ (Int.tmod (wrap64 (x4)) (x11.size : Int)) then (if (Int.tmod (wrap64 (x4)) (x11.size : Int)) ≤ (x11.size : Int) then ((flat_TakeNotes.f k (x11.extract 0 ((Int.tmod (wrap64 (x4)) (x11.size : Int)) : Int).toNat)).bind fun bt611 => (if bt611.2.2 = 2 then (if bt611.2.1.toList = ([] : List UInt8) then (weirkeeperlaw13_FlatCuts.j2 k x4 x13 x14 x15 x16 x17 x18) else (some false)) else (some false))) else (none)) else (none))) else (weirkeeperlaw13_FlatCuts.j2 k x4 x13 x14 x15 x16 x17 x18)
def weirkeeperlaw13_FlatCuts.j2 : Nat → Int → ByteArray → Int → ByteArray → Int → ByteArray → Int → Option (Bool)
  | 0, _, _, _, _, _, _, _ => none
  | k + 1, x4, x13, x14, x15, x16, x17, x18 => if x14 = 0 then (weirkeeperlaw13_FlatCuts.j3 k x4 x13 x15 x16 x17 x18 (decide ((x13.size : Int) > 0))) else (weirkeeperlaw13_FlatCuts.j3 k x4 x13 x15 x16 x17 x18 false)
def weirkeeperlaw13_FlatCuts.j3 : Nat → Int → ByteArray → ByteArray → Int → ByteArray → Int → Bool → Option (Bool)
  | 0, _, _, _, _, _, _, _ => none
  | k + 1, x4, x13, x15, x16, x17, x18, x97 => if x97 = true then (if (x13.size : Int) = 0 then (none) else (if 0 ≤ (Int.tmod (wrap64 (x4)) (x13.size : Int)) then (if (Int.tmod (wrap64 (x4)) (x13.size : Int)) ≤ (x13.size : Int) then ((flat_TakePairs.f k (x13.extract 0 ((Int.tmod (wrap64 (x4)) (x13.size : Int)) : Int).toNat)).bind fun bt616 => (if bt616.2.2 = 2 then (if bt616.2.1.toList = ([] : List UInt8) then (weirkeeperlaw13_FlatCuts.j4 k x4 x15 x16 x17 x18) else (some false)) else (some false))) else (none)) else (none))) else (weirkeeperlaw13_FlatCuts.j4 k x4 x15 x16 x17 x18)
def weirkeeperlaw13_FlatCuts.j4 : Nat → Int → ByteArray → Int → ByteArray → Int → Option (Bool)
  | 0, _, _, _, _, _ => none
  | k + 1, x4, x15, x16, x17, x18 => if x16 = 0 then (weirkeeperlaw13_FlatCuts.j5 k x4 x15 x17 x18 (decide ((x15.size : Int) > 0))) else (weirkeeperlaw13_FlatCuts.j5 k x4 x15 x17 x18 false)
def weirkeeperlaw13_FlatCuts.j5 : Nat → Int → ByteArray → ByteArray → Int → Bool → Option (Bool)
  | 0, _, _, _, _, _ => none
  | k + 1, x4, x15, x17, x18, x122 => if x122 = true then (if (x15.size : Int) = 0 then (none) else (if 0 ≤ (Int.tmod (wrap64 (x4)) (x15.size : Int)) then (if (Int.tmod (wrap64 (x4)) (x15.size : Int)) ≤ (x15.size : Int) then ((flat_TakeChanges.f k (x15.extract 0 ((Int.tmod (wrap64 (x4)) (x15.size : Int)) : Int).toNat)).bind fun bt621 => (if bt621.2.2 = 2 then (if bt621.2.1.toList = ([] : List UInt8) then (weirkeeperlaw13_FlatCuts.j6 k x4 x17 x18) else (some false)) else (some false))) else (none)) else (none))) else (weirkeeperlaw13_FlatCuts.j6 k x4 x17 x18)
def weirkeeperlaw13_FlatCuts.j6 : Nat → Int → ByteArray → Int → Option (Bool)
  | 0, _, _, _ => none
  | k + 1, x4, x17, x18 => if x18 = 0 then (weirkeeperlaw13_FlatCuts.j7 k x4 x17 (decide ((x17.size : Int) > 0))) else (weirkeeperlaw13_FlatCuts.j7 k x4 x17 false)
def weirkeeperlaw13_FlatCuts.j7 : Nat → Int → ByteArray → Bool → Option (Bool)
  | 0, _, _, _ => none
  | k + 1, x4, x17, x147 => if x147 = true then (if (x17.size : Int) = 0 then (none) else (if 0 ≤ (Int.tmod (wrap64 (x4)) (x17.size : Int)) then (if (Int.tmod (wrap64 (x4)) (x17.size : Int)) ≤ (x17.size : Int) then ((flat_TakeRange.f k (x17.extract 0 ((Int.tmod (wrap64 (x4)) (x17.size : Int)) : Int).toNat)).bind fun bt626 => (if bt626.2.2.2.2 = 2 then (if bt626.2.2.2.1.toList = ([] : List UInt8) then ((weirkeeperlaw13_awake.f k).bind fun t632 => (some t632)) else (some false)) else (some false))) else (none)) else (none))) else ((weirkeeperlaw13_awake.f k).bind fun t633 => (some t633))
end
def weirkeeperlaw13_FlatCuts.f (k : Nat) (l0 : List (S48)) (l1 : List (S50)) (l2 : List (S42)) (a3_0 : ByteArray) (a3_1 : ByteArray) (a3_2 : Bool) (a4 : Int) : Option (Bool) := (weirkeeperlaw13_fit.f k l0 l1 l2).bind fun t597 => (if t597 = true then ((weirkeeperlaw13_short.f k (([a3_0, a3_1] : List ByteArray))).bind fun t601 => (weirkeeperlaw13_FlatCuts.j0 k l0 l1 l2 a4 (!t601) a3_0 a3_1 a3_2)) else (weirkeeperlaw13_FlatCuts.j0 k l0 l1 l2 a4 true a3_0 a3_1 a3_2))
theorem weirkeeperlaw13_FlatCuts.mono_l : ∀ k, (∀ y0 y1 y2 y3 y4 y5 y6 y7, LeO (weirkeeperlaw13_FlatCuts.j0 k y0 y1 y2 y3 y4 y5 y6 y7) (weirkeeperlaw13_FlatCuts.j0 (k + 1) y0 y1 y2 y3 y4 y5 y6 y7)) ∧ (∀ y0 y1 y2 y3 y4 y5 y6 y7 y8, LeO (weirkeeperlaw13_FlatCuts.j1 k y0 y1 y2 y3 y4 y5 y6 y7 y8) (weirkeeperlaw13_FlatCuts.j1 (k + 1) y0 y1 y2 y3 y4 y5 y6 y7 y8)) ∧ (∀ y0 y1 y2 y3 y4 y5 y6, LeO (weirkeeperlaw13_FlatCuts.j2 k y0 y1 y2 y3 y4 y5 y6) (weirkeeperlaw13_FlatCuts.j2 (k + 1) y0 y1 y2 y3 y4 y5 y6)) ∧ (∀ y0 y1 y2 y3 y4 y5 y6, LeO (weirkeeperlaw13_FlatCuts.j3 k y0 y1 y2 y3 y4 y5 y6) (weirkeeperlaw13_FlatCuts.j3 (k + 1) y0 y1 y2 y3 y4 y5 y6)) ∧ (∀ y0 y1 y2 y3 y4, LeO (weirkeeperlaw13_FlatCuts.j4 k y0 y1 y2 y3 y4) (weirkeeperlaw13_FlatCuts.j4 (k + 1) y0 y1 y2 y3 y4)) ∧ (∀ y0 y1 y2 y3 y4, LeO (weirkeeperlaw13_FlatCuts.j5 k y0 y1 y2 y3 y4) (weirkeeperlaw13_FlatCuts.j5 (k + 1) y0 y1 y2 y3 y4)) ∧ (∀ y0 y1 y2, LeO (weirkeeperlaw13_FlatCuts.j6 k y0 y1 y2) (weirkeeperlaw13_FlatCuts.j6 (k + 1) y0 y1 y2)) ∧ (∀ y0 y1 y2, LeO (weirkeeperlaw13_FlatCuts.j7 k y0 y1 y2) (weirkeeperlaw13_FlatCuts.j7 (k + 1) y0 y1 y2))
  | 0 => ⟨fun _ _ _ _ _ _ _ _ r h => by simp [weirkeeperlaw13_FlatCuts.j0] at h, fun _ _ _ _ _ _ _ _ _ r h => by simp [weirkeeperlaw13_FlatCuts.j1] at h, fun _ _ _ _ _ _ _ r h => by simp [weirkeeperlaw13_FlatCuts.j2] at h, fun _ _ _ _ _ _ _ r h => by simp [weirkeeperlaw13_FlatCuts.j3] at h, fun _ _ _ _ _ r h => by simp [weirkeeperlaw13_FlatCuts.j4] at h, fun _ _ _ _ _ r h => by simp [weirkeeperlaw13_FlatCuts.j5] at h, fun _ _ _ r h => by simp [weirkeeperlaw13_FlatCuts.j6] at h, fun _ _ _ r h => by simp [weirkeeperlaw13_FlatCuts.j7] at h⟩
  | k + 1 => by
    obtain ⟨ih0, ih1, ih2, ih3, ih4, ih5, ih6, ih7⟩ := weirkeeperlaw13_FlatCuts.mono_l k
    refine ⟨?_, ?_, ?_, ?_, ?_, ?_, ?_, ?_⟩
    · intro y0 y1 y2 y3 y4 y5 y6 y7
      unfold weirkeeperlaw13_FlatCuts.j0
      repeat' first
      | (with_reducible exact ih0 _ _ _ _ _ _ _ _)
      | (with_reducible exact ih1 _ _ _ _ _ _ _ _ _)
      | (with_reducible exact ih2 _ _ _ _ _ _ _)
      | (with_reducible exact ih3 _ _ _ _ _ _ _)
      | (with_reducible exact ih4 _ _ _ _ _)
      | (with_reducible exact ih5 _ _ _ _ _)
      | (with_reducible exact ih6 _ _ _)
      | (with_reducible exact ih7 _ _ _)
      | (with_reducible exact flat_Changes.mono _ _)
      | (with_reducible exact flat_Notes.mono _ _)
      | (with_reducible exact flat_Pairs.mono _ _)
      | (with_reducible exact flat_Range.mono _ _ _ _)
      | (with_reducible exact flat_TakeChanges.mono _ _)
      | (with_reducible exact flat_TakeNotes.mono _ _)
      | (with_reducible exact flat_TakePairs.mono _ _)
      | (with_reducible exact flat_TakeRange.mono _ _)
      | (with_reducible exact weirkeeperlaw13_awake.mono _)
      | (with_reducible exact weirkeeperlaw13_fit.mono _ _ _ _)
      | (with_reducible exact weirkeeperlaw13_short.mono _ _)
      | (with_reducible exact LeO.refl _)
      | (with_reducible exact LeO.none _)
      | (with_reducible refine LeO.ite ?_ ?_)
      | (with_reducible refine LeO.bind ?_ (fun _ => ?_))
      | exact ih0 _ _ _ _ _ _ _ _
      | exact ih1 _ _ _ _ _ _ _ _ _
      | exact ih2 _ _ _ _ _ _ _
      | exact ih3 _ _ _ _ _ _ _
      | exact ih4 _ _ _ _ _
      | exact ih5 _ _ _ _ _
      | exact ih6 _ _ _
      | exact ih7 _ _ _
      | exact flat_Changes.mono _ _
      | exact flat_Notes.mono _ _
      | exact flat_Pairs.mono _ _
      | exact flat_Range.mono _ _ _ _
      | exact flat_TakeChanges.mono _ _
      | exact flat_TakeNotes.mono _ _
      | exact flat_TakePairs.mono _ _
      | exact flat_TakeRange.mono _ _
      | exact weirkeeperlaw13_awake.mono _
      | exact weirkeeperlaw13_fit.mono _ _ _ _
      | exact weirkeeperlaw13_short.mono _ _
      | exact LeO.none _
      | refine LeO.ite ?_ ?_
      | refine LeO.bind ?_ (fun _ => ?_)
    · intro y0 y1 y2 y3 y4 y5 y6 y7 y8
      unfold weirkeeperlaw13_FlatCuts.j1
      repeat' first
      | (with_reducible exact ih0 _ _ _ _ _ _ _ _)
      | (with_reducible exact ih1 _ _ _ _ _ _ _ _ _)
      | (with_reducible exact ih2 _ _ _ _ _ _ _)
      | (with_reducible exact ih3 _ _ _ _ _ _ _)
      | (with_reducible exact ih4 _ _ _ _ _)
      | (with_reducible exact ih5 _ _ _ _ _)
      | (with_reducible exact ih6 _ _ _)
      | (with_reducible exact ih7 _ _ _)
      | (with_reducible exact flat_Changes.mono _ _)
      | (with_reducible exact flat_Notes.mono _ _)
      | (with_reducible exact flat_Pairs.mono _ _)
      | (with_reducible exact flat_Range.mono _ _ _ _)
      | (with_reducible exact flat_TakeChanges.mono _ _)
      | (with_reducible exact flat_TakeNotes.mono _ _)
      | (with_reducible exact flat_TakePairs.mono _ _)
      | (with_reducible exact flat_TakeRange.mono _ _)
      | (with_reducible exact weirkeeperlaw13_awake.mono _)
      | (with_reducible exact weirkeeperlaw13_fit.mono _ _ _ _)
      | (with_reducible exact weirkeeperlaw13_short.mono _ _)
      | (with_reducible exact LeO.refl _)
      | (with_reducible exact LeO.none _)
      | (with_reducible refine LeO.ite ?_ ?_)
      | (with_reducible refine LeO.bind ?_ (fun _ => ?_))
      | exact ih0 _ _ _ _ _ _ _ _
      | exact ih1 _ _ _ _ _ _ _ _ _
      | exact ih2 _ _ _ _ _ _ _
      | exact ih3 _ _ _ _ _ _ _
      | exact ih4 _ _ _ _ _
      | exact ih5 _ _ _ _ _
      | exact ih6 _ _ _
      | exact ih7 _ _ _
      | exact flat_Changes.mono _ _
      | exact flat_Notes.mono _ _
      | exact flat_Pairs.mono _ _
      | exact flat_Range.mono _ _ _ _
      | exact flat_TakeChanges.mono _ _
      | exact flat_TakeNotes.mono _ _
      | exact flat_TakePairs.mono _ _
      | exact flat_TakeRange.mono _ _
      | exact weirkeeperlaw13_awake.mono _
      | exact weirkeeperlaw13_fit.mono _ _ _ _
      | exact weirkeeperlaw13_short.mono _ _
      | exact LeO.none _
      | refine LeO.ite ?_ ?_
      | refine LeO.bind ?_ (fun _ => ?_)
    · intro y0 y1 y2 y3 y4 y5 y6
      unfold weirkeeperlaw13_FlatCuts.j2
      repeat' first
      | (with_reducible exact ih0 _ _ _ _ _ _ _ _)
      | (with_reducible exact ih1 _ _ _ _ _ _ _ _ _)
      | (with_reducible exact ih2 _ _ _ _ _ _ _)
      | (with_reducible exact ih3 _ _ _ _ _ _ _)
      | (with_reducible exact ih4 _ _ _ _ _)
      | (with_reducible exact ih5 _ _ _ _ _)
      | (with_reducible exact ih6 _ _ _)
      | (with_reducible exact ih7 _ _ _)
      | (with_reducible exact flat_Changes.mono _ _)
      | (with_reducible exact flat_Notes.mono _ _)
      | (with_reducible exact flat_Pairs.mono _ _)
      | (with_reducible exact flat_Range.mono _ _ _ _)
      | (with_reducible exact flat_TakeChanges.mono _ _)
      | (with_reducible exact flat_TakeNotes.mono _ _)
      | (with_reducible exact flat_TakePairs.mono _ _)
      | (with_reducible exact flat_TakeRange.mono _ _)
      | (with_reducible exact weirkeeperlaw13_awake.mono _)
      | (with_reducible exact weirkeeperlaw13_fit.mono _ _ _ _)
      | (with_reducible exact weirkeeperlaw13_short.mono _ _)
      | (with_reducible exact LeO.refl _)
      | (with_reducible exact LeO.none _)
      | (with_reducible refine LeO.ite ?_ ?_)
      | (with_reducible refine LeO.bind ?_ (fun _ => ?_))
      | exact ih0 _ _ _ _ _ _ _ _
      | exact ih1 _ _ _ _ _ _ _ _ _
      | exact ih2 _ _ _ _ _ _ _
      | exact ih3 _ _ _ _ _ _ _
      | exact ih4 _ _ _ _ _
      | exact ih5 _ _ _ _ _
      | exact ih6 _ _ _
      | exact ih7 _ _ _
      | exact flat_Changes.mono _ _
      | exact flat_Notes.mono _ _
      | exact flat_Pairs.mono _ _
      | exact flat_Range.mono _ _ _ _
      | exact flat_TakeChanges.mono _ _
      | exact flat_TakeNotes.mono _ _
      | exact flat_TakePairs.mono _ _
      | exact flat_TakeRange.mono _ _
      | exact weirkeeperlaw13_awake.mono _
      | exact weirkeeperlaw13_fit.mono _ _ _ _
      | exact weirkeeperlaw13_short.mono _ _
      | exact LeO.none _
      | refine LeO.ite ?_ ?_
      | refine LeO.bind ?_ (fun _ => ?_)
    · intro y0 y1 y2 y3 y4 y5 y6
      unfold weirkeeperlaw13_FlatCuts.j3
      repeat' first
      | (with_reducible exact ih0 _ _ _ _ _ _ _ _)
      | (with_reducible exact ih1 _ _ _ _ _ _ _ _ _)
      | (with_reducible exact ih2 _ _ _ _ _ _ _)
      | (with_reducible exact ih3 _ _ _ _ _ _ _)
      | (with_reducible exact ih4 _ _ _ _ _)
      | (with_reducible exact ih5 _ _ _ _ _)
      | (with_reducible exact ih6 _ _ _)
      | (with_reducible exact ih7 _ _ _)
      | (with_reducible exact flat_Changes.mono _ _)
      | (with_reducible exact flat_Notes.mono _ _)
      | (with_reducible exact flat_Pairs.mono _ _)
      | (with_reducible exact flat_Range.mono _ _ _ _)
      | (with_reducible exact flat_TakeChanges.mono _ _)
      | (with_reducible exact flat_TakeNotes.mono _ _)
      | (with_reducible exact flat_TakePairs.mono _ _)
      | (with_reducible exact flat_TakeRange.mono _ _)
      | (with_reducible exact weirkeeperlaw13_awake.mono _)
      | (with_reducible exact weirkeeperlaw13_fit.mono _ _ _ _)
      | (with_reducible exact weirkeeperlaw13_short.mono _ _)
      | (with_reducible exact LeO.refl _)
      | (with_reducible exact LeO.none _)
      | (with_reducible refine LeO.ite ?_ ?_)
      | (with_reducible refine LeO.bind ?_ (fun _ => ?_))
      | exact ih0 _ _ _ _ _ _ _ _
      | exact ih1 _ _ _ _ _ _ _ _ _
      | exact ih2 _ _ _ _ _ _ _
      | exact ih3 _ _ _ _ _ _ _
      | exact ih4 _ _ _ _ _
      | exact ih5 _ _ _ _ _
      | exact ih6 _ _ _
      | exact ih7 _ _ _
      | exact flat_Changes.mono _ _
      | exact flat_Notes.mono _ _
      | exact flat_Pairs.mono _ _
      | exact flat_Range.mono _ _ _ _
      | exact flat_TakeChanges.mono _ _
      | exact flat_TakeNotes.mono _ _
      | exact flat_TakePairs.mono _ _
      | exact flat_TakeRange.mono _ _
      | exact weirkeeperlaw13_awake.mono _
      | exact weirkeeperlaw13_fit.mono _ _ _ _
      | exact weirkeeperlaw13_short.mono _ _
      | exact LeO.none _
      | refine LeO.ite ?_ ?_
      | refine LeO.bind ?_ (fun _ => ?_)
    · intro y0 y1 y2 y3 y4
      unfold weirkeeperlaw13_FlatCuts.j4
      repeat' first
      | (with_reducible exact ih0 _ _ _ _ _ _ _ _)
      | (with_reducible exact ih1 _ _ _ _ _ _ _ _ _)
      | (with_reducible exact ih2 _ _ _ _ _ _ _)
      | (with_reducible exact ih3 _ _ _ _ _ _ _)
      | (with_reducible exact ih4 _ _ _ _ _)
      | (with_reducible exact ih5 _ _ _ _ _)
      | (with_reducible exact ih6 _ _ _)
      | (with_reducible exact ih7 _ _ _)
      | (with_reducible exact flat_Changes.mono _ _)
      | (with_reducible exact flat_Notes.mono _ _)
      | (with_reducible exact flat_Pairs.mono _ _)
      | (with_reducible exact flat_Range.mono _ _ _ _)
      | (with_reducible exact flat_TakeChanges.mono _ _)
      | (with_reducible exact flat_TakeNotes.mono _ _)
      | (with_reducible exact flat_TakePairs.mono _ _)
      | (with_reducible exact flat_TakeRange.mono _ _)
      | (with_reducible exact weirkeeperlaw13_awake.mono _)
      | (with_reducible exact weirkeeperlaw13_fit.mono _ _ _ _)
      | (with_reducible exact weirkeeperlaw13_short.mono _ _)
      | (with_reducible exact LeO.refl _)
      | (with_reducible exact LeO.none _)
      | (with_reducible refine LeO.ite ?_ ?_)
      | (with_reducible refine LeO.bind ?_ (fun _ => ?_))
      | exact ih0 _ _ _ _ _ _ _ _
      | exact ih1 _ _ _ _ _ _ _ _ _
      | exact ih2 _ _ _ _ _ _ _
      | exact ih3 _ _ _ _ _ _ _
      | exact ih4 _ _ _ _ _
      | exact ih5 _ _ _ _ _
      | exact ih6 _ _ _
      | exact ih7 _ _ _
      | exact flat_Changes.mono _ _
      | exact flat_Notes.mono _ _
      | exact flat_Pairs.mono _ _
      | exact flat_Range.mono _ _ _ _
      | exact flat_TakeChanges.mono _ _
      | exact flat_TakeNotes.mono _ _
      | exact flat_TakePairs.mono _ _
      | exact flat_TakeRange.mono _ _
      | exact weirkeeperlaw13_awake.mono _
      | exact weirkeeperlaw13_fit.mono _ _ _ _
      | exact weirkeeperlaw13_short.mono _ _
      | exact LeO.none _
      | refine LeO.ite ?_ ?_
      | refine LeO.bind ?_ (fun _ => ?_)
    · intro y0 y1 y2 y3 y4
      unfold weirkeeperlaw13_FlatCuts.j5
      repeat' first
      | (with_reducible exact ih0 _ _ _ _ _ _ _ _)
      | (with_reducible exact ih1 _ _ _ _ _ _ _ _ _)
      | (with_reducible exact ih2 _ _ _ _ _ _ _)
      | (with_reducible exact ih3 _ _ _ _ _ _ _)
      | (with_reducible exact ih4 _ _ _ _ _)
      | (with_reducible exact ih5 _ _ _ _ _)
      | (with_reducible exact ih6 _ _ _)
      | (with_reducible exact ih7 _ _ _)
      | (with_reducible exact flat_Changes.mono _ _)
      | (with_reducible exact flat_Notes.mono _ _)
      | (with_reducible exact flat_Pairs.mono _ _)
      | (with_reducible exact flat_Range.mono _ _ _ _)
      | (with_reducible exact flat_TakeChanges.mono _ _)
      | (with_reducible exact flat_TakeNotes.mono _ _)
      | (with_reducible exact flat_TakePairs.mono _ _)
      | (with_reducible exact flat_TakeRange.mono _ _)
      | (with_reducible exact weirkeeperlaw13_awake.mono _)
      | (with_reducible exact weirkeeperlaw13_fit.mono _ _ _ _)
      | (with_reducible exact weirkeeperlaw13_short.mono _ _)
      | (with_reducible exact LeO.refl _)
      | (with_reducible exact LeO.none _)
      | (with_reducible refine LeO.ite ?_ ?_)
      | (with_reducible refine LeO.bind ?_ (fun _ => ?_))
      | exact ih0 _ _ _ _ _ _ _ _
      | exact ih1 _ _ _ _ _ _ _ _ _
      | exact ih2 _ _ _ _ _ _ _
      | exact ih3 _ _ _ _ _ _ _
      | exact ih4 _ _ _ _ _
      | exact ih5 _ _ _ _ _
      | exact ih6 _ _ _
      | exact ih7 _ _ _
      | exact flat_Changes.mono _ _
      | exact flat_Notes.mono _ _
      | exact flat_Pairs.mono _ _
      | exact flat_Range.mono _ _ _ _
      | exact flat_TakeChanges.mono _ _
      | exact flat_TakeNotes.mono _ _
      | exact flat_TakePairs.mono _ _
      | exact flat_TakeRange.mono _ _
      | exact weirkeeperlaw13_awake.mono _
      | exact weirkeeperlaw13_fit.mono _ _ _ _
      | exact weirkeeperlaw13_short.mono _ _
      | exact LeO.none _
      | refine LeO.ite ?_ ?_
      | refine LeO.bind ?_ (fun _ => ?_)
    · intro y0 y1 y2
      unfold weirkeeperlaw13_FlatCuts.j6
      repeat' first
      | (with_reducible exact ih0 _ _ _ _ _ _ _ _)
      | (with_reducible exact ih1 _ _ _ _ _ _ _ _ _)
      | (with_reducible exact ih2 _ _ _ _ _ _ _)
      | (with_reducible exact ih3 _ _ _ _ _ _ _)
      | (with_reducible exact ih4 _ _ _ _ _)
      | (with_reducible exact ih5 _ _ _ _ _)
      | (with_reducible exact ih6 _ _ _)
      | (with_reducible exact ih7 _ _ _)
      | (with_reducible exact flat_Changes.mono _ _)
      | (with_reducible exact flat_Notes.mono _ _)
      | (with_reducible exact flat_Pairs.mono _ _)
      | (with_reducible exact flat_Range.mono _ _ _ _)
      | (with_reducible exact flat_TakeChanges.mono _ _)
      | (with_reducible exact flat_TakeNotes.mono _ _)
      | (with_reducible exact flat_TakePairs.mono _ _)
      | (with_reducible exact flat_TakeRange.mono _ _)
      | (with_reducible exact weirkeeperlaw13_awake.mono _)
      | (with_reducible exact weirkeeperlaw13_fit.mono _ _ _ _)
      | (with_reducible exact weirkeeperlaw13_short.mono _ _)
      | (with_reducible exact LeO.refl _)
      | (with_reducible exact LeO.none _)
      | (with_reducible refine LeO.ite ?_ ?_)
      | (with_reducible refine LeO.bind ?_ (fun _ => ?_))
      | exact ih0 _ _ _ _ _ _ _ _
      | exact ih1 _ _ _ _ _ _ _ _ _
      | exact ih2 _ _ _ _ _ _ _
      | exact ih3 _ _ _ _ _ _ _
      | exact ih4 _ _ _ _ _
      | exact ih5 _ _ _ _ _
      | exact ih6 _ _ _
      | exact ih7 _ _ _
      | exact flat_Changes.mono _ _
      | exact flat_Notes.mono _ _
      | exact flat_Pairs.mono _ _
      | exact flat_Range.mono _ _ _ _
      | exact flat_TakeChanges.mono _ _
      | exact flat_TakeNotes.mono _ _
      | exact flat_TakePairs.mono _ _
      | exact flat_TakeRange.mono _ _
      | exact weirkeeperlaw13_awake.mono _
      | exact weirkeeperlaw13_fit.mono _ _ _ _
      | exact weirkeeperlaw13_short.mono _ _
      | exact LeO.none _
      | refine LeO.ite ?_ ?_
      | refine LeO.bind ?_ (fun _ => ?_)
    · intro y0 y1 y2
      unfold weirkeeperlaw13_FlatCuts.j7
      repeat' first
      | (with_reducible exact ih0 _ _ _ _ _ _ _ _)
      | (with_reducible exact ih1 _ _ _ _ _ _ _ _ _)
      | (with_reducible exact ih2 _ _ _ _ _ _ _)
      | (with_reducible exact ih3 _ _ _ _ _ _ _)
      | (with_reducible exact ih4 _ _ _ _ _)
      | (with_reducible exact ih5 _ _ _ _ _)
      | (with_reducible exact ih6 _ _ _)
      | (with_reducible exact ih7 _ _ _)
      | (with_reducible exact flat_Changes.mono _ _)
      | (with_reducible exact flat_Notes.mono _ _)
      | (with_reducible exact flat_Pairs.mono _ _)
      | (with_reducible exact flat_Range.mono _ _ _ _)
      | (with_reducible exact flat_TakeChanges.mono _ _)
      | (with_reducible exact flat_TakeNotes.mono _ _)
      | (with_reducible exact flat_TakePairs.mono _ _)
      | (with_reducible exact flat_TakeRange.mono _ _)
      | (with_reducible exact weirkeeperlaw13_awake.mono _)
      | (with_reducible exact weirkeeperlaw13_fit.mono _ _ _ _)
      | (with_reducible exact weirkeeperlaw13_short.mono _ _)
      | (with_reducible exact LeO.refl _)
      | (with_reducible exact LeO.none _)
      | (with_reducible refine LeO.ite ?_ ?_)
      | (with_reducible refine LeO.bind ?_ (fun _ => ?_))
      | exact ih0 _ _ _ _ _ _ _ _
      | exact ih1 _ _ _ _ _ _ _ _ _
      | exact ih2 _ _ _ _ _ _ _
      | exact ih3 _ _ _ _ _ _ _
      | exact ih4 _ _ _ _ _
      | exact ih5 _ _ _ _ _
      | exact ih6 _ _ _
      | exact ih7 _ _ _
      | exact flat_Changes.mono _ _
      | exact flat_Notes.mono _ _
      | exact flat_Pairs.mono _ _
      | exact flat_Range.mono _ _ _ _
      | exact flat_TakeChanges.mono _ _
      | exact flat_TakeNotes.mono _ _
      | exact flat_TakePairs.mono _ _
      | exact flat_TakeRange.mono _ _
      | exact weirkeeperlaw13_awake.mono _
      | exact weirkeeperlaw13_fit.mono _ _ _ _
      | exact weirkeeperlaw13_short.mono _ _
      | exact LeO.none _
      | refine LeO.ite ?_ ?_
      | refine LeO.bind ?_ (fun _ => ?_)
theorem weirkeeperlaw13_FlatCuts.mono : ∀ a0 a1 a2 a3 a4 a5 a6 k, LeO (weirkeeperlaw13_FlatCuts.f k a0 a1 a2 a3 a4 a5 a6) (weirkeeperlaw13_FlatCuts.f (k + 1) a0 a1 a2 a3 a4 a5 a6) := by
  intro a0 a1 a2 a3 a4 a5 a6 k
  obtain ⟨ih0, ih1, ih2, ih3, ih4, ih5, ih6, ih7⟩ := weirkeeperlaw13_FlatCuts.mono_l k
  unfold weirkeeperlaw13_FlatCuts.f
  repeat' first
      | (with_reducible exact ih0 _ _ _ _ _ _ _ _)
      | (with_reducible exact ih1 _ _ _ _ _ _ _ _ _)
      | (with_reducible exact ih2 _ _ _ _ _ _ _)
      | (with_reducible exact ih3 _ _ _ _ _ _ _)
      | (with_reducible exact ih4 _ _ _ _ _)
      | (with_reducible exact ih5 _ _ _ _ _)
      | (with_reducible exact ih6 _ _ _)
      | (with_reducible exact ih7 _ _ _)
      | (with_reducible exact flat_Changes.mono _ _)
      | (with_reducible exact flat_Notes.mono _ _)
      | (with_reducible exact flat_Pairs.mono _ _)
      | (with_reducible exact flat_Range.mono _ _ _ _)
      | (with_reducible exact flat_TakeChanges.mono _ _)
      | (with_reducible exact flat_TakeNotes.mono _ _)
      | (with_reducible exact flat_TakePairs.mono _ _)
      | (with_reducible exact flat_TakeRange.mono _ _)
      | (with_reducible exact weirkeeperlaw13_awake.mono _)
      | (with_reducible exact weirkeeperlaw13_fit.mono _ _ _ _)
      | (with_reducible exact weirkeeperlaw13_short.mono _ _)
      | (with_reducible exact LeO.refl _)
      | (with_reducible exact LeO.none _)
      | (with_reducible refine LeO.ite ?_ ?_)
      | (with_reducible refine LeO.bind ?_ (fun _ => ?_))
      | exact ih0 _ _ _ _ _ _ _ _
      | exact ih1 _ _ _ _ _ _ _ _ _
      | exact ih2 _ _ _ _ _ _ _
      | exact ih3 _ _ _ _ _ _ _
      | exact ih4 _ _ _ _ _
      | exact ih5 _ _ _ _ _
      | exact ih6 _ _ _
      | exact ih7 _ _ _
      | exact flat_Changes.mono _ _
      | exact flat_Notes.mono _ _
      | exact flat_Pairs.mono _ _
      | exact flat_Range.mono _ _ _ _
      | exact flat_TakeChanges.mono _ _
      | exact flat_TakeNotes.mono _ _
      | exact flat_TakePairs.mono _ _
      | exact flat_TakeRange.mono _ _
      | exact weirkeeperlaw13_awake.mono _
      | exact weirkeeperlaw13_fit.mono _ _ _ _
      | exact weirkeeperlaw13_short.mono _ _
      | exact LeO.none _
      | refine LeO.ite ?_ ?_
      | refine LeO.bind ?_ (fun _ => ?_)
set_option maxHeartbeats 8000000 in
set_option maxRecDepth 100000 in
theorem weirkeeperlaw13_FlatCuts.calls (k : Nat) (A0 : Option Addr) (c0 : Nat) (l0 : List (S48)) (A1 : Option Addr) (c1 : Nat) (l1 : List (S50)) (A2 : Option Addr) (c2 : Nat) (l2 : List (S42)) (a3_0 : ByteArray) (a3_1 : ByteArray) (a3_2 : Bool) (a4 : Int) (w : World) (hr0 : Kd.C k48 w A0 l0.length l0) (hc0 : l0.length ≤ c0) (hr1 : Kd.C k50 w A1 l1.length l1) (hc1 : l1.length ≤ c1) (hr2 : Kd.C k42 w A2 l2.length l2) (hc2 : l2.length ≤ c2) (h : weirkeeperlaw13_FlatCuts.f k l0 l1 l2 a3_0 a3_1 a3_2 a4 = some true) :
    Calls Try.prog 8 #[.slice A0 l0.length c0, .slice A1 l1.length c1, .slice A2 l2.length c2, .agg #[.string a3_0, .string a3_1, .bool a3_2], .int .u16 a4] w fun e w' => e = .returned (.bool true) ∧ Below w.heap.size w w' := by
  have hu26 := Try.underlying26
  have HR0 := Aside0.mk hr0
  have HC0 := Aside0.mk hc0
  clear hr0 hc0
  have HR1 := Aside0.mk hr1
  have HC1 := Aside0.mk hc1
  clear hr1 hc1
  have HR2 := Aside0.mk hr2
  have HC2 := Aside0.mk hc2
  clear hr2 hc2
  have HB := Aside0.mk (Below.refl w.heap.size w)
  have H : ((weirkeeperlaw13_fit.f k l0 l1 l2).bind fun t597 => (if t597 = true then ((weirkeeperlaw13_short.f k (([a3_0, a3_1] : List ByteArray))).bind fun t601 => (weirkeeperlaw13_FlatCuts.j0 k l0 l1 l2 a4 (!t601) a3_0 a3_1 a3_2)) else (weirkeeperlaw13_FlatCuts.j0 k l0 l1 l2 a4 true a3_0 a3_1 a3_2))) = some true := h
  clear h
  have HC6 := Aside0.mk H
  clear H
  go_enter Try.func8, Try.ntmps8
  go_upto_region 1 with (first | ((with_reducible refine gate_dst (N := 8) rfl ?_); (try (refine gate_guard (by rfl) ?_; dsimp only)); refine box_event ?hg (N := 8) ?hd (cs := #[.string a3_0, .string a3_1, .bool a3_2]) (t := 26) ?hr ?_; (case hd => rfl); (case hg => rfl); (case hr => first | (go_simp; done) | (go_simp; rfl)); intro gb596 hg w7 hbox hb; have n0_ := Aside0.mk (below_step (by repeat (first | (with_reducible first | exact HB.out | apply below_alloc | apply pw_below_drewN | apply below_drew1) | exact HB.out)) hb); have n1_ := Aside0.mk (hbox); have n2_ := Aside0.mk ((by rw [hg]; exact (below_size (by repeat (first | (with_reducible first | exact HB.out | apply below_alloc | apply pw_below_drewN | apply below_drew1) | exact HB.out))) : w.heap.size ≤ gb596)); have n3_ := Aside0.mk ((by rw [hg]; exact (below_size (by repeat (first | (with_reducible first | exact HB.out | apply below_alloc | apply pw_below_drewN | apply below_drew1) | exact HB.out))) : w.heap.size ≤ gb596)); clear HB; have HB := n0_; have BK596 := n1_; have GW596 := n2_; have GE596 := n3_; clear n0_ n1_ n2_ n3_; clear hb hbox hg))
  (try simp only [Act.put, List.setIfInBounds_toArray, List.set_cons_zero, List.set_cons_succ])
  go_cut [44] (fun v44 wc => ∃ (kq : Nat) (x44_5 : Bool), v44 = .bool x44_5 ∧ Aside0 (weirkeeperlaw13_FlatCuts.j0 kq l0 l1 l2 a4 x44_5 a3_0 a3_1 a3_2 = some true) ∧ Aside0 (kq ≤ k) ∧ Aside0 (wc.heap[gb596]? = some (.cells #[.string a3_0, .string a3_1, .bool a3_2] 26 (0, 0))) ∧ Aside0 (Below w.heap.size w wc))
  case first =>
    have H := HC6.out
    clear HC6
    replace H := Option.bind_eq_some_iff.mp H
    obtain ⟨t597, A80, H⟩ := H
    replace H : (if t597 = true then ((weirkeeperlaw13_short.f k (([a3_0, a3_1] : List ByteArray))).bind fun t601 => (weirkeeperlaw13_FlatCuts.j0 k l0 l1 l2 a4 (!t601) a3_0 a3_1 a3_2)) else (weirkeeperlaw13_FlatCuts.j0 k l0 l1 l2 a4 true a3_0 a3_1 a3_2)) = some true := H
    have A8 := Aside0.mk A80
    clear A80
    by_cases c9 : t597 = true
    · subst c9
      have H1 : ((weirkeeperlaw13_short.f k (([a3_0, a3_1] : List ByteArray))).bind fun t601 => (weirkeeperlaw13_FlatCuts.j0 k l0 l1 l2 a4 (!t601) a3_0 a3_1 a3_2)) = some true := by rw [if_pos rfl] at H; exact H
      clear H
      have H := H1
      clear H1
      obtain ⟨y598, hy598⟩ : ∃ y_ : List ByteArray, y_ = (([a3_0, a3_1] : List ByteArray)) := ⟨_, rfl⟩
      replace H : ((weirkeeperlaw13_short.f k y598).bind fun t601 => (weirkeeperlaw13_FlatCuts.j0 k l0 l1 l2 a4 (!t601) a3_0 a3_1 a3_2)) = some true := by first | (rw [hy598]; with_reducible exact H) | (have H2_ := (Option.bind_some _ _).symm.trans H; rw [hy598]; with_reducible exact H2_) | (have H2_ := (Option.bind_some _ _).symm.trans H; with_reducible exact H2_) | with_reducible exact H | (rw [hy598]; exact H) | exact H
      have Ny598 := Aside0.mk hy598
      clear hy598
      replace H := Option.bind_eq_some_iff.mp H
      obtain ⟨t601, A100, H⟩ := H
      replace H : (weirkeeperlaw13_FlatCuts.j0 k l0 l1 l2 a4 (!t601) a3_0 a3_1 a3_2) = some true := H
      have A10 := Aside0.mk A100
      clear A100
      have H' := Aside0.mk H
      clear H
      go_wp2_with (first | ((with_reducible refine gate_callee (f := 13) rfl ?_); refine goesL_ (some 34) rfl rfl Try.func13 (by kernel_rfl) rfl #[.slice A0 l0.length c0, .slice A1 l1.length c1, .slice A2 l2.length c2] rfl (by (try simp only [List.map_toArray, List.map_cons, List.map_nil]); first | done | rfl | (simp only [List.length_drop, List.length_take]; rfl)) ?_; (with_reducible refine (weirkeeperlaw13_fit.calls k _ _ l0 _ _ l1 _ _ l2 true _ ?side1 ?side2 ?side3 ?side4 ?side5 ?side6 A8.out).mono ?_); (case side1 => repeat (first | exact (Kd.C_below HR0.out HB.out) | (with_reducible refine Kd.C_alloc ?_ _) | (with_reducible refine Kd.C_drewN ?_ _) | (with_reducible refine Kd.C_drew ?_))); (case side2 => exact HC0.out); (case side3 => repeat (first | exact (Kd.C_below HR1.out HB.out) | (with_reducible refine Kd.C_alloc ?_ _) | (with_reducible refine Kd.C_drewN ?_ _) | (with_reducible refine Kd.C_drew ?_))); (case side4 => exact HC1.out); (case side5 => repeat (first | exact (Kd.C_below HR2.out HB.out) | (with_reducible refine Kd.C_alloc ?_ _) | (with_reducible refine Kd.C_drewN ?_ _) | (with_reducible refine Kd.C_drew ?_))); (case side6 => exact HC2.out); rintro e w11 ⟨rfl, hb⟩; refine ⟨_, rfl, ?_⟩; have n0_ := Aside0.mk (blk_below (g := gb596) (o := .cells #[.string a3_0, .string a3_1, .bool a3_2] 26 (0, 0)) (by (with_reducible repeat (first | refine blk_drewN ?_ _ | refine blk_drew ?_ | refine blk_alloc ?_ _)); exact BK596.out) hb); have n1_ := Aside0.mk (below_step (by repeat (first | (with_reducible first | exact HB.out | apply below_alloc | apply pw_below_drewN | apply below_drew1 | refine below_set ?_ GE596.out) | exact HB.out)) hb); clear BK596; clear HB; have BK596 := n0_; have HB := n1_; clear n0_ n1_; (try clear hb); (try clear hb2); (try clear hk); (try clear hi); have hcz12_0 : w11.cell? ⟨gb596, 0, none⟩ = some (.string a3_0) := (blk_cell BK596.out 0).trans rfl; have hcz12_1 : w11.cell? ⟨gb596, 1, none⟩ = some (.string a3_1) := (blk_cell BK596.out 1).trans rfl; have hcz12_2 : w11.cell? ⟨gb596, 2, none⟩ = some (.bool a3_2) := (blk_cell BK596.out 2).trans rfl; have hfz12_0 := blk_frozen BK596.out 0; have hfz12_1 := blk_frozen BK596.out 1; have hfz12_2 := blk_frozen BK596.out 2) | ((with_reducible refine gate_dst (N := 41) rfl ?_); (try (refine gate_guard (by rfl) ?_; dsimp only)); refine Kd.R_lit Kd.string _ 9 ?hg (N := 41) ?hd (xs := ([a3_0, a3_1] : List ByteArray)) (inner := [.string a3_0, .string a3_1]) (ok := fun _ => True) (okp := fun _ => True) ?hr ?hp (fun _ hk => hk) trivial (Below.refl _ _) (Nat.le_refl _) (by simp) ?_; (case hd => rfl); (case hg => rfl); (case hr => first | (go_simp; done) | (go_simp; rfl)); (case hp => exact (Reps.one (show Kd.M Kd.string _ _ _ a3_0 [.string a3_0] from rfl) (Reps.one (show Kd.M Kd.string _ _ _ a3_1 [.string a3_1] from rfl) (Reps.none _ _)))); intro v599 w13 ho14 hb hg_ hnew_; clear hg_ hnew_; (first | rw [← Ny598.out] at ho14 | (simp only [Int.reduceToNat] at ho14; rw [← Ny598.out] at ho14)); have n0_ := Aside0.mk (Kd.R_lower ho14 (below_size (by repeat (first | (with_reducible first | exact HB.out | apply below_alloc | apply pw_below_drewN | apply below_drew1 | refine below_set ?_ GE596.out) | exact HB.out)))); have n1_ := Aside0.mk (blk_below (g := gb596) (o := .cells #[.string a3_0, .string a3_1, .bool a3_2] 26 (0, 0)) (by (with_reducible repeat (first | refine blk_drewN ?_ _ | refine blk_drew ?_ | refine blk_alloc ?_ _)); exact BK596.out) hb); have n2_ := Aside0.mk (below_step (by repeat (first | (with_reducible first | exact HB.out | apply below_alloc | apply pw_below_drewN | apply below_drew1 | refine below_set ?_ GE596.out) | exact HB.out)) hb); clear BK596; clear HB; have HO600 := n0_; have BK596 := n1_; have HB := n2_; clear n0_ n1_ n2_; clear hb ho14; obtain ⟨Ao15, co15, eo15⟩ := Kd.R_slice HO600.out; subst eo15) | (go_at_call 14; (with_reducible refine (weirkeeperlaw13_short.calls k _ _ y598 t601 _ ?side1 ?side2 A10.out).mono ?_); (case side1 => repeat (first | exact (Kd.R_reads' HO600.out).2.2 | (with_reducible refine Kd.C_alloc ?_ _) | (with_reducible refine Kd.C_drewN ?_ _) | (with_reducible refine Kd.C_drew ?_))); (case side2 => exact (Kd.R_reads' HO600.out).2.1); rintro e w' ⟨rfl, ⟨nd, rfl⟩⟩))
      go_meet
      case rel => exact ⟨_, (!t601), (by first | rfl | (simp; done) | (simp [*]; done)), H', ⟨by first | omega | exact Nat.le_refl _⟩, ⟨by (with_reducible repeat (first | refine blk_drewN ?_ _ | refine blk_drew ?_ | refine blk_alloc ?_ _)); exact BK596.out⟩, ⟨by repeat (first | (with_reducible first | exact HB.out | apply below_alloc | apply pw_below_drewN | apply below_drew1 | refine below_set ?_ GE596.out) | exact HB.out)⟩⟩
    · replace c9 := Bool.eq_false_iff.mpr c9
      subst c9
      have H1 : (weirkeeperlaw13_FlatCuts.j0 k l0 l1 l2 a4 true a3_0 a3_1 a3_2) = some true := by rw [if_neg (show ¬ (false = true) by decide)] at H; exact H
      clear H
      have H := H1
      clear H1
      have H' := Aside0.mk H
      clear H
      go_wp2_with (first | ((with_reducible refine gate_callee (f := 13) rfl ?_); refine goesL_ (some 34) rfl rfl Try.func13 (by kernel_rfl) rfl #[.slice A0 l0.length c0, .slice A1 l1.length c1, .slice A2 l2.length c2] rfl (by (try simp only [List.map_toArray, List.map_cons, List.map_nil]); first | done | rfl | (simp only [List.length_drop, List.length_take]; rfl)) ?_; (with_reducible refine (weirkeeperlaw13_fit.calls k _ _ l0 _ _ l1 _ _ l2 false _ ?side1 ?side2 ?side3 ?side4 ?side5 ?side6 A8.out).mono ?_); (case side1 => repeat (first | exact (Kd.C_below HR0.out HB.out) | (with_reducible refine Kd.C_alloc ?_ _) | (with_reducible refine Kd.C_drewN ?_ _) | (with_reducible refine Kd.C_drew ?_))); (case side2 => exact HC0.out); (case side3 => repeat (first | exact (Kd.C_below HR1.out HB.out) | (with_reducible refine Kd.C_alloc ?_ _) | (with_reducible refine Kd.C_drewN ?_ _) | (with_reducible refine Kd.C_drew ?_))); (case side4 => exact HC1.out); (case side5 => repeat (first | exact (Kd.C_below HR2.out HB.out) | (with_reducible refine Kd.C_alloc ?_ _) | (with_reducible refine Kd.C_drewN ?_ _) | (with_reducible refine Kd.C_drew ?_))); (case side6 => exact HC2.out); rintro e w16 ⟨rfl, hb⟩; refine ⟨_, rfl, ?_⟩; have n0_ := Aside0.mk (blk_below (g := gb596) (o := .cells #[.string a3_0, .string a3_1, .bool a3_2] 26 (0, 0)) (by (with_reducible repeat (first | refine blk_drewN ?_ _ | refine blk_drew ?_ | refine blk_alloc ?_ _)); exact BK596.out) hb); have n1_ := Aside0.mk (below_step (by repeat (first | (with_reducible first | exact HB.out | apply below_alloc | apply pw_below_drewN | apply below_drew1 | refine below_set ?_ GE596.out) | exact HB.out)) hb); clear BK596; clear HB; have BK596 := n0_; have HB := n1_; clear n0_ n1_; (try clear hb); (try clear hb2); (try clear hk); (try clear hi)))
      go_meet
      case rel => exact ⟨_, (true), (by first | rfl | (simp; done) | (simp [*]; done)), H', ⟨by first | omega | exact Nat.le_refl _⟩, ⟨by (with_reducible repeat (first | refine blk_drewN ?_ _ | refine blk_drew ?_ | refine blk_alloc ?_ _)); exact BK596.out⟩, ⟨by repeat (first | (with_reducible first | exact HB.out | apply below_alloc | apply pw_below_drewN | apply below_drew1 | refine below_set ?_ GE596.out) | exact HB.out)⟩⟩
  case rest =>
    clear HC6
    try clear c1
    try clear c2
    try clear p2
    try clear c8
    try clear c9
    try clear c13
    try clear hcz12_0
    try clear hcz12_1
    try clear hcz12_2
    try clear hfz12_0
    try clear hfz12_1
    try clear hfz12_2
    obtain ⟨kq, x44_5, rfl, HA, HJ5, BK596, HB⟩ := hcut
    cases kq with
    | zero => exact absurd HA.out (by simp [weirkeeperlaw13_FlatCuts.j0])
    | succ kj5 =>
      have H := HA.out
      clear HA
      simp only [weirkeeperlaw13_FlatCuts.j0] at H
      by_cases c17 : x44_5 = true
      · subst c17
        have H1 : ((weirkeeperlaw13_awake.f kj5).bind fun t602 => (some t602)) = some true := by rw [if_pos rfl] at H; exact H
        clear H
        have H := H1
        clear H1
        replace H := Option.bind_eq_some_iff.mp H
        obtain ⟨t602, A180, H⟩ := H
        replace H : (some t602) = some true := H
        have A18 := Aside0.mk A180
        clear A180
        (have H9_ := Option.some.inj H; first | subst H9_ | (have h9_ := Aside0.mk H9_; clear H9_))
        go_wp2_with (first | ((with_reducible refine gate_callee (f := 15) rfl ?_); refine goesL_ (some 45) rfl rfl Try.func15 (by kernel_rfl) rfl #[] rfl (by (try simp only [List.map_toArray, List.map_cons, List.map_nil]); first | done | rfl | (simp only [List.length_drop, List.length_take]; rfl)) ?_; (with_reducible refine (weirkeeperlaw13_awake.calls kj5 _ A18.out).mono ?_); rintro e w19 ⟨rfl, hb⟩; refine ⟨_, rfl, ?_⟩; have n0_ := Aside0.mk (blk_below (g := gb596) (o := .cells #[.string a3_0, .string a3_1, .bool a3_2] 26 (0, 0)) (by (with_reducible repeat (first | refine blk_drewN ?_ _ | refine blk_drew ?_ | refine blk_alloc ?_ _)); exact BK596.out) hb); have n1_ := Aside0.mk (below_step (by repeat (first | (with_reducible first | exact HB.out | apply below_alloc | apply pw_below_drewN | apply below_drew1 | refine below_set ?_ GE596.out) | exact HB.out)) hb); clear BK596; clear HB; have BK596 := n0_; have HB := n1_; clear n0_ n1_; (try clear hb); (try clear hb2); (try clear hk); (try clear hi)))
        go_ret
        exact ⟨by first | rfl | (simp only [h9_.out]; done) | (have h8_ := h9_.out; simp [h8_]; done) | (simp [errW_none, errW_some] <;> rfl) | (simp [*, errW_none, errW_some] <;> rfl), by repeat (first | (with_reducible first | exact HB.out | apply below_alloc | apply pw_below_drewN | apply below_drew1 | refine below_set ?_ GE596.out) | exact HB.out)⟩
      · replace c17 := Bool.eq_false_iff.mpr c17
        subst c17
        have H1 : ((flat_Notes.f kj5 l0).bind fun bt603 => ((flat_Pairs.f kj5 l1).bind fun bt605 => ((flat_Changes.f kj5 l2).bind fun bt607 => ((flat_Range.f kj5 a3_0 a3_1 a3_2).bind fun bt609 => (if bt603.2 = 0 then (weirkeeperlaw13_FlatCuts.j1 kj5 a4 bt603.1 bt605.1 bt605.2 bt607.1 bt607.2 bt609.1 bt609.2 (decide ((bt603.1.size : Int) > 0))) else (weirkeeperlaw13_FlatCuts.j1 kj5 a4 bt603.1 bt605.1 bt605.2 bt607.1 bt607.2 bt609.1 bt609.2 false)))))) = some true := by rw [if_neg (show ¬ (false = true) by decide)] at H; exact H
        clear H
        have H := H1
        clear H1
        replace H := Option.bind_eq_some_iff.mp H
        obtain ⟨⟨t603, t604⟩, A200, H⟩ := H
        replace H : ((flat_Pairs.f kj5 l1).bind fun bt605 => ((flat_Changes.f kj5 l2).bind fun bt607 => ((flat_Range.f kj5 a3_0 a3_1 a3_2).bind fun bt609 => (if t604 = 0 then (weirkeeperlaw13_FlatCuts.j1 kj5 a4 t603 bt605.1 bt605.2 bt607.1 bt607.2 bt609.1 bt609.2 (decide ((t603.size : Int) > 0))) else (weirkeeperlaw13_FlatCuts.j1 kj5 a4 t603 bt605.1 bt605.2 bt607.1 bt607.2 bt609.1 bt609.2 false))))) = some true := H
        have A20 := Aside0.mk A200
        clear A200
        replace H := Option.bind_eq_some_iff.mp H
        obtain ⟨⟨t605, t606⟩, A210, H⟩ := H
        replace H : ((flat_Changes.f kj5 l2).bind fun bt607 => ((flat_Range.f kj5 a3_0 a3_1 a3_2).bind fun bt609 => (if t604 = 0 then (weirkeeperlaw13_FlatCuts.j1 kj5 a4 t603 t605 t606 bt607.1 bt607.2 bt609.1 bt609.2 (decide ((t603.size : Int) > 0))) else (weirkeeperlaw13_FlatCuts.j1 kj5 a4 t603 t605 t606 bt607.1 bt607.2 bt609.1 bt609.2 false)))) = some true := H
        have A21 := Aside0.mk A210
        clear A210
        replace H := Option.bind_eq_some_iff.mp H
        obtain ⟨⟨t607, t608⟩, A220, H⟩ := H
        replace H : ((flat_Range.f kj5 a3_0 a3_1 a3_2).bind fun bt609 => (if t604 = 0 then (weirkeeperlaw13_FlatCuts.j1 kj5 a4 t603 t605 t606 t607 t608 bt609.1 bt609.2 (decide ((t603.size : Int) > 0))) else (weirkeeperlaw13_FlatCuts.j1 kj5 a4 t603 t605 t606 t607 t608 bt609.1 bt609.2 false))) = some true := H
        have A22 := Aside0.mk A220
        clear A220
        replace H := Option.bind_eq_some_iff.mp H
        obtain ⟨⟨t609, t610⟩, A230, H⟩ := H
        replace H : (if t604 = 0 then (weirkeeperlaw13_FlatCuts.j1 kj5 a4 t603 t605 t606 t607 t608 t609 t610 (decide ((t603.size : Int) > 0))) else (weirkeeperlaw13_FlatCuts.j1 kj5 a4 t603 t605 t606 t607 t608 t609 t610 false)) = some true := H
        have A23 := Aside0.mk A230
        clear A230
        have HC24 := Aside0.mk H
        clear H
        go_upto_region 7 with (first | ((with_reducible refine gate_callee (f := 16) rfl ?_); refine goesL_ (some 48) rfl rfl Try.func16 (by kernel_rfl) rfl #[.slice A0 l0.length c0] rfl (by (try simp only [List.map_toArray, List.map_cons, List.map_nil]); first | done | rfl | (simp only [List.length_drop, List.length_take]; rfl)) ?_; (with_reducible refine (flat_Notes.calls kj5 _ _ l0 t603 t604 _ ?side1 ?side2 A20.out).mono ?_); (case side1 => repeat (first | exact (Kd.C_below HR0.out HB.out) | (with_reducible refine Kd.C_alloc ?_ _) | (with_reducible refine Kd.C_drewN ?_ _) | (with_reducible refine Kd.C_drew ?_))); (case side2 => exact HC0.out); rintro e w25 ⟨rfl, hb⟩; refine ⟨_, rfl, ?_⟩; have n0_ := Aside0.mk (blk_below (g := gb596) (o := .cells #[.string a3_0, .string a3_1, .bool a3_2] 26 (0, 0)) (by (with_reducible repeat (first | refine blk_drewN ?_ _ | refine blk_drew ?_ | refine blk_alloc ?_ _)); exact BK596.out) hb); have n1_ := Aside0.mk (below_step (by repeat (first | (with_reducible first | exact HB.out | apply below_alloc | apply pw_below_drewN | apply below_drew1 | refine below_set ?_ GE596.out) | exact HB.out)) hb); clear BK596; clear HB; have BK596 := n0_; have HB := n1_; clear n0_ n1_; (try clear hb); (try clear hb2); (try clear hk); (try clear hi)) | ((with_reducible refine gate_callee (f := 17) rfl ?_); refine goesL_ (some 53) rfl rfl Try.func17 (by kernel_rfl) rfl #[.slice A1 l1.length c1] rfl (by (try simp only [List.map_toArray, List.map_cons, List.map_nil]); first | done | rfl | (simp only [List.length_drop, List.length_take]; rfl)) ?_; (with_reducible refine (flat_Pairs.calls kj5 _ _ l1 t605 t606 _ ?side1 ?side2 A21.out).mono ?_); (case side1 => repeat (first | exact (Kd.C_below HR1.out HB.out) | (with_reducible refine Kd.C_alloc ?_ _) | (with_reducible refine Kd.C_drewN ?_ _) | (with_reducible refine Kd.C_drew ?_))); (case side2 => exact HC1.out); rintro e w26 ⟨rfl, hb⟩; refine ⟨_, rfl, ?_⟩; have n0_ := Aside0.mk (blk_below (g := gb596) (o := .cells #[.string a3_0, .string a3_1, .bool a3_2] 26 (0, 0)) (by (with_reducible repeat (first | refine blk_drewN ?_ _ | refine blk_drew ?_ | refine blk_alloc ?_ _)); exact BK596.out) hb); have n1_ := Aside0.mk (below_step (by repeat (first | (with_reducible first | exact HB.out | apply below_alloc | apply pw_below_drewN | apply below_drew1 | refine below_set ?_ GE596.out) | exact HB.out)) hb); clear BK596; clear HB; have BK596 := n0_; have HB := n1_; clear n0_ n1_; (try clear hb); (try clear hb2); (try clear hk); (try clear hi)) | ((with_reducible refine gate_callee (f := 18) rfl ?_); refine goesL_ (some 58) rfl rfl Try.func18 (by kernel_rfl) rfl #[.slice A2 l2.length c2] rfl (by (try simp only [List.map_toArray, List.map_cons, List.map_nil]); first | done | rfl | (simp only [List.length_drop, List.length_take]; rfl)) ?_; (with_reducible refine (flat_Changes.calls kj5 _ _ l2 t607 t608 _ ?side1 ?side2 A22.out).mono ?_); (case side1 => repeat (first | exact (Kd.C_below HR2.out HB.out) | (with_reducible refine Kd.C_alloc ?_ _) | (with_reducible refine Kd.C_drewN ?_ _) | (with_reducible refine Kd.C_drew ?_))); (case side2 => exact HC2.out); rintro e w27 ⟨rfl, hb⟩; refine ⟨_, rfl, ?_⟩; have n0_ := Aside0.mk (blk_below (g := gb596) (o := .cells #[.string a3_0, .string a3_1, .bool a3_2] 26 (0, 0)) (by (with_reducible repeat (first | refine blk_drewN ?_ _ | refine blk_drew ?_ | refine blk_alloc ?_ _)); exact BK596.out) hb); have n1_ := Aside0.mk (below_step (by repeat (first | (with_reducible first | exact HB.out | apply below_alloc | apply pw_below_drewN | apply below_drew1 | refine below_set ?_ GE596.out) | exact HB.out)) hb); clear BK596; clear HB; have BK596 := n0_; have HB := n1_; clear n0_ n1_; (try clear hb); (try clear hb2); (try clear hk); (try clear hi); have hcz28_0 : w27.cell? ⟨gb596, 0, none⟩ = some (.string a3_0) := (blk_cell BK596.out 0).trans rfl; have hcz28_1 : w27.cell? ⟨gb596, 1, none⟩ = some (.string a3_1) := (blk_cell BK596.out 1).trans rfl; have hcz28_2 : w27.cell? ⟨gb596, 2, none⟩ = some (.bool a3_2) := (blk_cell BK596.out 2).trans rfl; have hfz28_0 := blk_frozen BK596.out 0; have hfz28_1 := blk_frozen BK596.out 1; have hfz28_2 := blk_frozen BK596.out 2) | ((with_reducible refine gate_callee (f := 19) rfl ?_); refine goesL_ (some 63) rfl rfl Try.func19 (by kernel_rfl) rfl #[.agg #[.string a3_0, .string a3_1, .bool a3_2]] rfl (by (try simp only [List.map_toArray, List.map_cons, List.map_nil]); first | done | rfl | (simp only [List.length_drop, List.length_take]; rfl)) ?_; (with_reducible refine (flat_Range.calls kj5 a3_0 a3_1 a3_2 t609 t610 _ A23.out).mono ?_); rintro e w29 ⟨rfl, hb⟩; refine ⟨_, rfl, ?_⟩; have n0_ := Aside0.mk (blk_below (g := gb596) (o := .cells #[.string a3_0, .string a3_1, .bool a3_2] 26 (0, 0)) (by (with_reducible repeat (first | refine blk_drewN ?_ _ | refine blk_drew ?_ | refine blk_alloc ?_ _)); exact BK596.out) hb); have n1_ := Aside0.mk (below_step (by repeat (first | (with_reducible first | exact HB.out | apply below_alloc | apply pw_below_drewN | apply below_drew1 | refine below_set ?_ GE596.out) | exact HB.out)) hb); clear BK596; clear HB; have BK596 := n0_; have HB := n1_; clear n0_ n1_; (try clear hb); (try clear hb2); (try clear hk); (try clear hi)))
        (try simp only [Act.put, List.setIfInBounds_toArray, List.set_cons_zero, List.set_cons_succ])
        go_cut [72] (fun v72 wc => ∃ (kq : Nat) (x72_23 : Bool), v72 = .bool x72_23 ∧ Aside0 (weirkeeperlaw13_FlatCuts.j1 kq a4 t603 t605 t606 t607 t608 t609 t610 x72_23 = some true) ∧ Aside0 (kq ≤ kj5) ∧ Aside0 (wc.heap[gb596]? = some (.cells #[.string a3_0, .string a3_1, .bool a3_2] 26 (0, 0))) ∧ Aside0 (Below w.heap.size w wc))
        case first =>
          have H := HC24.out
          clear HC24
          by_cases c30 : t604 = 0
          · rw [if_pos c30] at H
            have c30b0 : (t604 == 0) = true := beq_iff_eq.mpr c30
            have c30b1 : (t604 != 0) = false := bne_eq_false_iff_eq.mpr c30
            clear c30
            (first | rw [c30b0] | (simp only [i64_w, i32_w]; rw [c30b0]) | skip)
            have H' := Aside0.mk H
            clear H
            go_wp2
            go_meet
            case rel => exact ⟨_, (decide ((t603.size : Int) > 0)), (by first | rfl | (simp; done) | (simp [*]; done)), H', ⟨by have := HJ5.out; first | omega | exact Nat.le_refl _⟩, ⟨by (with_reducible repeat (first | refine blk_drewN ?_ _ | refine blk_drew ?_ | refine blk_alloc ?_ _)); exact BK596.out⟩, ⟨by repeat (first | (with_reducible first | exact HB.out | apply below_alloc | apply pw_below_drewN | apply below_drew1 | refine below_set ?_ GE596.out) | exact HB.out)⟩⟩
          · rw [if_neg c30] at H
            have c30b0 : (t604 == 0) = false := beq_eq_false_iff_ne.mpr c30
            have c30b1 : (t604 != 0) = true := bne_iff_ne.mpr c30
            (first | rw [c30b0] | (simp only [i64_w, i32_w]; rw [c30b0]) | skip)
            have H' := Aside0.mk H
            clear H
            go_wp2
            go_meet
            case rel => exact ⟨_, (false), (by first | rfl | (simp; done) | (simp [*]; done)), H', ⟨by have := HJ5.out; first | omega | exact Nat.le_refl _⟩, ⟨by (with_reducible repeat (first | refine blk_drewN ?_ _ | refine blk_drew ?_ | refine blk_alloc ?_ _)); exact BK596.out⟩, ⟨by repeat (first | (with_reducible first | exact HB.out | apply below_alloc | apply pw_below_drewN | apply below_drew1 | refine below_set ?_ GE596.out) | exact HB.out)⟩⟩
        case rest =>
          clear HC24
          try clear c1
          try clear c2
          try clear p2
          try clear c3
          try clear c8
          try clear c9
          try clear c13
          try clear c15
          try clear c16
          try clear c17
          try clear c18
          try clear c19
          try clear c30
          try clear c30b0
          try clear c30b1
          try clear hcz12_0
          try clear hcz12_1
          try clear hcz12_2
          try clear hcz28_0
          try clear hcz28_1
          try clear hcz28_2
          try clear hfz12_0
          try clear hfz12_1
          try clear hfz12_2
          try clear hfz28_0
          try clear hfz28_1
          try clear hfz28_2
          try clear p2
          obtain ⟨kq, x72_23, rfl, HA, HJ23, BK596, HB⟩ := hcut
          cases kq with
          | zero => exact absurd HA.out (by simp [weirkeeperlaw13_FlatCuts.j1])
          | succ kj23 =>
            have H := HA.out
            clear HA
            simp only [weirkeeperlaw13_FlatCuts.j1] at H
            have HC31 := Aside0.mk H
            clear H
            go_upto_if 72 with (fail)
            go_cut [] (fun wc => ∃ (kq : Nat), Aside0 (weirkeeperlaw13_FlatCuts.j2 kq a4 t605 t606 t607 t608 t609 t610 = some true) ∧ Aside0 (kq ≤ kj23) ∧ Aside0 (wc.heap[gb596]? = some (.cells #[.string a3_0, .string a3_1, .bool a3_2] 26 (0, 0))) ∧ Aside0 (Below w.heap.size w wc))
            case first =>
              have H := HC31.out
              clear HC31
              by_cases c32 : x72_23 = true
              · subst c32
                have H1 : (if (t603.size : Int) = 0 then (none) else (if 0 ≤ (Int.tmod (wrap64 (a4)) (t603.size : Int)) then (if (Int.tmod (wrap64 (a4)) (t603.size : Int)) ≤ (t603.size : Int) then ((flat_TakeNotes.f kj23 (t603.extract 0 ((Int.tmod (wrap64 (a4)) (t603.size : Int)) : Int).toNat)).bind fun bt611 => (if bt611.2.2 = 2 then (if bt611.2.1.toList = ([] : List UInt8) then (weirkeeperlaw13_FlatCuts.j2 kj23 a4 t605 t606 t607 t608 t609 t610) else (some false)) else (some false))) else (none)) else (none))) = some true := by rw [if_pos rfl] at H; exact H
                clear H
                have H := H1
                clear H1
                by_cases c33 : (t603.size : Int) = 0
                · rw [if_pos c33] at H
                  exact absurd H (by simp)
                · rw [if_neg c33] at H
                  have c33b0 : ((t603.size : Int) == 0) = false := beq_eq_false_iff_ne.mpr c33
                  have c33b1 : ((t603.size : Int) != 0) = true := bne_iff_ne.mpr c33
                  (first | rw [c33b0] | (simp only [i64_w, i32_w]; rw [c33b0]) | skip)
                  obtain ⟨ji34, hji34⟩ : ∃ j_ : Int, (Int.tmod (wrap64 (a4)) (t603.size : Int)) = j_ := ⟨_, rfl⟩
                  replace H : (if 0 ≤ (ji34) then (if (ji34) ≤ (t603.size : Int) then ((flat_TakeNotes.f kj23 (t603.extract 0 ((ji34) : Int).toNat)).bind fun bt611 => (if bt611.2.2 = 2 then (if bt611.2.1.toList = ([] : List UInt8) then (weirkeeperlaw13_FlatCuts.j2 kj23 a4 t605 t606 t607 t608 t609 t610) else (some false)) else (some false))) else (none)) else (none)) = some true := by first | (rw [hji34] at H; exact H) | (simp only [hji34] at H ⊢; exact H)
                  by_cases c35 : 0 ≤ (ji34)
                  · rw [if_pos c35] at H
                    have c35b0 := eq_true c35
                    have c35b1 : decide (0 ≤ (ji34)) = true := decide_eq_true c35
                    clear c35
                    by_cases c36 : (ji34) ≤ (t603.size : Int)
                    · rw [if_pos c36] at H
                      have c36b0 := eq_true c36
                      have c36b1 : decide ((ji34) ≤ (t603.size : Int)) = true := decide_eq_true c36
                      clear c36
                      replace H := Option.bind_eq_some_iff.mp H
                      obtain ⟨⟨t611, t612, t613⟩, A370, H⟩ := H
                      replace H : (if t613 = 2 then (if t612.toList = ([] : List UInt8) then (weirkeeperlaw13_FlatCuts.j2 kj23 a4 t605 t606 t607 t608 t609 t610) else (some false)) else (some false)) = some true := H
                      have A37 := Aside0.mk A370
                      clear A370
                      by_cases c38 : t613 = 2
                      · rw [if_pos c38] at H
                        have c38b0 : (t613 == 2) = true := beq_iff_eq.mpr c38
                        have c38b1 : (t613 != 2) = false := bne_eq_false_iff_eq.mpr c38
                        clear c38
                        by_cases c39 : t612.toList = ([] : List UInt8)
                        · rw [if_pos c39] at H
                          have c39b0 : (t612.toList == ([] : List UInt8)) = true := beq_iff_eq.mpr c39
                          have c39b1 : (t612.toList != ([] : List UInt8)) = false := bne_eq_false_iff_eq.mpr c39
                          clear c39
                          have H' := Aside0.mk H
                          clear H
                          go_wp2_with (first | ((with_reducible refine gate_callee (f := 27) rfl ?_); refine goesL_ (some 81) rfl rfl Try.func27 (by kernel_rfl) rfl #[.string (t603.extract 0 ((ji34) : Int).toNat)] rfl (by (try simp only [List.map_toArray, List.map_cons, List.map_nil]); first | done | (simp only [hji34]; rfl) | rfl | (simp only [List.length_drop, List.length_take]; rfl)) ?_; (with_reducible refine (flat_TakeNotes.calls kj23 (t603.extract 0 ((ji34) : Int).toNat) t611 t612 t613 _ A37.out).mono ?_); rintro e w40 ⟨v614, rfl, ho0, hb⟩; refine ⟨_, rfl, ?_⟩; have n0_ := Aside0.mk (Kd.R_lower ho0 (below_size (by repeat (first | (with_reducible first | exact HB.out | apply below_alloc | apply pw_below_drewN | apply below_drew1 | refine below_set ?_ GE596.out) | exact HB.out)))); have n1_ := Aside0.mk (blk_below (g := gb596) (o := .cells #[.string a3_0, .string a3_1, .bool a3_2] 26 (0, 0)) (by (with_reducible repeat (first | refine blk_drewN ?_ _ | refine blk_drew ?_ | refine blk_alloc ?_ _)); exact BK596.out) hb); have n2_ := Aside0.mk (below_step (by repeat (first | (with_reducible first | exact HB.out | apply below_alloc | apply pw_below_drewN | apply below_drew1 | refine below_set ?_ GE596.out) | exact HB.out)) hb); clear BK596; clear HB; have HO615 := n0_; have BK596 := n1_; have HB := n2_; clear n0_ n1_ n2_; (try clear hb); (try clear hb2); (try clear hk); (try clear hi); (try clear ho0)))
                          go_meet
                          case rel => exact ⟨_, H', ⟨by have := HJ5.out; have := HJ23.out; first | omega | exact Nat.le_refl _⟩, ⟨by (with_reducible repeat (first | refine blk_drewN ?_ _ | refine blk_drew ?_ | refine blk_alloc ?_ _)); exact BK596.out⟩, ⟨by repeat (first | (with_reducible first | exact HB.out | apply below_alloc | apply pw_below_drewN | apply below_drew1 | refine below_set ?_ GE596.out) | exact HB.out)⟩⟩
                        · rw [if_neg c39] at H
                          have c39b0 : (t612.toList == ([] : List UInt8)) = false := beq_eq_false_iff_ne.mpr c39
                          have c39b1 : (t612.toList != ([] : List UInt8)) = true := bne_iff_ne.mpr c39
                          exact absurd H (by simp)
                      · rw [if_neg c38] at H
                        have c38b0 : (t613 == 2) = false := beq_eq_false_iff_ne.mpr c38
                        have c38b1 : (t613 != 2) = true := bne_iff_ne.mpr c38
                        exact absurd H (by simp)
                    · rw [if_neg c36] at H
                      exact absurd H (by simp)
                  · rw [if_neg c35] at H
                    exact absurd H (by simp)
              · replace c32 := Bool.eq_false_iff.mpr c32
                subst c32
                have H1 : (weirkeeperlaw13_FlatCuts.j2 kj23 a4 t605 t606 t607 t608 t609 t610) = some true := by rw [if_neg (show ¬ (false = true) by decide)] at H; exact H
                clear H
                have H := H1
                clear H1
                have H' := Aside0.mk H
                clear H
                go_wp2
                go_meet
                case rel => exact ⟨_, H', ⟨by have := HJ5.out; have := HJ23.out; first | omega | exact Nat.le_refl _⟩, ⟨by (with_reducible repeat (first | refine blk_drewN ?_ _ | refine blk_drew ?_ | refine blk_alloc ?_ _)); exact BK596.out⟩, ⟨by repeat (first | (with_reducible first | exact HB.out | apply below_alloc | apply pw_below_drewN | apply below_drew1 | refine below_set ?_ GE596.out) | exact HB.out)⟩⟩
            case rest =>
              clear HC31
              try clear c1
              try clear c2
              try clear p2
              try clear c3
              try clear p6
              try clear c8
              try clear c9
              try clear c13
              try clear c15
              try clear c16
              try clear c17
              try clear c18
              try clear c19
              try clear c27
              try clear c30
              try clear c30b0
              try clear c30b1
              try clear c32
              try clear c33
              try clear c33b0
              try clear c33b1
              try clear c35
              try clear c35b0
              try clear c35b1
              try clear c36
              try clear c36b0
              try clear c36b1
              try clear c38
              try clear c38b0
              try clear c38b1
              try clear c39
              try clear c39b0
              try clear c39b1
              try clear hcz12_0
              try clear hcz12_1
              try clear hcz12_2
              try clear hcz28_0
              try clear hcz28_1
              try clear hcz28_2
              try clear hfz12_0
              try clear hfz12_1
              try clear hfz12_2
              try clear hfz28_0
              try clear hfz28_1
              try clear hfz28_2
              try clear p2
              obtain ⟨kq, HA, HJ30, BK596, HB⟩ := hcut
              cases kq with
              | zero => exact absurd HA.out (by simp [weirkeeperlaw13_FlatCuts.j2])
              | succ kj30 =>
                have H := HA.out
                clear HA
                simp only [weirkeeperlaw13_FlatCuts.j2] at H
                have HC41 := Aside0.mk H
                clear H
                go_upto_region 11 with (fail)
                go_cut [97] (fun v97 wc => ∃ (kq : Nat) (x97_40 : Bool), v97 = .bool x97_40 ∧ Aside0 (weirkeeperlaw13_FlatCuts.j3 kq a4 t605 t607 t608 t609 t610 x97_40 = some true) ∧ Aside0 (kq ≤ kj30) ∧ Aside0 (wc.heap[gb596]? = some (.cells #[.string a3_0, .string a3_1, .bool a3_2] 26 (0, 0))) ∧ Aside0 (Below w.heap.size w wc))
                case first =>
                  have H := HC41.out
                  clear HC41
                  by_cases c42 : t606 = 0
                  · rw [if_pos c42] at H
                    have c42b0 : (t606 == 0) = true := beq_iff_eq.mpr c42
                    have c42b1 : (t606 != 0) = false := bne_eq_false_iff_eq.mpr c42
                    clear c42
                    (first | rw [c42b0] | (simp only [i64_w, i32_w]; rw [c42b0]) | skip)
                    have H' := Aside0.mk H
                    clear H
                    go_wp2
                    go_meet
                    case rel => exact ⟨_, (decide ((t605.size : Int) > 0)), (by first | rfl | (simp; done) | (simp [*]; done)), H', ⟨by have := HJ5.out; have := HJ23.out; have := HJ30.out; first | omega | exact Nat.le_refl _⟩, ⟨by (with_reducible repeat (first | refine blk_drewN ?_ _ | refine blk_drew ?_ | refine blk_alloc ?_ _)); exact BK596.out⟩, ⟨by repeat (first | (with_reducible first | exact HB.out | apply below_alloc | apply pw_below_drewN | apply below_drew1 | refine below_set ?_ GE596.out) | exact HB.out)⟩⟩
                  · rw [if_neg c42] at H
                    have c42b0 : (t606 == 0) = false := beq_eq_false_iff_ne.mpr c42
                    have c42b1 : (t606 != 0) = true := bne_iff_ne.mpr c42
                    (first | rw [c42b0] | (simp only [i64_w, i32_w]; rw [c42b0]) | skip)
                    have H' := Aside0.mk H
                    clear H
                    go_wp2
                    go_meet
                    case rel => exact ⟨_, (false), (by first | rfl | (simp; done) | (simp [*]; done)), H', ⟨by have := HJ5.out; have := HJ23.out; have := HJ30.out; first | omega | exact Nat.le_refl _⟩, ⟨by (with_reducible repeat (first | refine blk_drewN ?_ _ | refine blk_drew ?_ | refine blk_alloc ?_ _)); exact BK596.out⟩, ⟨by repeat (first | (with_reducible first | exact HB.out | apply below_alloc | apply pw_below_drewN | apply below_drew1 | refine below_set ?_ GE596.out) | exact HB.out)⟩⟩
                case rest =>
                  clear HC41
                  try clear c1
                  try clear c2
                  try clear p2
                  try clear c3
                  try clear c4
                  try clear p6
                  try clear c8
                  try clear c9
                  try clear c13
                  try clear c15
                  try clear c16
                  try clear c17
                  try clear c18
                  try clear c19
                  try clear c27
                  try clear c30
                  try clear c30b0
                  try clear c30b1
                  try clear c32
                  try clear c33
                  try clear c33b0
                  try clear c33b1
                  try clear c35
                  try clear c35b0
                  try clear c35b1
                  try clear c36
                  try clear c36b0
                  try clear c36b1
                  try clear c38
                  try clear c38b0
                  try clear c38b1
                  try clear c39
                  try clear c39b0
                  try clear c39b1
                  try clear c42
                  try clear c42b0
                  try clear c42b1
                  try clear hcz12_0
                  try clear hcz12_1
                  try clear hcz12_2
                  try clear hcz28_0
                  try clear hcz28_1
                  try clear hcz28_2
                  try clear hfz12_0
                  try clear hfz12_1
                  try clear hfz12_2
                  try clear hfz28_0
                  try clear hfz28_1
                  try clear hfz28_2
                  try clear p2
                  try clear p6
                  obtain ⟨kq, x97_40, rfl, HA, HJ40, BK596, HB⟩ := hcut
                  cases kq with
                  | zero => exact absurd HA.out (by simp [weirkeeperlaw13_FlatCuts.j3])
                  | succ kj40 =>
                    have H := HA.out
                    clear HA
                    simp only [weirkeeperlaw13_FlatCuts.j3] at H
                    have HC43 := Aside0.mk H
                    clear H
                    go_upto_if 97 with (fail)
                    go_cut [] (fun wc => ∃ (kq : Nat), Aside0 (weirkeeperlaw13_FlatCuts.j4 kq a4 t607 t608 t609 t610 = some true) ∧ Aside0 (kq ≤ kj40) ∧ Aside0 (wc.heap[gb596]? = some (.cells #[.string a3_0, .string a3_1, .bool a3_2] 26 (0, 0))) ∧ Aside0 (Below w.heap.size w wc))
                    case first =>
                      have H := HC43.out
                      clear HC43
                      by_cases c44 : x97_40 = true
                      · subst c44
                        have H1 : (if (t605.size : Int) = 0 then (none) else (if 0 ≤ (Int.tmod (wrap64 (a4)) (t605.size : Int)) then (if (Int.tmod (wrap64 (a4)) (t605.size : Int)) ≤ (t605.size : Int) then ((flat_TakePairs.f kj40 (t605.extract 0 ((Int.tmod (wrap64 (a4)) (t605.size : Int)) : Int).toNat)).bind fun bt616 => (if bt616.2.2 = 2 then (if bt616.2.1.toList = ([] : List UInt8) then (weirkeeperlaw13_FlatCuts.j4 kj40 a4 t607 t608 t609 t610) else (some false)) else (some false))) else (none)) else (none))) = some true := by rw [if_pos rfl] at H; exact H
                        clear H
                        have H := H1
                        clear H1
                        by_cases c45 : (t605.size : Int) = 0
                        · rw [if_pos c45] at H
                          exact absurd H (by simp)
                        · rw [if_neg c45] at H
                          have c45b0 : ((t605.size : Int) == 0) = false := beq_eq_false_iff_ne.mpr c45
                          have c45b1 : ((t605.size : Int) != 0) = true := bne_iff_ne.mpr c45
                          (first | rw [c45b0] | (simp only [i64_w, i32_w]; rw [c45b0]) | skip)
                          obtain ⟨ji46, hji46⟩ : ∃ j_ : Int, (Int.tmod (wrap64 (a4)) (t605.size : Int)) = j_ := ⟨_, rfl⟩
                          replace H : (if 0 ≤ (ji46) then (if (ji46) ≤ (t605.size : Int) then ((flat_TakePairs.f kj40 (t605.extract 0 ((ji46) : Int).toNat)).bind fun bt616 => (if bt616.2.2 = 2 then (if bt616.2.1.toList = ([] : List UInt8) then (weirkeeperlaw13_FlatCuts.j4 kj40 a4 t607 t608 t609 t610) else (some false)) else (some false))) else (none)) else (none)) = some true := by first | (rw [hji46] at H; exact H) | (simp only [hji46] at H ⊢; exact H)
                          by_cases c47 : 0 ≤ (ji46)
                          · rw [if_pos c47] at H
                            have c47b0 := eq_true c47
                            have c47b1 : decide (0 ≤ (ji46)) = true := decide_eq_true c47
                            clear c47
                            by_cases c48 : (ji46) ≤ (t605.size : Int)
                            · rw [if_pos c48] at H
                              have c48b0 := eq_true c48
                              have c48b1 : decide ((ji46) ≤ (t605.size : Int)) = true := decide_eq_true c48
                              clear c48
                              replace H := Option.bind_eq_some_iff.mp H
                              obtain ⟨⟨t616, t617, t618⟩, A490, H⟩ := H
                              replace H : (if t618 = 2 then (if t617.toList = ([] : List UInt8) then (weirkeeperlaw13_FlatCuts.j4 kj40 a4 t607 t608 t609 t610) else (some false)) else (some false)) = some true := H
                              have A49 := Aside0.mk A490
                              clear A490
                              by_cases c50 : t618 = 2
                              · rw [if_pos c50] at H
                                have c50b0 : (t618 == 2) = true := beq_iff_eq.mpr c50
                                have c50b1 : (t618 != 2) = false := bne_eq_false_iff_eq.mpr c50
                                clear c50
                                by_cases c51 : t617.toList = ([] : List UInt8)
                                · rw [if_pos c51] at H
                                  have c51b0 : (t617.toList == ([] : List UInt8)) = true := beq_iff_eq.mpr c51
                                  have c51b1 : (t617.toList != ([] : List UInt8)) = false := bne_eq_false_iff_eq.mpr c51
                                  clear c51
                                  have H' := Aside0.mk H
                                  clear H
                                  go_wp2_with (first | ((with_reducible refine gate_callee (f := 28) rfl ?_); refine goesL_ (some 106) rfl rfl Try.func28 (by kernel_rfl) rfl #[.string (t605.extract 0 ((ji46) : Int).toNat)] rfl (by (try simp only [List.map_toArray, List.map_cons, List.map_nil]); first | done | (simp only [hji46]; rfl) | rfl | (simp only [List.length_drop, List.length_take]; rfl)) ?_; (with_reducible refine (flat_TakePairs.calls kj40 (t605.extract 0 ((ji46) : Int).toNat) t616 t617 t618 _ A49.out).mono ?_); rintro e w52 ⟨v619, rfl, ho0, hb⟩; refine ⟨_, rfl, ?_⟩; have n0_ := Aside0.mk (Kd.R_lower ho0 (below_size (by repeat (first | (with_reducible first | exact HB.out | apply below_alloc | apply pw_below_drewN | apply below_drew1 | refine below_set ?_ GE596.out) | exact HB.out)))); have n1_ := Aside0.mk (blk_below (g := gb596) (o := .cells #[.string a3_0, .string a3_1, .bool a3_2] 26 (0, 0)) (by (with_reducible repeat (first | refine blk_drewN ?_ _ | refine blk_drew ?_ | refine blk_alloc ?_ _)); exact BK596.out) hb); have n2_ := Aside0.mk (below_step (by repeat (first | (with_reducible first | exact HB.out | apply below_alloc | apply pw_below_drewN | apply below_drew1 | refine below_set ?_ GE596.out) | exact HB.out)) hb); clear BK596; clear HB; have HO620 := n0_; have BK596 := n1_; have HB := n2_; clear n0_ n1_ n2_; (try clear hb); (try clear hb2); (try clear hk); (try clear hi); (try clear ho0)))
                                  go_meet
                                  case rel => exact ⟨_, H', ⟨by have := HJ5.out; have := HJ23.out; have := HJ30.out; have := HJ40.out; first | omega | exact Nat.le_refl _⟩, ⟨by (with_reducible repeat (first | refine blk_drewN ?_ _ | refine blk_drew ?_ | refine blk_alloc ?_ _)); exact BK596.out⟩, ⟨by repeat (first | (with_reducible first | exact HB.out | apply below_alloc | apply pw_below_drewN | apply below_drew1 | refine below_set ?_ GE596.out) | exact HB.out)⟩⟩
                                · rw [if_neg c51] at H
                                  have c51b0 : (t617.toList == ([] : List UInt8)) = false := beq_eq_false_iff_ne.mpr c51
                                  have c51b1 : (t617.toList != ([] : List UInt8)) = true := bne_iff_ne.mpr c51
                                  exact absurd H (by simp)
                              · rw [if_neg c50] at H
                                have c50b0 : (t618 == 2) = false := beq_eq_false_iff_ne.mpr c50
                                have c50b1 : (t618 != 2) = true := bne_iff_ne.mpr c50
                                exact absurd H (by simp)
                            · rw [if_neg c48] at H
                              exact absurd H (by simp)
                          · rw [if_neg c47] at H
                            exact absurd H (by simp)
                      · replace c44 := Bool.eq_false_iff.mpr c44
                        subst c44
                        have H1 : (weirkeeperlaw13_FlatCuts.j4 kj40 a4 t607 t608 t609 t610) = some true := by rw [if_neg (show ¬ (false = true) by decide)] at H; exact H
                        clear H
                        have H := H1
                        clear H1
                        have H' := Aside0.mk H
                        clear H
                        go_wp2
                        go_meet
                        case rel => exact ⟨_, H', ⟨by have := HJ5.out; have := HJ23.out; have := HJ30.out; have := HJ40.out; first | omega | exact Nat.le_refl _⟩, ⟨by (with_reducible repeat (first | refine blk_drewN ?_ _ | refine blk_drew ?_ | refine blk_alloc ?_ _)); exact BK596.out⟩, ⟨by repeat (first | (with_reducible first | exact HB.out | apply below_alloc | apply pw_below_drewN | apply below_drew1 | refine below_set ?_ GE596.out) | exact HB.out)⟩⟩
                    case rest =>
                      clear HC43
                      try clear c1
                      try clear c2
                      try clear p2
                      try clear c3
                      try clear c4
                      try clear c5
                      try clear p6
                      try clear c8
                      try clear c9
                      try clear c13
                      try clear c15
                      try clear c16
                      try clear c17
                      try clear c18
                      try clear c19
                      try clear c27
                      try clear c28
                      try clear c30
                      try clear c30b0
                      try clear c30b1
                      try clear c32
                      try clear c33
                      try clear c33b0
                      try clear c33b1
                      try clear c35
                      try clear c35b0
                      try clear c35b1
                      try clear c36
                      try clear c36b0
                      try clear c36b1
                      try clear c38
                      try clear c38b0
                      try clear c38b1
                      try clear c39
                      try clear c39b0
                      try clear c39b1
                      try clear c42
                      try clear c42b0
                      try clear c42b1
                      try clear c44
                      try clear c45
                      try clear c45b0
                      try clear c45b1
                      try clear c47
                      try clear c47b0
                      try clear c47b1
                      try clear c48
                      try clear c48b0
                      try clear c48b1
                      try clear c50
                      try clear c50b0
                      try clear c50b1
                      try clear c51
                      try clear c51b0
                      try clear c51b1
                      try clear hcz12_0
                      try clear hcz12_1
                      try clear hcz12_2
                      try clear hcz28_0
                      try clear hcz28_1
                      try clear hcz28_2
                      try clear hfz12_0
                      try clear hfz12_1
                      try clear hfz12_2
                      try clear hfz28_0
                      try clear hfz28_1
                      try clear hfz28_2
                      try clear p2
                      try clear p6
                      obtain ⟨kq, HA, HJ42, BK596, HB⟩ := hcut
                      cases kq with
                      | zero => exact absurd HA.out (by simp [weirkeeperlaw13_FlatCuts.j4])
                      | succ kj42 =>
                        have H := HA.out
                        clear HA
                        simp only [weirkeeperlaw13_FlatCuts.j4] at H
                        have HC53 := Aside0.mk H
                        clear H
                        go_upto_region 15 with (fail)
                        go_cut [122] (fun v122 wc => ∃ (kq : Nat) (x122_52 : Bool), v122 = .bool x122_52 ∧ Aside0 (weirkeeperlaw13_FlatCuts.j5 kq a4 t607 t609 t610 x122_52 = some true) ∧ Aside0 (kq ≤ kj42) ∧ Aside0 (wc.heap[gb596]? = some (.cells #[.string a3_0, .string a3_1, .bool a3_2] 26 (0, 0))) ∧ Aside0 (Below w.heap.size w wc))
                        case first =>
                          have H := HC53.out
                          clear HC53
                          by_cases c54 : t608 = 0
                          · rw [if_pos c54] at H
                            have c54b0 : (t608 == 0) = true := beq_iff_eq.mpr c54
                            have c54b1 : (t608 != 0) = false := bne_eq_false_iff_eq.mpr c54
                            clear c54
                            (first | rw [c54b0] | (simp only [i64_w, i32_w]; rw [c54b0]) | skip)
                            have H' := Aside0.mk H
                            clear H
                            go_wp2
                            go_meet
                            case rel => exact ⟨_, (decide ((t607.size : Int) > 0)), (by first | rfl | (simp; done) | (simp [*]; done)), H', ⟨by have := HJ5.out; have := HJ23.out; have := HJ30.out; have := HJ40.out; have := HJ42.out; first | omega | exact Nat.le_refl _⟩, ⟨by (with_reducible repeat (first | refine blk_drewN ?_ _ | refine blk_drew ?_ | refine blk_alloc ?_ _)); exact BK596.out⟩, ⟨by repeat (first | (with_reducible first | exact HB.out | apply below_alloc | apply pw_below_drewN | apply below_drew1 | refine below_set ?_ GE596.out) | exact HB.out)⟩⟩
                          · rw [if_neg c54] at H
                            have c54b0 : (t608 == 0) = false := beq_eq_false_iff_ne.mpr c54
                            have c54b1 : (t608 != 0) = true := bne_iff_ne.mpr c54
                            (first | rw [c54b0] | (simp only [i64_w, i32_w]; rw [c54b0]) | skip)
                            have H' := Aside0.mk H
                            clear H
                            go_wp2
                            go_meet
                            case rel => exact ⟨_, (false), (by first | rfl | (simp; done) | (simp [*]; done)), H', ⟨by have := HJ5.out; have := HJ23.out; have := HJ30.out; have := HJ40.out; have := HJ42.out; first | omega | exact Nat.le_refl _⟩, ⟨by (with_reducible repeat (first | refine blk_drewN ?_ _ | refine blk_drew ?_ | refine blk_alloc ?_ _)); exact BK596.out⟩, ⟨by repeat (first | (with_reducible first | exact HB.out | apply below_alloc | apply pw_below_drewN | apply below_drew1 | refine below_set ?_ GE596.out) | exact HB.out)⟩⟩
                        case rest =>
                          clear HC53
                          try clear c1
                          try clear c2
                          try clear p2
                          try clear c3
                          try clear c4
                          try clear c5
                          try clear p6
                          try clear c8
                          try clear c9
                          try clear c13
                          try clear c15
                          try clear c16
                          try clear c17
                          try clear c18
                          try clear c19
                          try clear c27
                          try clear c28
                          try clear c30
                          try clear c30b0
                          try clear c30b1
                          try clear c32
                          try clear c33
                          try clear c33b0
                          try clear c33b1
                          try clear c35
                          try clear c35b0
                          try clear c35b1
                          try clear c36
                          try clear c36b0
                          try clear c36b1
                          try clear c38
                          try clear c38b0
                          try clear c38b1
                          try clear c39
                          try clear c39b0
                          try clear c39b1
                          try clear c42
                          try clear c42b0
                          try clear c42b1
                          try clear c44
                          try clear c45
                          try clear c45b0
                          try clear c45b1
                          try clear c47
                          try clear c47b0
                          try clear c47b1
                          try clear c48
                          try clear c48b0
                          try clear c48b1
                          try clear c50
                          try clear c50b0
                          try clear c50b1
                          try clear c51
                          try clear c51b0
                          try clear c51b1
                          try clear c54
                          try clear c54b0
                          try clear c54b1
                          try clear hcz12_0
                          try clear hcz12_1
                          try clear hcz12_2
                          try clear hcz28_0
                          try clear hcz28_1
                          try clear hcz28_2
                          try clear hfz12_0
                          try clear hfz12_1
                          try clear hfz12_2
                          try clear hfz28_0
                          try clear hfz28_1
                          try clear hfz28_2
                          try clear p2
                          try clear p6
                          obtain ⟨kq, x122_52, rfl, HA, HJ52, BK596, HB⟩ := hcut
                          cases kq with
                          | zero => exact absurd HA.out (by simp [weirkeeperlaw13_FlatCuts.j5])
                          | succ kj52 =>
                            have H := HA.out
                            clear HA
                            simp only [weirkeeperlaw13_FlatCuts.j5] at H
                            have HC55 := Aside0.mk H
                            clear H
                            go_upto_if 122 with (fail)
                            go_cut [] (fun wc => ∃ (kq : Nat), Aside0 (weirkeeperlaw13_FlatCuts.j6 kq a4 t609 t610 = some true) ∧ Aside0 (kq ≤ kj52) ∧ Aside0 (wc.heap[gb596]? = some (.cells #[.string a3_0, .string a3_1, .bool a3_2] 26 (0, 0))) ∧ Aside0 (Below w.heap.size w wc))
                            case first =>
                              have H := HC55.out
                              clear HC55
                              by_cases c56 : x122_52 = true
                              · subst c56
                                have H1 : (if (t607.size : Int) = 0 then (none) else (if 0 ≤ (Int.tmod (wrap64 (a4)) (t607.size : Int)) then (if (Int.tmod (wrap64 (a4)) (t607.size : Int)) ≤ (t607.size : Int) then ((flat_TakeChanges.f kj52 (t607.extract 0 ((Int.tmod (wrap64 (a4)) (t607.size : Int)) : Int).toNat)).bind fun bt621 => (if bt621.2.2 = 2 then (if bt621.2.1.toList = ([] : List UInt8) then (weirkeeperlaw13_FlatCuts.j6 kj52 a4 t609 t610) else (some false)) else (some false))) else (none)) else (none))) = some true := by rw [if_pos rfl] at H; exact H
                                clear H
                                have H := H1
                                clear H1
                                by_cases c57 : (t607.size : Int) = 0
                                · rw [if_pos c57] at H
                                  exact absurd H (by simp)
                                · rw [if_neg c57] at H
                                  have c57b0 : ((t607.size : Int) == 0) = false := beq_eq_false_iff_ne.mpr c57
                                  have c57b1 : ((t607.size : Int) != 0) = true := bne_iff_ne.mpr c57
                                  (first | rw [c57b0] | (simp only [i64_w, i32_w]; rw [c57b0]) | skip)
                                  obtain ⟨ji58, hji58⟩ : ∃ j_ : Int, (Int.tmod (wrap64 (a4)) (t607.size : Int)) = j_ := ⟨_, rfl⟩
                                  replace H : (if 0 ≤ (ji58) then (if (ji58) ≤ (t607.size : Int) then ((flat_TakeChanges.f kj52 (t607.extract 0 ((ji58) : Int).toNat)).bind fun bt621 => (if bt621.2.2 = 2 then (if bt621.2.1.toList = ([] : List UInt8) then (weirkeeperlaw13_FlatCuts.j6 kj52 a4 t609 t610) else (some false)) else (some false))) else (none)) else (none)) = some true := by first | (rw [hji58] at H; exact H) | (simp only [hji58] at H ⊢; exact H)
                                  by_cases c59 : 0 ≤ (ji58)
                                  · rw [if_pos c59] at H
                                    have c59b0 := eq_true c59
                                    have c59b1 : decide (0 ≤ (ji58)) = true := decide_eq_true c59
                                    clear c59
                                    by_cases c60 : (ji58) ≤ (t607.size : Int)
                                    · rw [if_pos c60] at H
                                      have c60b0 := eq_true c60
                                      have c60b1 : decide ((ji58) ≤ (t607.size : Int)) = true := decide_eq_true c60
                                      clear c60
                                      replace H := Option.bind_eq_some_iff.mp H
                                      obtain ⟨⟨t621, t622, t623⟩, A610, H⟩ := H
                                      replace H : (if t623 = 2 then (if t622.toList = ([] : List UInt8) then (weirkeeperlaw13_FlatCuts.j6 kj52 a4 t609 t610) else (some false)) else (some false)) = some true := H
                                      have A61 := Aside0.mk A610
                                      clear A610
                                      by_cases c62 : t623 = 2
                                      · rw [if_pos c62] at H
                                        have c62b0 : (t623 == 2) = true := beq_iff_eq.mpr c62
                                        have c62b1 : (t623 != 2) = false := bne_eq_false_iff_eq.mpr c62
                                        clear c62
                                        by_cases c63 : t622.toList = ([] : List UInt8)
                                        · rw [if_pos c63] at H
                                          have c63b0 : (t622.toList == ([] : List UInt8)) = true := beq_iff_eq.mpr c63
                                          have c63b1 : (t622.toList != ([] : List UInt8)) = false := bne_eq_false_iff_eq.mpr c63
                                          clear c63
                                          have H' := Aside0.mk H
                                          clear H
                                          go_wp2_with (first | ((with_reducible refine gate_callee (f := 29) rfl ?_); refine goesL_ (some 131) rfl rfl Try.func29 (by kernel_rfl) rfl #[.string (t607.extract 0 ((ji58) : Int).toNat)] rfl (by (try simp only [List.map_toArray, List.map_cons, List.map_nil]); first | done | (simp only [hji58]; rfl) | rfl | (simp only [List.length_drop, List.length_take]; rfl)) ?_; (with_reducible refine (flat_TakeChanges.calls kj52 (t607.extract 0 ((ji58) : Int).toNat) t621 t622 t623 _ A61.out).mono ?_); rintro e w64 ⟨v624, rfl, ho0, hb⟩; refine ⟨_, rfl, ?_⟩; have n0_ := Aside0.mk (Kd.R_lower ho0 (below_size (by repeat (first | (with_reducible first | exact HB.out | apply below_alloc | apply pw_below_drewN | apply below_drew1 | refine below_set ?_ GE596.out) | exact HB.out)))); have n1_ := Aside0.mk (blk_below (g := gb596) (o := .cells #[.string a3_0, .string a3_1, .bool a3_2] 26 (0, 0)) (by (with_reducible repeat (first | refine blk_drewN ?_ _ | refine blk_drew ?_ | refine blk_alloc ?_ _)); exact BK596.out) hb); have n2_ := Aside0.mk (below_step (by repeat (first | (with_reducible first | exact HB.out | apply below_alloc | apply pw_below_drewN | apply below_drew1 | refine below_set ?_ GE596.out) | exact HB.out)) hb); clear BK596; clear HB; have HO625 := n0_; have BK596 := n1_; have HB := n2_; clear n0_ n1_ n2_; (try clear hb); (try clear hb2); (try clear hk); (try clear hi); (try clear ho0)))
                                          go_meet
                                          case rel => exact ⟨_, H', ⟨by have := HJ5.out; have := HJ23.out; have := HJ30.out; have := HJ40.out; have := HJ42.out; have := HJ52.out; first | omega | exact Nat.le_refl _⟩, ⟨by (with_reducible repeat (first | refine blk_drewN ?_ _ | refine blk_drew ?_ | refine blk_alloc ?_ _)); exact BK596.out⟩, ⟨by repeat (first | (with_reducible first | exact HB.out | apply below_alloc | apply pw_below_drewN | apply below_drew1 | refine below_set ?_ GE596.out) | exact HB.out)⟩⟩
                                        · rw [if_neg c63] at H
                                          have c63b0 : (t622.toList == ([] : List UInt8)) = false := beq_eq_false_iff_ne.mpr c63
                                          have c63b1 : (t622.toList != ([] : List UInt8)) = true := bne_iff_ne.mpr c63
                                          exact absurd H (by simp)
                                      · rw [if_neg c62] at H
                                        have c62b0 : (t623 == 2) = false := beq_eq_false_iff_ne.mpr c62
                                        have c62b1 : (t623 != 2) = true := bne_iff_ne.mpr c62
                                        exact absurd H (by simp)
                                    · rw [if_neg c60] at H
                                      exact absurd H (by simp)
                                  · rw [if_neg c59] at H
                                    exact absurd H (by simp)
                              · replace c56 := Bool.eq_false_iff.mpr c56
                                subst c56
                                have H1 : (weirkeeperlaw13_FlatCuts.j6 kj52 a4 t609 t610) = some true := by rw [if_neg (show ¬ (false = true) by decide)] at H; exact H
                                clear H
                                have H := H1
                                clear H1
                                have H' := Aside0.mk H
                                clear H
                                go_wp2
                                go_meet
                                case rel => exact ⟨_, H', ⟨by have := HJ5.out; have := HJ23.out; have := HJ30.out; have := HJ40.out; have := HJ42.out; have := HJ52.out; first | omega | exact Nat.le_refl _⟩, ⟨by (with_reducible repeat (first | refine blk_drewN ?_ _ | refine blk_drew ?_ | refine blk_alloc ?_ _)); exact BK596.out⟩, ⟨by repeat (first | (with_reducible first | exact HB.out | apply below_alloc | apply pw_below_drewN | apply below_drew1 | refine below_set ?_ GE596.out) | exact HB.out)⟩⟩
                            case rest =>
                              clear HC55
                              try clear c1
                              try clear c2
                              try clear p2
                              try clear c3
                              try clear c4
                              try clear c5
                              try clear c6
                              try clear p6
                              try clear c8
                              try clear c9
                              try clear c13
                              try clear c15
                              try clear c16
                              try clear c17
                              try clear c18
                              try clear c19
                              try clear c27
                              try clear c28
                              try clear c29
                              try clear c30
                              try clear c30b0
                              try clear c30b1
                              try clear c32
                              try clear c33
                              try clear c33b0
                              try clear c33b1
                              try clear c35
                              try clear c35b0
                              try clear c35b1
                              try clear c36
                              try clear c36b0
                              try clear c36b1
                              try clear c38
                              try clear c38b0
                              try clear c38b1
                              try clear c39
                              try clear c39b0
                              try clear c39b1
                              try clear c42
                              try clear c42b0
                              try clear c42b1
                              try clear c44
                              try clear c45
                              try clear c45b0
                              try clear c45b1
                              try clear c47
                              try clear c47b0
                              try clear c47b1
                              try clear c48
                              try clear c48b0
                              try clear c48b1
                              try clear c50
                              try clear c50b0
                              try clear c50b1
                              try clear c51
                              try clear c51b0
                              try clear c51b1
                              try clear c54
                              try clear c54b0
                              try clear c54b1
                              try clear c56
                              try clear c57
                              try clear c57b0
                              try clear c57b1
                              try clear c59
                              try clear c59b0
                              try clear c59b1
                              try clear c60
                              try clear c60b0
                              try clear c60b1
                              try clear c62
                              try clear c62b0
                              try clear c62b1
                              try clear c63
                              try clear c63b0
                              try clear c63b1
                              try clear p64
                              try clear hcz12_0
                              try clear hcz12_1
                              try clear hcz12_2
                              try clear hcz28_0
                              try clear hcz28_1
                              try clear hcz28_2
                              try clear hfz12_0
                              try clear hfz12_1
                              try clear hfz12_2
                              try clear hfz28_0
                              try clear hfz28_1
                              try clear hfz28_2
                              try clear p2
                              try clear p6
                              obtain ⟨kq, HA, HJ54, BK596, HB⟩ := hcut
                              cases kq with
                              | zero => exact absurd HA.out (by simp [weirkeeperlaw13_FlatCuts.j6])
                              | succ kj54 =>
                                have H := HA.out
                                clear HA
                                simp only [weirkeeperlaw13_FlatCuts.j6] at H
                                have HC65 := Aside0.mk H
                                clear H
                                go_upto_region 19 with (fail)
                                go_cut [147] (fun v147 wc => ∃ (kq : Nat) (x147_64 : Bool), v147 = .bool x147_64 ∧ Aside0 (weirkeeperlaw13_FlatCuts.j7 kq a4 t609 x147_64 = some true) ∧ Aside0 (kq ≤ kj54) ∧ Aside0 (wc.heap[gb596]? = some (.cells #[.string a3_0, .string a3_1, .bool a3_2] 26 (0, 0))) ∧ Aside0 (Below w.heap.size w wc))
                                case first =>
                                  have H := HC65.out
                                  clear HC65
                                  by_cases c66 : t610 = 0
                                  · rw [if_pos c66] at H
                                    have c66b0 : (t610 == 0) = true := beq_iff_eq.mpr c66
                                    have c66b1 : (t610 != 0) = false := bne_eq_false_iff_eq.mpr c66
                                    clear c66
                                    (first | rw [c66b0] | (simp only [i64_w, i32_w]; rw [c66b0]) | skip)
                                    have H' := Aside0.mk H
                                    clear H
                                    go_wp2
                                    go_meet
                                    case rel => exact ⟨_, (decide ((t609.size : Int) > 0)), (by first | rfl | (simp; done) | (simp [*]; done)), H', ⟨by have := HJ5.out; have := HJ23.out; have := HJ30.out; have := HJ40.out; have := HJ42.out; have := HJ52.out; have := HJ54.out; first | omega | exact Nat.le_refl _⟩, ⟨by (with_reducible repeat (first | refine blk_drewN ?_ _ | refine blk_drew ?_ | refine blk_alloc ?_ _)); exact BK596.out⟩, ⟨by repeat (first | (with_reducible first | exact HB.out | apply below_alloc | apply pw_below_drewN | apply below_drew1 | refine below_set ?_ GE596.out) | exact HB.out)⟩⟩
                                  · rw [if_neg c66] at H
                                    have c66b0 : (t610 == 0) = false := beq_eq_false_iff_ne.mpr c66
                                    have c66b1 : (t610 != 0) = true := bne_iff_ne.mpr c66
                                    (first | rw [c66b0] | (simp only [i64_w, i32_w]; rw [c66b0]) | skip)
                                    have H' := Aside0.mk H
                                    clear H
                                    go_wp2
                                    go_meet
                                    case rel => exact ⟨_, (false), (by first | rfl | (simp; done) | (simp [*]; done)), H', ⟨by have := HJ5.out; have := HJ23.out; have := HJ30.out; have := HJ40.out; have := HJ42.out; have := HJ52.out; have := HJ54.out; first | omega | exact Nat.le_refl _⟩, ⟨by (with_reducible repeat (first | refine blk_drewN ?_ _ | refine blk_drew ?_ | refine blk_alloc ?_ _)); exact BK596.out⟩, ⟨by repeat (first | (with_reducible first | exact HB.out | apply below_alloc | apply pw_below_drewN | apply below_drew1 | refine below_set ?_ GE596.out) | exact HB.out)⟩⟩
                                case rest =>
                                  clear HC65
                                  try clear c1
                                  try clear c2
                                  try clear p2
                                  try clear c3
                                  try clear c4
                                  try clear c5
                                  try clear c6
                                  try clear p6
                                  try clear c8
                                  try clear c9
                                  try clear c13
                                  try clear c15
                                  try clear c16
                                  try clear c17
                                  try clear c18
                                  try clear c19
                                  try clear c27
                                  try clear c28
                                  try clear c29
                                  try clear c30
                                  try clear c30b0
                                  try clear c30b1
                                  try clear c32
                                  try clear c33
                                  try clear c33b0
                                  try clear c33b1
                                  try clear c35
                                  try clear c35b0
                                  try clear c35b1
                                  try clear c36
                                  try clear c36b0
                                  try clear c36b1
                                  try clear c38
                                  try clear c38b0
                                  try clear c38b1
                                  try clear c39
                                  try clear c39b0
                                  try clear c39b1
                                  try clear c42
                                  try clear c42b0
                                  try clear c42b1
                                  try clear c44
                                  try clear c45
                                  try clear c45b0
                                  try clear c45b1
                                  try clear c47
                                  try clear c47b0
                                  try clear c47b1
                                  try clear c48
                                  try clear c48b0
                                  try clear c48b1
                                  try clear c50
                                  try clear c50b0
                                  try clear c50b1
                                  try clear c51
                                  try clear c51b0
                                  try clear c51b1
                                  try clear c54
                                  try clear c54b0
                                  try clear c54b1
                                  try clear c56
                                  try clear c57
                                  try clear c57b0
                                  try clear c57b1
                                  try clear c59
                                  try clear c59b0
                                  try clear c59b1
                                  try clear c60
                                  try clear c60b0
                                  try clear c60b1
                                  try clear c62
                                  try clear c62b0
                                  try clear c62b1
                                  try clear c63
                                  try clear c63b0
                                  try clear c63b1
                                  try clear p64
                                  try clear c66
                                  try clear c66b0
                                  try clear c66b1
                                  try clear hcz12_0
                                  try clear hcz12_1
                                  try clear hcz12_2
                                  try clear hcz28_0
                                  try clear hcz28_1
                                  try clear hcz28_2
                                  try clear hfz12_0
                                  try clear hfz12_1
                                  try clear hfz12_2
                                  try clear hfz28_0
                                  try clear hfz28_1
                                  try clear hfz28_2
                                  try clear p2
                                  try clear p6
                                  try clear p64
                                  obtain ⟨kq, x147_64, rfl, HA, HJ64, BK596, HB⟩ := hcut
                                  cases kq with
                                  | zero => exact absurd HA.out (by simp [weirkeeperlaw13_FlatCuts.j7])
                                  | succ kj64 =>
                                    have H := HA.out
                                    clear HA
                                    simp only [weirkeeperlaw13_FlatCuts.j7] at H
                                    by_cases c67 : x147_64 = true
                                    · subst c67
                                      have H1 : (if (t609.size : Int) = 0 then (none) else (if 0 ≤ (Int.tmod (wrap64 (a4)) (t609.size : Int)) then (if (Int.tmod (wrap64 (a4)) (t609.size : Int)) ≤ (t609.size : Int) then ((flat_TakeRange.f kj64 (t609.extract 0 ((Int.tmod (wrap64 (a4)) (t609.size : Int)) : Int).toNat)).bind fun bt626 => (if bt626.2.2.2.2 = 2 then (if bt626.2.2.2.1.toList = ([] : List UInt8) then ((weirkeeperlaw13_awake.f kj64).bind fun t632 => (some t632)) else (some false)) else (some false))) else (none)) else (none))) = some true := by rw [if_pos rfl] at H; exact H
                                      clear H
                                      have H := H1
                                      clear H1
                                      by_cases c68 : (t609.size : Int) = 0
                                      · rw [if_pos c68] at H
                                        exact absurd H (by simp)
                                      · rw [if_neg c68] at H
                                        have c68b0 : ((t609.size : Int) == 0) = false := beq_eq_false_iff_ne.mpr c68
                                        have c68b1 : ((t609.size : Int) != 0) = true := bne_iff_ne.mpr c68
                                        obtain ⟨ji69, hji69⟩ : ∃ j_ : Int, (Int.tmod (wrap64 (a4)) (t609.size : Int)) = j_ := ⟨_, rfl⟩
                                        replace H : (if 0 ≤ (ji69) then (if (ji69) ≤ (t609.size : Int) then ((flat_TakeRange.f kj64 (t609.extract 0 ((ji69) : Int).toNat)).bind fun bt626 => (if bt626.2.2.2.2 = 2 then (if bt626.2.2.2.1.toList = ([] : List UInt8) then ((weirkeeperlaw13_awake.f kj64).bind fun t632 => (some t632)) else (some false)) else (some false))) else (none)) else (none)) = some true := by first | (rw [hji69] at H; exact H) | (simp only [hji69] at H ⊢; exact H)
                                        by_cases c70 : 0 ≤ (ji69)
                                        · rw [if_pos c70] at H
                                          have c70b0 := eq_true c70
                                          have c70b1 : decide (0 ≤ (ji69)) = true := decide_eq_true c70
                                          clear c70
                                          by_cases c71 : (ji69) ≤ (t609.size : Int)
                                          · rw [if_pos c71] at H
                                            have c71b0 := eq_true c71
                                            have c71b1 : decide ((ji69) ≤ (t609.size : Int)) = true := decide_eq_true c71
                                            clear c71
                                            replace H := Option.bind_eq_some_iff.mp H
                                            obtain ⟨⟨t626, t627, t628, t629, t630⟩, A720, H⟩ := H
                                            replace H : (if t630 = 2 then (if t629.toList = ([] : List UInt8) then ((weirkeeperlaw13_awake.f kj64).bind fun t632 => (some t632)) else (some false)) else (some false)) = some true := H
                                            have A72 := Aside0.mk A720
                                            clear A720
                                            by_cases c73 : t630 = 2
                                            · rw [if_pos c73] at H
                                              have c73b0 : (t630 == 2) = true := beq_iff_eq.mpr c73
                                              have c73b1 : (t630 != 2) = false := bne_eq_false_iff_eq.mpr c73
                                              clear c73
                                              by_cases c74 : t629.toList = ([] : List UInt8)
                                              · rw [if_pos c74] at H
                                                have c74b0 : (t629.toList == ([] : List UInt8)) = true := beq_iff_eq.mpr c74
                                                have c74b1 : (t629.toList != ([] : List UInt8)) = false := bne_eq_false_iff_eq.mpr c74
                                                clear c74
                                                replace H := Option.bind_eq_some_iff.mp H
                                                obtain ⟨t632, A750, H⟩ := H
                                                replace H : (some t632) = some true := H
                                                have A75 := Aside0.mk A750
                                                clear A750
                                                (have H9_ := Option.some.inj H; first | subst H9_ | (have h9_ := Aside0.mk H9_; clear H9_))
                                                go_wp2_with (first | ((with_reducible refine gate_callee (f := 30) rfl ?_); refine goesL_ (some 156) rfl rfl Try.func30 (by kernel_rfl) rfl #[.string (t609.extract 0 ((ji69) : Int).toNat)] rfl (by (try simp only [List.map_toArray, List.map_cons, List.map_nil]); first | done | (simp only [hji69]; rfl) | rfl | (simp only [List.length_drop, List.length_take]; rfl)) ?_; (with_reducible refine (flat_TakeRange.calls kj64 (t609.extract 0 ((ji69) : Int).toNat) t626 t627 t628 t629 t630 _ A72.out).mono ?_); rintro e w76 ⟨rfl, hb⟩; refine ⟨_, rfl, ?_⟩; have n0_ := Aside0.mk (blk_below (g := gb596) (o := .cells #[.string a3_0, .string a3_1, .bool a3_2] 26 (0, 0)) (by (with_reducible repeat (first | refine blk_drewN ?_ _ | refine blk_drew ?_ | refine blk_alloc ?_ _)); exact BK596.out) hb); have n1_ := Aside0.mk (below_step (by repeat (first | (with_reducible first | exact HB.out | apply below_alloc | apply pw_below_drewN | apply below_drew1 | refine below_set ?_ GE596.out) | exact HB.out)) hb); clear BK596; clear HB; have BK596 := n0_; have HB := n1_; clear n0_ n1_; (try clear hb); (try clear hb2); (try clear hk); (try clear hi)) | ((with_reducible refine gate_dst (N := 28) rfl ?_); (try (refine gate_guard (by rfl) ?_; dsimp only)); refine box_event ?hg (N := 28) ?hd (cs := #[.string (⟨#[]⟩ : ByteArray), .string (⟨#[]⟩ : ByteArray), .bool false]) (t := 26) ?hr ?_; (case hd => rfl); (case hg => rfl); (case hr => first | (go_simp; done) | (go_simp; rfl)); intro gb631 hg w77 hbox hb; have n0_ := Aside0.mk (blk_below (g := gb596) (o := .cells #[.string a3_0, .string a3_1, .bool a3_2] 26 (0, 0)) (by (with_reducible repeat (first | refine blk_drewN ?_ _ | refine blk_drew ?_ | refine blk_alloc ?_ _)); exact BK596.out) hb); have n1_ := Aside0.mk (below_step (by repeat (first | (with_reducible first | exact HB.out | apply below_alloc | apply pw_below_drewN | apply below_drew1 | refine below_set ?_ GE596.out) | exact HB.out)) hb); have n2_ := Aside0.mk (hbox); have n3_ := Aside0.mk ((by rw [hg]; exact (below_size (by repeat (first | (with_reducible first | exact HB.out | apply below_alloc | apply pw_below_drewN | apply below_drew1 | refine below_set ?_ GE596.out) | exact HB.out))) : w.heap.size ≤ gb631)); have n4_ := Aside0.mk ((by rw [hg]; exact (below_size (by repeat (first | (with_reducible first | exact HB.out | apply below_alloc | apply pw_below_drewN | apply below_drew1 | refine below_set ?_ GE596.out) | exact HB.out))) : w.heap.size ≤ gb631)); have n5_ := Aside0.mk ((by rw [hg]; exact Nat.ne_of_lt (blk_lt (g := gb596) (o := .cells #[.string a3_0, .string a3_1, .bool a3_2] 26 (0, 0)) (by (with_reducible repeat (first | refine blk_drewN ?_ _ | refine blk_drew ?_ | refine blk_alloc ?_ _)); exact BK596.out)) : gb596 ≠ gb631)); have n6_ := Aside0.mk ((by rw [hg]; exact Nat.ne_of_gt (blk_lt (g := gb596) (o := .cells #[.string a3_0, .string a3_1, .bool a3_2] 26 (0, 0)) (by (with_reducible repeat (first | refine blk_drewN ?_ _ | refine blk_drew ?_ | refine blk_alloc ?_ _)); exact BK596.out)) : gb631 ≠ gb596)); clear BK596; clear HB; have BK596 := n0_; have HB := n1_; have BK631 := n2_; have GW631 := n3_; have GE631 := n4_; have NB596_631 := n5_; have NB631_596 := n6_; clear n0_ n1_ n2_ n3_ n4_ n5_ n6_; clear hb hbox hg; have hnb78 := NB631_596.out; have hnc78 := NB596_631.out; have hcz79_0 : w77.cell? ⟨gb631, 0, none⟩ = some (.string (⟨#[]⟩ : ByteArray)) := (blk_cell BK631.out 0).trans rfl; have hcz79_1 : w77.cell? ⟨gb631, 1, none⟩ = some (.string (⟨#[]⟩ : ByteArray)) := (blk_cell BK631.out 1).trans rfl; have hcz79_2 : w77.cell? ⟨gb631, 2, none⟩ = some (.bool false) := (blk_cell BK631.out 2).trans rfl; have hfz79_0 := blk_frozen BK631.out 0; have hfz79_1 := blk_frozen BK631.out 1; have hfz79_2 := blk_frozen BK631.out 2) | ((with_reducible refine gate_callee (f := 15) rfl ?_); refine goesL_ (some 166) rfl rfl Try.func15 (by kernel_rfl) rfl #[] rfl (by (try simp only [List.map_toArray, List.map_cons, List.map_nil]); first | done | rfl | (simp only [List.length_drop, List.length_take]; rfl)) ?_; (with_reducible refine (weirkeeperlaw13_awake.calls kj64 _ A75.out).mono ?_); rintro e w80 ⟨rfl, hb⟩; refine ⟨_, rfl, ?_⟩; have n0_ := Aside0.mk (blk_below (g := gb596) (o := .cells #[.string a3_0, .string a3_1, .bool a3_2] 26 (0, 0)) (by (with_reducible repeat (first | refine blk_drewN ?_ _ | refine blk_drew ?_ | refine blk_alloc ?_ _)); refine blk_far ?_ NB596_631.out _; (with_reducible repeat (first | refine blk_drewN ?_ _ | refine blk_drew ?_ | refine blk_alloc ?_ _)); refine blk_far ?_ NB596_631.out _; (with_reducible repeat (first | refine blk_drewN ?_ _ | refine blk_drew ?_ | refine blk_alloc ?_ _)); refine blk_far ?_ NB596_631.out _; (with_reducible repeat (first | refine blk_drewN ?_ _ | refine blk_drew ?_ | refine blk_alloc ?_ _)); exact BK596.out) hb); have n1_ := Aside0.mk (blk_below (g := gb631) (o := .cells #[.string t626, .string t627, .bool t628] 26 (0, 0)) (by (with_reducible repeat (first | refine blk_drewN ?_ _ | refine blk_drew ?_ | refine blk_alloc ?_ _)); refine blk_put (cs := #[.string t626, .string t627, .bool false]) ?_ 2 _ rfl; (with_reducible repeat (first | refine blk_drewN ?_ _ | refine blk_drew ?_ | refine blk_alloc ?_ _)); refine blk_put (cs := #[.string t626, .string (⟨#[]⟩ : ByteArray), .bool false]) ?_ 1 _ rfl; (with_reducible repeat (first | refine blk_drewN ?_ _ | refine blk_drew ?_ | refine blk_alloc ?_ _)); refine blk_put (cs := #[.string (⟨#[]⟩ : ByteArray), .string (⟨#[]⟩ : ByteArray), .bool false]) ?_ 0 _ rfl; (with_reducible repeat (first | refine blk_drewN ?_ _ | refine blk_drew ?_ | refine blk_alloc ?_ _)); exact BK631.out) hb); have n2_ := Aside0.mk (below_step (by repeat (first | (with_reducible first | exact HB.out | apply below_alloc | apply pw_below_drewN | apply below_drew1 | refine below_set ?_ GE596.out | refine below_set ?_ GE631.out) | exact HB.out)) hb); clear BK596; clear BK631; clear HB; have BK596 := n0_; have BK631 := n1_; have HB := n2_; clear n0_ n1_ n2_; (try clear hb); (try clear hb2); (try clear hk); (try clear hi)))
                                                go_ret
                                                exact ⟨by first | rfl | (simp only [h9_.out]; done) | (have h8_ := h9_.out; simp [h8_]; done) | (simp [errW_none, errW_some] <;> rfl) | (simp only [← hji69]; first | rfl | (simp [errW_none, errW_some] <;> rfl)) | (simp [*, errW_none, errW_some] <;> rfl), by repeat (first | (with_reducible first | exact HB.out | apply below_alloc | apply pw_below_drewN | apply below_drew1 | refine below_set ?_ GE596.out | refine below_set ?_ GE631.out) | exact HB.out)⟩
                                              · rw [if_neg c74] at H
                                                have c74b0 : (t629.toList == ([] : List UInt8)) = false := beq_eq_false_iff_ne.mpr c74
                                                have c74b1 : (t629.toList != ([] : List UInt8)) = true := bne_iff_ne.mpr c74
                                                exact absurd H (by simp)
                                            · rw [if_neg c73] at H
                                              have c73b0 : (t630 == 2) = false := beq_eq_false_iff_ne.mpr c73
                                              have c73b1 : (t630 != 2) = true := bne_iff_ne.mpr c73
                                              exact absurd H (by simp)
                                          · rw [if_neg c71] at H
                                            exact absurd H (by simp)
                                        · rw [if_neg c70] at H
                                          exact absurd H (by simp)
                                    · replace c67 := Bool.eq_false_iff.mpr c67
                                      subst c67
                                      have H1 : ((weirkeeperlaw13_awake.f kj64).bind fun t633 => (some t633)) = some true := by rw [if_neg (show ¬ (false = true) by decide)] at H; exact H
                                      clear H
                                      have H := H1
                                      clear H1
                                      replace H := Option.bind_eq_some_iff.mp H
                                      obtain ⟨t633, A810, H⟩ := H
                                      replace H : (some t633) = some true := H
                                      have A81 := Aside0.mk A810
                                      clear A810
                                      (have H9_ := Option.some.inj H; first | subst H9_ | (have h9_ := Aside0.mk H9_; clear H9_))
                                      go_wp2_with (first | ((with_reducible refine gate_callee (f := 15) rfl ?_); refine goesL_ (some 166) rfl rfl Try.func15 (by kernel_rfl) rfl #[] rfl (by (try simp only [List.map_toArray, List.map_cons, List.map_nil]); first | done | rfl | (simp only [List.length_drop, List.length_take]; rfl)) ?_; (with_reducible refine (weirkeeperlaw13_awake.calls kj64 _ A81.out).mono ?_); rintro e w82 ⟨rfl, hb⟩; refine ⟨_, rfl, ?_⟩; have n0_ := Aside0.mk (blk_below (g := gb596) (o := .cells #[.string a3_0, .string a3_1, .bool a3_2] 26 (0, 0)) (by (with_reducible repeat (first | refine blk_drewN ?_ _ | refine blk_drew ?_ | refine blk_alloc ?_ _)); exact BK596.out) hb); have n1_ := Aside0.mk (below_step (by repeat (first | (with_reducible first | exact HB.out | apply below_alloc | apply pw_below_drewN | apply below_drew1 | refine below_set ?_ GE596.out) | exact HB.out)) hb); clear BK596; clear HB; have BK596 := n0_; have HB := n1_; clear n0_ n1_; (try clear hb); (try clear hb2); (try clear hk); (try clear hi)))
                                      go_ret
                                      exact ⟨by first | rfl | (simp only [h9_.out]; done) | (have h8_ := h9_.out; simp [h8_]; done) | (simp [errW_none, errW_some] <;> rfl) | (simp [*, errW_none, errW_some] <;> rfl), by repeat (first | (with_reducible first | exact HB.out | apply below_alloc | apply pw_below_drewN | apply below_drew1 | refine below_set ?_ GE596.out) | exact HB.out)⟩

end Go.Proofs.Ythidkdlmpkeogaa.F
