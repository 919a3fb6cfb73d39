/- Contracts of Go functions of the seat Ythidkdlmpkeogaa: what a call comes to; no condition but those that each theorem names. -/
import Derived.Test.YthidkdlmpkeogaaFUp
import Derived.Test.YthidkdlmpkeogaaFPre
import Derived.Test.YthidkdlmpkeogaaFdiskC
import Derived.Test.YthidkdlmpkeogaaFdiskE
import Derived.Test.YthidkdlmpkeogaaFdiskB
import Derived.Test.YthidkdlmpkeogaaFlaw04Ref
import Derived.Test.YthidkdlmpkeogaaFlaw04awake
import Derived.Test.YthidkdlmpkeogaaFlaw04same
import Derived.Test.YthidkdlmpkeogaaFref04
namespace Go.Proofs.Ythidkdlmpkeogaa.F
open Go.RowKit Go.Proofs.YthidkdlmpkeogaaW.PrintWords Go.Proofs.YthidkdlmpkeogaaW.PrintLast Go.Proofs.YthidkdlmpkeogaaW.PrintMore
attribute [local go_sem] max2_int min2_int max_two min_two max_three min_three max_four min_four   -- for this text's walks alone
set_option linter.unusedVariables false
set_option linter.unusedSimpArgs false

attribute [local go_sem] fieldD86_0 fieldD86_1
/-! ### weirkeeperlaw04_DiskOnce: function 12 -/
mutual
def weirkeeperlaw04_DiskOnce.j0 : Nat → Int → List ByteArray → List ByteArray → List Bool → List Bool → Bool → List ByteArray → List (S104) → Option (Bool)
 | 0, _, _, _, _, _, _, _, _ => none
 | k + 1, x1, x2, x3, x4, x5, x48, x862000, x862001 => if x48 = true then ((weirkeeperlaw04_awake.f).bind fun t870 => (some t870)) else ((disk_Flush.f x862000 x862001).bind fun bt871 => ((disk_Crash.f x862000 x862001 x4).bind fun bt877 => ((disk_Flush.f bt871.1 bt871.2).bind fun bt885 => ((weirkeeperlaw04_Ref.f k bt871.1 bt871.2).bind fun bt891 => ((weirkeeperlaw04_same.f k bt885.1 bt885.2 bt891.1 bt891.2).bind fun t897 => (if t897 = true then ((disk_Crash.f bt877.1 bt877.2 x5).bind fun bt898 => ((weirkeeperlaw04_Ref.f k bt877.1 bt877.2).bind fun bt904 => ((weirkeeperlaw04_same.f k bt898.1 bt898.2 bt904.1 bt904.2).bind fun t910 => (if t910 = true then ((disk_Flush.f bt877.1 bt877.2).bind fun bt911 => ((weirkeeperlaw04_Ref.f k bt877.1 bt877.2).bind fun bt917 => ((weirkeeperlaw04_same.f k bt911.1 bt911.2 bt917.1 bt917.2).bind fun t923 => (weirkeeperlaw04_DiskOnce.j1 k x1 x2 x3 (!t923) x862000 x862001)))) else (weirkeeperlaw04_DiskOnce.j1 k x1 x2 x3 true x862000 x862001))))) else (weirkeeperlaw04_DiskOnce.j1 k x1 x2 x3 true x862000 x862001)))))))
def weirkeeperlaw04_DiskOnce.j1 : Nat → Int → List ByteArray → List ByteArray → Bool → List ByteArray → List (S104) → Option (Bool)
 | 0, _, _, _, _, _, _ => none
 | k + 1, x1, x2, x3, x77, x862000, x862001 => if x77 = true then (some false) else ((disk_Put.f x862000 x862001 x1 x2).bind fun bt924 => (if bt924.2.2 = 0 then ((disk_Put.f bt924.1 bt924.2.1 (wrap64 (x1 + (x2.length : Int))) x3).bind fun bt940 => ((some (([] : List ByteArray) : List ByteArray)).bind fun y947 => (if y947.length + x2.length < 8796093022208 then ((some (y947 ++ x2 : List ByteArray)).bind fun y950 => (if y950.length + x3.length < 8796093022208 then ((disk_Put.f x862000 x862001 x1 (y950 ++ x3)).bind fun bt956 => (if bt940.2.2 = bt956.2.2 then (if bt940.2.2 = 0 then ((weirkeeperlaw04_Ref.f k bt956.1 bt956.2.1).bind fun bt964 => ((weirkeeperlaw04_same.f k bt940.1 bt940.2.1 bt964.1 bt964.2).bind fun t970 => (if t970 = true then ((weirkeeperlaw04_awake.f).bind fun t971 => (some t971)) else (some false)))) else ((weirkeeperlaw04_awake.f).bind fun t972 => (some t972))) else (some false))) else (none))) else (none)))) else ((weirkeeperlaw04_Ref.f k x862000 x862001).bind fun bt932 => ((weirkeeperlaw04_same.f k bt924.1 bt924.2.1 bt932.1 bt932.2).bind fun t938 => (if t938 = true then ((weirkeeperlaw04_awake.f).bind fun t939 => (some t939)) else (some false))))))
end
def weirkeeperlaw04_DiskOnce.f (k : Nat) (l0_0 : List ByteArray) (l0_1 : List (S104)) (a1 : Int) (l2 : List ByteArray) (l3 : List ByteArray) (l4 : List Bool) (l5 : List Bool) : Option (Bool) := (weirkeeperlaw04_Ref.f k l0_0 l0_1).bind fun bt862 => ((weirkeeperref04_Small.f bt862.1 bt862.2).bind fun t868 => (if t868 = true then (if (l2.length : Int) > 30 then (weirkeeperlaw04_DiskOnce.j0 k a1 l2 l3 l4 l5 true l0_0 l0_1) else (if (l3.length : Int) > 30 then (weirkeeperlaw04_DiskOnce.j0 k a1 l2 l3 l4 l5 true l0_0 l0_1) else (if (l4.length : Int) > 60 then (weirkeeperlaw04_DiskOnce.j0 k a1 l2 l3 l4 l5 true l0_0 l0_1) else (if (l5.length : Int) > 60 then (weirkeeperlaw04_DiskOnce.j0 k a1 l2 l3 l4 l5 true l0_0 l0_1) else ((disk_Right.f l0_0 l0_1).bind fun t869 => (weirkeeperlaw04_DiskOnce.j0 k a1 l2 l3 l4 l5 (!t869) l0_0 l0_1)))))) else (weirkeeperlaw04_DiskOnce.j0 k a1 l2 l3 l4 l5 true l0_0 l0_1)))
theorem weirkeeperlaw04_DiskOnce.j1_true : ∀ (k : Nat) (a1 : Int) (l2 l3 : List ByteArray) (l0 : List ByteArray) (l1 : List S104), weirkeeperlaw04_DiskOnce.j1 k a1 l2 l3 true l0 l1 ≠ some true
 | 0, _, _, _, _, _ => by simp [weirkeeperlaw04_DiskOnce.j1]
 | k + 1, _, _, _, _, _ => by simp [weirkeeperlaw04_DiskOnce.j1]
theorem weirkeeperlaw04_DiskOnce.mono_l : ∀ k, (∀ y0 y1 y2 y3 y4 y5 y6 y7, LeO (weirkeeperlaw04_DiskOnce.j0 k y0 y1 y2 y3 y4 y5 y6 y7) (weirkeeperlaw04_DiskOnce.j0 (k + 1) y0 y1 y2 y3 y4 y5 y6 y7)) ∧ (∀ y0 y1 y2 y3 y4 y5, LeO (weirkeeperlaw04_DiskOnce.j1 k y0 y1 y2 y3 y4 y5) (weirkeeperlaw04_DiskOnce.j1 (k + 1) y0 y1 y2 y3 y4 y5))
 | 0 => ⟨fun _ _ _ _ _ _ _ _ r h => by simp [weirkeeperlaw04_DiskOnce.j0] at h, fun _ _ _ _ _ _ r h => by simp [weirkeeperlaw04_DiskOnce.j1] at h⟩
 | k + 1 => by
  obtain ⟨ih0, ih1⟩ := weirkeeperlaw04_DiskOnce.mono_l k
  refine ⟨?_, ?_⟩
  ·intro y0 y1 y2 y3 y4 y5 y6 y7
   unfold weirkeeperlaw04_DiskOnce.j0
   repeat' first
   | (with_reducible exact ih0 _ _ _ _ _ _ _ _)
   | (with_reducible exact ih1 _ _ _ _ _ _)
   | (with_reducible exact weirkeeperlaw04_Ref.mono _ _ _)
   | (with_reducible exact weirkeeperlaw04_same.mono _ _ _ _ _)
   | (with_reducible exact LeO.refl _)
   | (with_reducible exact LeO.none _)
   | (with_reducible refine LeO.ite ?_ ?_)
   | (with_reducible refine LeO.bind ?_ (fun _ => ?_))
   | exact ih0 _ _ _ _ _ _ _ _
   | exact ih1 _ _ _ _ _ _
   | exact LeO.none _
   | refine LeO.ite ?_ ?_
   | refine LeO.bind ?_ (fun _ => ?_)
  ·intro y0 y1 y2 y3 y4 y5
   unfold weirkeeperlaw04_DiskOnce.j1
   repeat' first
   | (with_reducible exact ih0 _ _ _ _ _ _ _ _)
   | (with_reducible exact ih1 _ _ _ _ _ _)
   | (with_reducible exact weirkeeperlaw04_Ref.mono _ _ _)
   | (with_reducible exact weirkeeperlaw04_same.mono _ _ _ _ _)
   | (with_reducible exact LeO.refl _)
   | (with_reducible exact LeO.none _)
   | (with_reducible refine LeO.ite ?_ ?_)
   | (with_reducible refine LeO.bind ?_ (fun _ => ?_))
   | exact ih0 _ _ _ _ _ _ _ _
   | exact ih1 _ _ _ _ _ _
   | exact LeO.none _
   | refine LeO.ite ?_ ?_
   | refine LeO.bind ?_ (fun _ => ?_)
theorem weirkeeperlaw04_DiskOnce.mono : ∀ a0 a1 a2 a3 a4 a5 a6 k, LeO (weirkeeperlaw04_DiskOnce.f k a0 a1 a2 a3 a4 a5 a6) (weirkeeperlaw04_DiskOnce.f (k + 1) a0 a1 a2 a3 a4 a5 a6) := by
 intro a0 a1 a2 a3 a4 a5 a6 k
 obtain ⟨ih0, ih1⟩ := weirkeeperlaw04_DiskOnce.mono_l k
 unfold weirkeeperlaw04_DiskOnce.f
 repeat' first
   | (with_reducible exact ih0 _ _ _ _ _ _ _ _)
   | (with_reducible exact ih1 _ _ _ _ _ _)
   | (with_reducible exact weirkeeperlaw04_Ref.mono _ _ _)
   | (with_reducible exact weirkeeperlaw04_same.mono _ _ _ _ _)
   | (with_reducible exact LeO.refl _)
   | (with_reducible exact LeO.none _)
   | (with_reducible refine LeO.ite ?_ ?_)
   | (with_reducible refine LeO.bind ?_ (fun _ => ?_))
   | exact ih0 _ _ _ _ _ _ _ _
   | exact ih1 _ _ _ _ _ _
   | exact LeO.none _
   | refine LeO.ite ?_ ?_
   | refine LeO.bind ?_ (fun _ => ?_)
def weirkeeperlaw04_DiskOnce.T3 : Bool × List (List Nat × List Nat) := (true, [([], []), ([0], [0]), ([], []), ([], []), ([2, 3, 1], [2, 3]), ([], []), ([], []), ([5, 1, 4, 0, 1, 5, 6], [1, 5]), ([6, 4, 7, 0, 1, 2, 3, 4, 5, 6, 7], [4, 6])])
def weirkeeperlaw04_DiskOnce.B3 : List Nat := [0, 1, 0, 0, 15, 0, 0, 127, 255]
theorem weirkeeperlaw04_DiskOnce.tab3 : rtab .any (opsOf Try.f12 3) = weirkeeperlaw04_DiskOnce.T3 := by kernel_rfl
theorem weirkeeperlaw04_DiskOnce.bits3 : waitsOk weirkeeperlaw04_DiskOnce.T3.2 weirkeeperlaw04_DiskOnce.B3 = true := by kernel_rfl
def weirkeeperlaw04_DiskOnce.T4 : Bool × List (List Nat × List Nat) := (true, [([], []), ([0], [0]), ([], []), ([2, 1], [2]), ([1, 3, 3], [1, 3]), ([4], [4]), ([5, 4], [5]), ([6], [6]), ([6], [6]), ([7, 8, 6, 6], [6, 7, 8]), ([6], [6]), ([10, 9, 6], [6, 10]), ([9, 11, 11, 6], [6, 9, 11]), ([12, 6], [6, 12]), ([6, 13], [6, 13]), ([14, 12], [14]), ([15], [15]), ([16, 15, 15], [15, 16]), ([15], [15]), ([18, 17, 15], [15, 18]), ([17, 19, 19, 15], [15, 17, 19]), ([20, 15], [15, 20]), ([15, 21], [15, 21])])
def weirkeeperlaw04_DiskOnce.B4 : List Nat := [0, 1, 0, 7, 15, 31, 63, 127, 127, 511, 127, 2047, 4095, 8191, 16383, 32767, 65535, 131071, 65535, 524287, 1048575, 2097151, 4194303]
theorem weirkeeperlaw04_DiskOnce.tab4 : rtab .any (opsOf Try.f12 4) = weirkeeperlaw04_DiskOnce.T4 := by kernel_rfl
theorem weirkeeperlaw04_DiskOnce.bits4 : waitsOk weirkeeperlaw04_DiskOnce.T4.2 weirkeeperlaw04_DiskOnce.B4 = true := by kernel_rfl
def weirkeeperlaw04_DiskOnce.T8 : Bool × List (List Nat × List Nat) := (true, [([], []), ([], []), ([1], [1]), ([0, 2, 2], [0, 2]), ([3, 3], [3]), ([4, 4], [4]), ([4, 5], [4, 5]), ([6, 5, 0, 1, 2, 3, 4, 5, 6], [6])])
def weirkeeperlaw04_DiskOnce.B8 : List Nat := [0, 0, 2, 7, 15, 31, 63, 127]
theorem weirkeeperlaw04_DiskOnce.tab8 : rtab .any (opsOf Try.f12 8) = weirkeeperlaw04_DiskOnce.T8 := by kernel_rfl
theorem weirkeeperlaw04_DiskOnce.bits8 : waitsOk weirkeeperlaw04_DiskOnce.T8.2 weirkeeperlaw04_DiskOnce.B8 = true := by kernel_rfl
def weirkeeperlaw04_DiskOnce.T10 : Bool × List (List Nat × List Nat) := (true, [([], []), ([], []), ([], []), ([], []), ([2, 3], [2, 3]), ([], []), ([4, 5, 4], [4, 5]), ([0, 1, 6, 6], [0, 1, 6]), ([7], [7]), ([8], [8]), ([8], [8]), ([], []), ([11, 9, 7, 0, 1, 2, 3, 4, 5, 6, 7, 8, 9, 11], [9, 11]), ([10, 12, 0, 1, 2, 3, 4, 5, 6, 7, 8, 9, 10, 11, 12], [10])])
def weirkeeperlaw04_DiskOnce.B10 : List Nat := [0, 0, 0, 0, 12, 0, 60, 127, 255, 511, 511, 0, 3071, 8191]
theorem weirkeeperlaw04_DiskOnce.tab10 : rtab .any (opsOf Try.f12 10) = weirkeeperlaw04_DiskOnce.T10 := by kernel_rfl
theorem weirkeeperlaw04_DiskOnce.bits10 : waitsOk weirkeeperlaw04_DiskOnce.T10.2 weirkeeperlaw04_DiskOnce.B10 = true := by kernel_rfl
def weirkeeperlaw04_DiskOnce.T11 : Bool × List (List Nat × List Nat) := (true, [([], []), ([], []), ([0, 1], [0, 1]), ([2], [2]), ([3], [3]), ([4, 3], [3, 4]), ([5, 3, 3], [3, 5]), ([6], [6]), ([6], [6]), ([8, 6, 6], [6, 8]), ([7, 9, 9, 6], [6, 7, 9]), ([6, 10, 3], [3, 6, 10]), ([3, 11], [3, 11]), ([12, 10], [12]), ([13, 13], [13]), ([13, 14], [13, 14]), ([15, 14, 0, 1, 2, 3, 4, 5, 6, 7, 8, 9, 10, 11, 12, 13, 14, 15], [15])])
def weirkeeperlaw04_DiskOnce.B11 : List Nat := [0, 0, 3, 7, 15, 31, 63, 127, 127, 383, 1023, 2047, 4095, 8191, 16383, 32767, 65535]
theorem weirkeeperlaw04_DiskOnce.tab11 : rtab .any (opsOf Try.f12 11) = weirkeeperlaw04_DiskOnce.T11 := by kernel_rfl
theorem weirkeeperlaw04_DiskOnce.bits11 : waitsOk weirkeeperlaw04_DiskOnce.T11.2 weirkeeperlaw04_DiskOnce.B11 = true := by kernel_rfl
def onceR : Code → Code
  | .seq _ b => b
  | c => c
end Go.Proofs.Ythidkdlmpkeogaa.F
