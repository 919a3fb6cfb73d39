/- Contracts of Go functions of the seat Ythidkdlmpkeogaa: what a call comes to; no condition but those that each theorem names. -/
import Derived.Test.YthidkdlmpkeogaaFPre
import Derived.Test.YthidkdlmpkeogaaFflatx2
import Derived.Test.YthidkdlmpkeogaaFflatx0
import Derived.Test.YthidkdlmpkeogaaFlaw13awake
import Derived.Test.YthidkdlmpkeogaaFlaw13fit
namespace Go.Proofs.Ythidkdlmpkeogaa.F
open Go.RowKit Go.Proofs.YthidkdlmpkeogaaW.PrintWords Go.Proofs.YthidkdlmpkeogaaW.PrintLast Go.Proofs.YthidkdlmpkeogaaW.PrintMore
attribute [local go_sem] max2_int min2_int max_two min_two max_three min_three max_four min_four   -- for this text's walks alone
set_option linter.unusedVariables false
set_option linter.unusedSimpArgs false

/-! ### weirkeeperlaw13_FlatJoins: function 4 -/
mutual
def weirkeeperlaw13_FlatJoins.l0 : Nat → List (S48) → List (S50) → List (S42) → ByteArray → Int → ByteArray → Int → ByteArray → Int → ByteArray → ByteArray → ByteArray → List (S48) → Int → Int → Option (Bool)
  | 0, _, _, _, _, _, _, _, _, _, _, _, _, _, _, _ => none
  | k + 1, x0, x1, x2, x7, x8, x9, x10, x11, x12, x13, x14, x15, x49, x50, x51 => if x51 < x50 then (if 0 ≤ x51 then (if x51 < (x49.length : Int) then ((flat_Notes.f k (([(⟨(rd_T48 x49 x51).f0, (rd_T48 x49 x51).f1, (rd_T48 x49 x51).f2, (rd_T48 x49 x51).f3⟩ : S48)] : List (S48)))).bind fun bt320 => (if 0 ≤ (mn 2 (bt320.1.size : Int)) then (if (mn 2 (bt320.1.size : Int)) ≤ (bt320.1.size : Int) then (if x13.size + (bt320.1.extract ((mn 2 (bt320.1.size : Int)) : Int).toNat bt320.1.size).size ≤ 9223372036854775807 then (weirkeeperlaw13_FlatJoins.l0 k x0 x1 x2 x7 x8 x9 x10 x11 x12 (x13 ++ (bt320.1.extract ((mn 2 (bt320.1.size : Int)) : Int).toNat bt320.1.size)) x14 x15 x49 x50 (wrap64 (x51 + 1))) else (none)) else (none)) else (none))) else (none)) else (none)) else (weirkeeperlaw13_FlatJoins.l1 k x0 x1 x2 x7 x8 x9 x10 x11 x12 x13 x14 x15 x1 (x1.length : Int) 0)
def weirkeeperlaw13_FlatJoins.l1 : Nat → List (S48) → List (S50) → List (S42) → ByteArray → Int → ByteArray → Int → ByteArray → Int → ByteArray → ByteArray → ByteArray → List (S50) → Int → Int → Option (Bool)
  | 0, _, _, _, _, _, _, _, _, _, _, _, _, _, _, _ => none
  | k + 1, x0, x1, x2, x7, x8, x9, x10, x11, x12, x13, x14, x15, x69, x70, x71 => if x71 < x70 then (if 0 ≤ x71 then (if x71 < (x69.length : Int) then ((flat_Pairs.f k (([(⟨(rd_T50 x69 x71).f0, (rd_T50 x69 x71).f1⟩ : S50)] : List (S50)))).bind fun bt327 => (if 0 ≤ (mn 2 (bt327.1.size : Int)) then (if (mn 2 (bt327.1.size : Int)) ≤ (bt327.1.size : Int) then (if x14.size + (bt327.1.extract ((mn 2 (bt327.1.size : Int)) : Int).toNat bt327.1.size).size ≤ 9223372036854775807 then (weirkeeperlaw13_FlatJoins.l1 k x0 x1 x2 x7 x8 x9 x10 x11 x12 x13 (x14 ++ (bt327.1.extract ((mn 2 (bt327.1.size : Int)) : Int).toNat bt327.1.size)) x15 x69 x70 (wrap64 (x71 + 1))) else (none)) else (none)) else (none))) else (none)) else (none)) else (weirkeeperlaw13_FlatJoins.l2 k x0 x1 x2 x7 x8 x9 x10 x11 x12 x13 x14 x15 x2 (x2.length : Int) 0)
def weirkeeperlaw13_FlatJoins.l2 : Nat → List (S48) → List (S50) → List (S42) → ByteArray → Int → ByteArray → Int → ByteArray → Int → ByteArray → ByteArray → ByteArray → List (S42) → Int → Int → Option (Bool)
  | 0, _, _, _, _, _, _, _, _, _, _, _, _, _, _, _ => none
  | k + 1, x0, x1, x2, x7, x8, x9, x10, x11, x12, x13, x14, x15, x89, x90, x91 => if x91 < x90 then (if 0 ≤ x91 then (if x91 < (x89.length : Int) then ((flat_Changes.f k (([(⟨(rd_T42 x89 x91).f0, (rd_T42 x89 x91).f1, (rd_T42 x89 x91).f2, (rd_T42 x89 x91).f3, (rd_T42 x89 x91).f4, (rd_T42 x89 x91).f5⟩ : S42)] : List (S42)))).bind fun bt334 => (if 0 ≤ (mn 2 (bt334.1.size : Int)) then (if (mn 2 (bt334.1.size : Int)) ≤ (bt334.1.size : Int) then (if x15.size + (bt334.1.extract ((mn 2 (bt334.1.size : Int)) : Int).toNat bt334.1.size).size ≤ 9223372036854775807 then (weirkeeperlaw13_FlatJoins.l2 k x0 x1 x2 x7 x8 x9 x10 x11 x12 x13 x14 (x15 ++ (bt334.1.extract ((mn 2 (bt334.1.size : Int)) : Int).toNat bt334.1.size)) x89 x90 (wrap64 (x91 + 1))) else (none)) else (none)) else (none))) else (none)) else (none)) else (if x8 = 0 then ((some (([0, ((x0.length : Int)) % 256] : List Int) : List Int)).bind fun y336 => (if (strOfNums y336).size + x13.size ≤ 9223372036854775807 then (if x7.toList = ((strOfNums y336) ++ x13).toList then (if x10 = 0 then ((some (([0, ((x1.length : Int)) % 256] : List Int) : List Int)).bind fun y339 => (if (strOfNums y339).size + x14.size ≤ 9223372036854775807 then (if x9.toList = ((strOfNums y339) ++ x14).toList then (if x12 = 0 then ((some (([0, ((x2.length : Int)) % 256] : List Int) : List Int)).bind fun y342 => (if (strOfNums y342).size + x15.size ≤ 9223372036854775807 then (if x11.toList = ((strOfNums y342) ++ x15).toList then ((weirkeeperlaw13_awake.f k).bind fun t345 => (some t345)) else (some false)) else (none))) else ((weirkeeperlaw13_awake.f k).bind fun t346 => (some t346))) else (some false)) else (none))) else (if x12 = 0 then ((some (([0, ((x2.length : Int)) % 256] : List Int) : List Int)).bind fun y347 => (if (strOfNums y347).size + x15.size ≤ 9223372036854775807 then (if x11.toList = ((strOfNums y347) ++ x15).toList then ((weirkeeperlaw13_awake.f k).bind fun t350 => (some t350)) else (some false)) else (none))) else ((weirkeeperlaw13_awake.f k).bind fun t351 => (some t351)))) else (some false)) else (none))) else (if x10 = 0 then ((some (([0, ((x1.length : Int)) % 256] : List Int) : List Int)).bind fun y352 => (if (strOfNums y352).size + x14.size ≤ 9223372036854775807 then (if x9.toList = ((strOfNums y352) ++ x14).toList then (if x12 = 0 then ((some (([0, ((x2.length : Int)) % 256] : List Int) : List Int)).bind fun y355 => (if (strOfNums y355).size + x15.size ≤ 9223372036854775807 then (if x11.toList = ((strOfNums y355) ++ x15).toList then ((weirkeeperlaw13_awake.f k).bind fun t358 => (some t358)) else (some false)) else (none))) else ((weirkeeperlaw13_awake.f k).bind fun t359 => (some t359))) else (some false)) else (none))) else (if x12 = 0 then ((some (([0, ((x2.length : Int)) % 256] : List Int) : List Int)).bind fun y360 => (if (strOfNums y360).size + x15.size ≤ 9223372036854775807 then (if x11.toList = ((strOfNums y360) ++ x15).toList then ((weirkeeperlaw13_awake.f k).bind fun t363 => (some t363)) else (some false)) else (none))) else ((weirkeeperlaw13_awake.f k).bind fun t364 => (some t364)))))
end
def weirkeeperlaw13_FlatJoins.f (k : Nat) (l0 : List (S48)) (l1 : List (S50)) (l2 : List (S42)) : Option (Bool) := (weirkeeperlaw13_fit.f k l0 l1 l2).bind fun t307 => (if t307 = true then ((flat_Notes.f k l0).bind fun bt309 => ((flat_Pairs.f k l1).bind fun bt311 => ((flat_Changes.f k l2).bind fun bt313 => (weirkeeperlaw13_FlatJoins.l0 k l0 l1 l2 bt309.1 bt309.2 bt311.1 bt311.2 bt313.1 bt313.2 (⟨#[]⟩ : ByteArray) (⟨#[]⟩ : ByteArray) (⟨#[]⟩ : ByteArray) l0 (l0.length : Int) 0)))) else ((weirkeeperlaw13_awake.f k).bind fun t308 => (some t308)))
theorem weirkeeperlaw13_FlatJoins.mono_l : ∀ k, (∀ y0 y1 y2 y3 y4 y5 y6 y7 y8 y9 y10 y11 y12 y13 y14, LeO (weirkeeperlaw13_FlatJoins.l0 k y0 y1 y2 y3 y4 y5 y6 y7 y8 y9 y10 y11 y12 y13 y14) (weirkeeperlaw13_FlatJoins.l0 (k + 1) y0 y1 y2 y3 y4 y5 y6 y7 y8 y9 y10 y11 y12 y13 y14)) ∧ (∀ y0 y1 y2 y3 y4 y5 y6 y7 y8 y9 y10 y11 y12 y13 y14, LeO (weirkeeperlaw13_FlatJoins.l1 k y0 y1 y2 y3 y4 y5 y6 y7 y8 y9 y10 y11 y12 y13 y14) (weirkeeperlaw13_FlatJoins.l1 (k + 1) y0 y1 y2 y3 y4 y5 y6 y7 y8 y9 y10 y11 y12 y13 y14)) ∧ (∀ y0 y1 y2 y3 y4 y5 y6 y7 y8 y9 y10 y11 y12 y13 y14, LeO (weirkeeperlaw13_FlatJoins.l2 k y0 y1 y2 y3 y4 y5 y6 y7 y8 y9 y10 y11 y12 y13 y14) (weirkeeperlaw13_FlatJoins.l2 (k + 1) y0 y1 y2 y3 y4 y5 y6 y7 y8 y9 y10 y11 y12 y13 y14))
  | 0 => ⟨fun _ _ _ _ _ _ _ _ _ _ _ _ _ _ _ r h => by simp [weirkeeperlaw13_FlatJoins.l0] at h, fun _ _ _ _ _ _ _ _ _ _ _ _ _ _ _ r h => by simp [weirkeeperlaw13_FlatJoins.l1] at h, fun _ _ _ _ _ _ _ _ _ _ _ _ _ _ _ r h => by simp [weirkeeperlaw13_FlatJoins.l2] at h⟩
  | k + 1 => by
    obtain ⟨ih0, ih1, ih2⟩ := weirkeeperlaw13_FlatJoins.mono_l k
    refine ⟨?_, ?_, ?_⟩
    · intro y0 y1 y2 y3 y4 y5 y6 y7 y8 y9 y10 y11 y12 y13 y14
      unfold weirkeeperlaw13_FlatJoins.l0
      repeat' first
      | (with_reducible exact ih0 _ _ _ _ _ _ _ _ _ _ _ _ _ _ _)
      | (with_reducible exact ih1 _ _ _ _ _ _ _ _ _ _ _ _ _ _ _)
      | (with_reducible exact ih2 _ _ _ _ _ _ _ _ _ _ _ _ _ _ _)
      | (with_reducible exact flat_Changes.mono _ _)
      | (with_reducible exact flat_Notes.mono _ _)
      | (with_reducible exact flat_Pairs.mono _ _)
      | (with_reducible exact weirkeeperlaw13_awake.mono _)
      | (with_reducible exact weirkeeperlaw13_fit.mono _ _ _ _)
      | (with_reducible exact LeO.refl _)
      | (with_reducible exact LeO.none _)
      | (with_reducible refine LeO.ite ?_ ?_)
      | (with_reducible refine LeO.bind ?_ (fun _ => ?_))
      | exact ih0 _ _ _ _ _ _ _ _ _ _ _ _ _ _ _
      | exact ih1 _ _ _ _ _ _ _ _ _ _ _ _ _ _ _
      | exact ih2 _ _ _ _ _ _ _ _ _ _ _ _ _ _ _
      | exact flat_Changes.mono _ _
      | exact flat_Notes.mono _ _
      | exact flat_Pairs.mono _ _
      | exact weirkeeperlaw13_awake.mono _
      | exact weirkeeperlaw13_fit.mono _ _ _ _
      | exact LeO.none _
      | refine LeO.ite ?_ ?_
      | refine LeO.bind ?_ (fun _ => ?_)
    · intro y0 y1 y2 y3 y4 y5 y6 y7 y8 y9 y10 y11 y12 y13 y14
      unfold weirkeeperlaw13_FlatJoins.l1
      repeat' first
      | (with_reducible exact ih0 _ _ _ _ _ _ _ _ _ _ _ _ _ _ _)
      | (with_reducible exact ih1 _ _ _ _ _ _ _ _ _ _ _ _ _ _ _)
      | (with_reducible exact ih2 _ _ _ _ _ _ _ _ _ _ _ _ _ _ _)
      | (with_reducible exact flat_Changes.mono _ _)
      | (with_reducible exact flat_Notes.mono _ _)
      | (with_reducible exact flat_Pairs.mono _ _)
      | (with_reducible exact weirkeeperlaw13_awake.mono _)
      | (with_reducible exact weirkeeperlaw13_fit.mono _ _ _ _)
      | (with_reducible exact LeO.refl _)
      | (with_reducible exact LeO.none _)
      | (with_reducible refine LeO.ite ?_ ?_)
      | (with_reducible refine LeO.bind ?_ (fun _ => ?_))
      | exact ih0 _ _ _ _ _ _ _ _ _ _ _ _ _ _ _
      | exact ih1 _ _ _ _ _ _ _ _ _ _ _ _ _ _ _
      | exact ih2 _ _ _ _ _ _ _ _ _ _ _ _ _ _ _
      | exact flat_Changes.mono _ _
      | exact flat_Notes.mono _ _
      | exact flat_Pairs.mono _ _
      | exact weirkeeperlaw13_awake.mono _
      | exact weirkeeperlaw13_fit.mono _ _ _ _
      | exact LeO.none _
      | refine LeO.ite ?_ ?_
      | refine LeO.bind ?_ (fun _ => ?_)
    · intro y0 y1 y2 y3 y4 y5 y6 y7 y8 y9 y10 y11 y12 y13 y14
      unfold weirkeeperlaw13_FlatJoins.l2
      repeat' first
      | (with_reducible exact ih0 _ _ _ _ _ _ _ _ _ _ _ _ _ _ _)
      | (with_reducible exact ih1 _ _ _ _ _ _ _ _ _ _ _ _ _ _ _)
      | (with_reducible exact ih2 _ _ _ _ _ _ _ _ _ _ _ _ _ _ _)
      | (with_reducible exact flat_Changes.mono _ _)
      | (with_reducible exact flat_Notes.mono _ _)
      | (with_reducible exact flat_Pairs.mono _ _)
      | (with_reducible exact weirkeeperlaw13_awake.mono _)
      | (with_reducible exact weirkeeperlaw13_fit.mono _ _ _ _)
      | (with_reducible exact LeO.refl _)
      | (with_reducible exact LeO.none _)
      | (with_reducible refine LeO.ite ?_ ?_)
      | (with_reducible refine LeO.bind ?_ (fun _ => ?_))
      | exact ih0 _ _ _ _ _ _ _ _ _ _ _ _ _ _ _
      | exact ih1 _ _ _ _ _ _ _ _ _ _ _ _ _ _ _
      | exact ih2 _ _ _ _ _ _ _ _ _ _ _ _ _ _ _
      | exact flat_Changes.mono _ _
      | exact flat_Notes.mono _ _
      | exact flat_Pairs.mono _ _
      | exact weirkeeperlaw13_awake.mono _
      | exact weirkeeperlaw13_fit.mono _ _ _ _
      | exact LeO.none _
      | refine LeO.ite ?_ ?_
      | refine LeO.bind ?_ (fun _ => ?_)
theorem weirkeeperlaw13_FlatJoins.mono : ∀ a0 a1 a2 k, LeO (weirkeeperlaw13_FlatJoins.f k a0 a1 a2) (weirkeeperlaw13_FlatJoins.f (k + 1) a0 a1 a2) := by
  intro a0 a1 a2 k
  obtain ⟨ih0, ih1, ih2⟩ := weirkeeperlaw13_FlatJoins.mono_l k
  unfold weirkeeperlaw13_FlatJoins.f
  repeat' first
      | (with_reducible exact ih0 _ _ _ _ _ _ _ _ _ _ _ _ _ _ _)
      | (with_reducible exact ih1 _ _ _ _ _ _ _ _ _ _ _ _ _ _ _)
      | (with_reducible exact ih2 _ _ _ _ _ _ _ _ _ _ _ _ _ _ _)
      | (with_reducible exact flat_Changes.mono _ _)
      | (with_reducible exact flat_Notes.mono _ _)
      | (with_reducible exact flat_Pairs.mono _ _)
      | (with_reducible exact weirkeeperlaw13_awake.mono _)
      | (with_reducible exact weirkeeperlaw13_fit.mono _ _ _ _)
      | (with_reducible exact LeO.refl _)
      | (with_reducible exact LeO.none _)
      | (with_reducible refine LeO.ite ?_ ?_)
      | (with_reducible refine LeO.bind ?_ (fun _ => ?_))
      | exact ih0 _ _ _ _ _ _ _ _ _ _ _ _ _ _ _
      | exact ih1 _ _ _ _ _ _ _ _ _ _ _ _ _ _ _
      | exact ih2 _ _ _ _ _ _ _ _ _ _ _ _ _ _ _
      | exact flat_Changes.mono _ _
      | exact flat_Notes.mono _ _
      | exact flat_Pairs.mono _ _
      | exact weirkeeperlaw13_awake.mono _
      | exact weirkeeperlaw13_fit.mono _ _ _ _
      | exact LeO.none _
      | refine LeO.ite ?_ ?_
      | refine LeO.bind ?_ (fun _ => ?_)
set_option maxHeartbeats 8000000 in
set_option maxRecDepth 100000 in
theorem weirkeeperlaw13_FlatJoins.calls (k : Nat) (A0 : Option Addr) (c0 : Nat) (l0 : List (S48)) (A1 : Option Addr) (c1 : Nat) (l1 : List (S50)) (A2 : Option Addr) (c2 : Nat) (l2 : List (S42)) (w : World) (hr0 : Kd.C k48 w A0 l0.length l0) (hc0 : l0.length ≤ c0) (hr1 : Kd.C k50 w A1 l1.length l1) (hc1 : l1.length ≤ c1) (hr2 : Kd.C k42 w A2 l2.length l2) (hc2 : l2.length ≤ c2) (h : weirkeeperlaw13_FlatJoins.f k l0 l1 l2 = some true) :
    Calls Try.prog 4 #[.slice A0 l0.length c0, .slice A1 l1.length c1, .slice A2 l2.length c2] w fun e w' => e = .returned (.bool true) ∧ Below w.heap.size w w' := by
  have hu48 := Try.underlying48
  have hu50 := Try.underlying50
  have hu42 := Try.underlying42
  have HR0 := Aside0.mk hr0
  have HC0 := Aside0.mk hc0
  clear hr0 hc0
  have HR1 := Aside0.mk hr1
  have HC1 := Aside0.mk hc1
  clear hr1 hc1
  have HR2 := Aside0.mk hr2
  have HC2 := Aside0.mk hc2
  clear hr2 hc2
  have HB := Aside0.mk (Below.refl w.heap.size w)
  have H : ((weirkeeperlaw13_fit.f k l0 l1 l2).bind fun t307 => (if t307 = true then ((flat_Notes.f k l0).bind fun bt309 => ((flat_Pairs.f k l1).bind fun bt311 => ((flat_Changes.f k l2).bind fun bt313 => (weirkeeperlaw13_FlatJoins.l0 k l0 l1 l2 bt309.1 bt309.2 bt311.1 bt311.2 bt313.1 bt313.2 (⟨#[]⟩ : ByteArray) (⟨#[]⟩ : ByteArray) (⟨#[]⟩ : ByteArray) l0 (l0.length : Int) 0)))) else ((weirkeeperlaw13_awake.f k).bind fun t308 => (some t308)))) = some true := h
  clear h
  replace H := Option.bind_eq_some_iff.mp H
  obtain ⟨t307, A40, H⟩ := H
  replace H : (if t307 = true then ((flat_Notes.f k l0).bind fun bt309 => ((flat_Pairs.f k l1).bind fun bt311 => ((flat_Changes.f k l2).bind fun bt313 => (weirkeeperlaw13_FlatJoins.l0 k l0 l1 l2 bt309.1 bt309.2 bt311.1 bt311.2 bt313.1 bt313.2 (⟨#[]⟩ : ByteArray) (⟨#[]⟩ : ByteArray) (⟨#[]⟩ : ByteArray) l0 (l0.length : Int) 0)))) else ((weirkeeperlaw13_awake.f k).bind fun t308 => (some t308))) = some true := H
  have A4 := Aside0.mk A40
  clear A40
  by_cases c5 : t307 = true
  · subst c5
    have H1 : ((flat_Notes.f k l0).bind fun bt309 => ((flat_Pairs.f k l1).bind fun bt311 => ((flat_Changes.f k l2).bind fun bt313 => (weirkeeperlaw13_FlatJoins.l0 k l0 l1 l2 bt309.1 bt309.2 bt311.1 bt311.2 bt313.1 bt313.2 (⟨#[]⟩ : ByteArray) (⟨#[]⟩ : ByteArray) (⟨#[]⟩ : ByteArray) l0 (l0.length : Int) 0)))) = some true := by rw [if_pos rfl] at H; exact H
    clear H
    have H := H1
    clear H1
    replace H := Option.bind_eq_some_iff.mp H
    obtain ⟨⟨t309, t310⟩, A60, H⟩ := H
    replace H : ((flat_Pairs.f k l1).bind fun bt311 => ((flat_Changes.f k l2).bind fun bt313 => (weirkeeperlaw13_FlatJoins.l0 k l0 l1 l2 t309 t310 bt311.1 bt311.2 bt313.1 bt313.2 (⟨#[]⟩ : ByteArray) (⟨#[]⟩ : ByteArray) (⟨#[]⟩ : ByteArray) l0 (l0.length : Int) 0))) = some true := H
    have A6 := Aside0.mk A60
    clear A60
    replace H := Option.bind_eq_some_iff.mp H
    obtain ⟨⟨t311, t312⟩, A70, H⟩ := H
    replace H : ((flat_Changes.f k l2).bind fun bt313 => (weirkeeperlaw13_FlatJoins.l0 k l0 l1 l2 t309 t310 t311 t312 bt313.1 bt313.2 (⟨#[]⟩ : ByteArray) (⟨#[]⟩ : ByteArray) (⟨#[]⟩ : ByteArray) l0 (l0.length : Int) 0)) = some true := H
    have A7 := Aside0.mk A70
    clear A70
    replace H := Option.bind_eq_some_iff.mp H
    obtain ⟨⟨t313, t314⟩, A80, H⟩ := H
    replace H : (weirkeeperlaw13_FlatJoins.l0 k l0 l1 l2 t309 t310 t311 t312 t313 t314 (⟨#[]⟩ : ByteArray) (⟨#[]⟩ : ByteArray) (⟨#[]⟩ : ByteArray) l0 (l0.length : Int) 0) = some true := H
    have A8 := Aside0.mk A80
    clear A80
    have H' := Aside0.mk H
    clear H
    go_enter Try.func4, Try.ntmps4
    go_wp2_with (first | ((with_reducible refine gate_callee (f := 13) rfl ?_); refine goesL_ (some 31) rfl rfl Try.func13 (by kernel_rfl) rfl #[.slice A0 l0.length c0, .slice A1 l1.length c1, .slice A2 l2.length c2] rfl (by (try simp only [List.map_toArray, List.map_cons, List.map_nil]); first | done | rfl | (simp only [List.length_drop, List.length_take]; rfl)) ?_; (with_reducible refine (weirkeeperlaw13_fit.calls k _ _ l0 _ _ l1 _ _ l2 true _ ?side1 ?side2 ?side3 ?side4 ?side5 ?side6 A4.out).mono ?_); (case side1 => repeat (first | exact HR0.out | (with_reducible refine Kd.C_alloc ?_ _) | (with_reducible refine Kd.C_drewN ?_ _) | (with_reducible refine Kd.C_drew ?_))); (case side2 => exact HC0.out); (case side3 => repeat (first | exact HR1.out | (with_reducible refine Kd.C_alloc ?_ _) | (with_reducible refine Kd.C_drewN ?_ _) | (with_reducible refine Kd.C_drew ?_))); (case side4 => exact HC1.out); (case side5 => repeat (first | exact HR2.out | (with_reducible refine Kd.C_alloc ?_ _) | (with_reducible refine Kd.C_drewN ?_ _) | (with_reducible refine Kd.C_drew ?_))); (case side6 => exact HC2.out); rintro e w9 ⟨rfl, hb⟩; refine ⟨_, rfl, ?_⟩; have n0_ := Aside0.mk (below_step (by repeat (first | (with_reducible first | exact HB.out | apply below_alloc | apply pw_below_drewN | apply below_drew1) | exact HB.out)) hb); clear HB; have HB := n0_; clear n0_; (try clear hb); (try clear hb2); (try clear hk); (try clear hi)) | ((with_reducible refine gate_callee (f := 16) rfl ?_); refine goesL_ (some 36) rfl rfl Try.func16 (by kernel_rfl) rfl #[.slice A0 l0.length c0] rfl (by (try simp only [List.map_toArray, List.map_cons, List.map_nil]); first | done | rfl | (simp only [List.length_drop, List.length_take]; rfl)) ?_; (with_reducible refine (flat_Notes.calls k _ _ l0 t309 t310 _ ?side1 ?side2 A6.out).mono ?_); (case side1 => repeat (first | exact (Kd.C_below HR0.out HB.out) | (with_reducible refine Kd.C_alloc ?_ _) | (with_reducible refine Kd.C_drewN ?_ _) | (with_reducible refine Kd.C_drew ?_))); (case side2 => exact HC0.out); rintro e w10 ⟨rfl, hb⟩; refine ⟨_, rfl, ?_⟩; have n0_ := Aside0.mk (below_step (by repeat (first | (with_reducible first | exact HB.out | apply below_alloc | apply pw_below_drewN | apply below_drew1) | exact HB.out)) hb); clear HB; have HB := n0_; clear n0_; (try clear hb); (try clear hb2); (try clear hk); (try clear hi)) | ((with_reducible refine gate_callee (f := 17) rfl ?_); refine goesL_ (some 41) rfl rfl Try.func17 (by kernel_rfl) rfl #[.slice A1 l1.length c1] rfl (by (try simp only [List.map_toArray, List.map_cons, List.map_nil]); first | done | rfl | (simp only [List.length_drop, List.length_take]; rfl)) ?_; (with_reducible refine (flat_Pairs.calls k _ _ l1 t311 t312 _ ?side1 ?side2 A7.out).mono ?_); (case side1 => repeat (first | exact (Kd.C_below HR1.out HB.out) | (with_reducible refine Kd.C_alloc ?_ _) | (with_reducible refine Kd.C_drewN ?_ _) | (with_reducible refine Kd.C_drew ?_))); (case side2 => exact HC1.out); rintro e w11 ⟨rfl, hb⟩; refine ⟨_, rfl, ?_⟩; have n0_ := Aside0.mk (below_step (by repeat (first | (with_reducible first | exact HB.out | apply below_alloc | apply pw_below_drewN | apply below_drew1) | exact HB.out)) hb); clear HB; have HB := n0_; clear n0_; (try clear hb); (try clear hb2); (try clear hk); (try clear hi)) | ((with_reducible refine gate_callee (f := 18) rfl ?_); refine goesL_ (some 46) rfl rfl Try.func18 (by kernel_rfl) rfl #[.slice A2 l2.length c2] rfl (by (try simp only [List.map_toArray, List.map_cons, List.map_nil]); first | done | rfl | (simp only [List.length_drop, List.length_take]; rfl)) ?_; (with_reducible refine (flat_Changes.calls k _ _ l2 t313 t314 _ ?side1 ?side2 A8.out).mono ?_); (case side1 => repeat (first | exact (Kd.C_below HR2.out HB.out) | (with_reducible refine Kd.C_alloc ?_ _) | (with_reducible refine Kd.C_drewN ?_ _) | (with_reducible refine Kd.C_drew ?_))); (case side2 => exact HC2.out); rintro e w12 ⟨rfl, hb⟩; refine ⟨_, rfl, ?_⟩; have n0_ := Aside0.mk (below_step (by repeat (first | (with_reducible first | exact HB.out | apply below_alloc | apply pw_below_drewN | apply below_drew1) | exact HB.out)) hb); clear HB; have HB := n0_; clear n0_; (try clear hb); (try clear hb2); (try clear hk); (try clear hi)))
    go_loopg [13, 51] k (fun kq v13 v51 w' => ∃ (x13_1 : ByteArray) (x51_1 : Int), v13 = .string x13_1 ∧ v51 = .int .i64 x51_1 ∧ Aside0 (weirkeeperlaw13_FlatJoins.l0 kq l0 l1 l2 t309 t310 t311 t312 t313 t314 x13_1 (⟨#[]⟩ : ByteArray) (⟨#[]⟩ : ByteArray) l0 (l0.length : Int) x51_1 = some true) ∧ Aside0 (kq ≤ k) ∧ Aside0 (Below w.heap.size w w'))
    case atStart => exact ⟨((⟨#[]⟩ : ByteArray)), (0), (by first | rfl | (simp; done) | (simp [*]; done)), (by first | rfl | (simp; done) | (simp [*]; done)), H', ⟨Nat.le_refl _⟩, ⟨by repeat (first | (with_reducible first | exact HB.out | apply below_alloc | apply pw_below_drewN | apply below_drew1) | exact HB.out)⟩⟩
    case round =>
      clear H'
      try clear c1
      try clear c2
      try clear p2
      try clear c4
      try clear c5
      obtain ⟨x13_1, x51_1, rfl, rfl, HA, HK1, HB⟩ := hrel
      cases gk with
      | zero => exact absurd HA.out (by simp [weirkeeperlaw13_FlatJoins.l0])
      | succ k1 =>
        have H := HA.out
        clear HA
        simp only [weirkeeperlaw13_FlatJoins.l0] at H
        by_cases c13 : x51_1 < (l0.length : Int)
        · rw [if_pos c13] at H
          have c13b0 : decide (x51_1 < (l0.length : Int)) = true := decide_eq_true c13
          clear c13
          by_cases c14 : 0 ≤ x51_1
          · rw [if_pos c14] at H
            have c14b0 : decide (0 ≤ x51_1) = true := decide_eq_true c14
            clear c14
            by_cases c15 : x51_1 < (l0.length : Int)
            · rw [if_pos c15] at H
              have c15b0 : decide (x51_1 < (l0.length : Int)) = true := decide_eq_true c15
              clear c15
              obtain ⟨y317, hy317⟩ : ∃ y_ : List (S48), y_ = (([(⟨(rd_T48 l0 x51_1).f0, (rd_T48 l0 x51_1).f1, (rd_T48 l0 x51_1).f2, (rd_T48 l0 x51_1).f3⟩ : S48)] : List (S48))) := ⟨_, rfl⟩
              replace H : ((flat_Notes.f k1 y317).bind fun bt320 => (if 0 ≤ (mn 2 (bt320.1.size : Int)) then (if (mn 2 (bt320.1.size : Int)) ≤ (bt320.1.size : Int) then (if x13_1.size + (bt320.1.extract ((mn 2 (bt320.1.size : Int)) : Int).toNat bt320.1.size).size ≤ 9223372036854775807 then (weirkeeperlaw13_FlatJoins.l0 k1 l0 l1 l2 t309 t310 t311 t312 t313 t314 (x13_1 ++ (bt320.1.extract ((mn 2 (bt320.1.size : Int)) : Int).toNat bt320.1.size)) (⟨#[]⟩ : ByteArray) (⟨#[]⟩ : ByteArray) l0 (l0.length : Int) (wrap64 (x51_1 + 1))) else (none)) else (none)) else (none))) = some true := by first | (rw [hy317]; with_reducible exact H) | (have H2_ := (Option.bind_some _ _).symm.trans H; rw [hy317]; with_reducible exact H2_) | (have H2_ := (Option.bind_some _ _).symm.trans H; with_reducible exact H2_) | with_reducible exact H | (rw [hy317]; exact H) | exact H
              have Ny317 := Aside0.mk hy317
              clear hy317
              replace H := Option.bind_eq_some_iff.mp H
              obtain ⟨⟨t320, t321⟩, A160, H⟩ := H
              replace H : (if 0 ≤ (mn 2 (t320.size : Int)) then (if (mn 2 (t320.size : Int)) ≤ (t320.size : Int) then (if x13_1.size + (t320.extract ((mn 2 (t320.size : Int)) : Int).toNat t320.size).size ≤ 9223372036854775807 then (weirkeeperlaw13_FlatJoins.l0 k1 l0 l1 l2 t309 t310 t311 t312 t313 t314 (x13_1 ++ (t320.extract ((mn 2 (t320.size : Int)) : Int).toNat t320.size)) (⟨#[]⟩ : ByteArray) (⟨#[]⟩ : ByteArray) l0 (l0.length : Int) (wrap64 (x51_1 + 1))) else (none)) else (none)) else (none)) = some true := H
              have A16 := Aside0.mk A160
              clear A160
              obtain ⟨ji17, hji17⟩ : ∃ j_ : Int, (mn 2 (t320.size : Int)) = j_ := ⟨_, rfl⟩
              replace H : (if 0 ≤ (ji17) then (if (ji17) ≤ (t320.size : Int) then (if x13_1.size + (t320.extract ((ji17) : Int).toNat t320.size).size ≤ 9223372036854775807 then (weirkeeperlaw13_FlatJoins.l0 k1 l0 l1 l2 t309 t310 t311 t312 t313 t314 (x13_1 ++ (t320.extract ((ji17) : Int).toNat t320.size)) (⟨#[]⟩ : ByteArray) (⟨#[]⟩ : ByteArray) l0 (l0.length : Int) (wrap64 (x51_1 + 1))) else (none)) else (none)) else (none)) = some true := by first | (rw [hji17] at H; exact H) | (simp only [hji17] at H ⊢; exact H)
              (try rw [hji17] at A16)
              (try (have hji17h : ji17 ≤ 2 := by (rw [← hji17]; unfold mn; (repeat' split) <;> omega)))
              (try (have hji17g : ji17 ≤ 64 := by omega))
              (try (have hji17l : 0 ≤ ji17 := by (rw [← hji17]; unfold mn; (repeat' split) <;> omega)))
              (try (have hji17m : 0 ≤ ji17 := by omega))
              have hji17_ : (if (t320.size : Int) < 2 then (t320.size : Int) else 2) = ji17 := hji17
              by_cases c18 : 0 ≤ (ji17)
              · rw [if_pos c18] at H
                have c18b0 := eq_true c18
                have c18b1 : decide (0 ≤ (ji17)) = true := decide_eq_true c18
                clear c18
                by_cases c19 : (ji17) ≤ (t320.size : Int)
                · rw [if_pos c19] at H
                  have c19b0 := eq_true c19
                  have c19b1 : decide ((ji17) ≤ (t320.size : Int)) = true := decide_eq_true c19
                  clear c19
                  by_cases c20 : x13_1.size + (t320.extract ((ji17) : Int).toNat t320.size).size ≤ 9223372036854775807
                  · rw [if_pos c20] at H
                    have c20b0 := eq_true c20
                    have c20b1 : decide (x13_1.size + (t320.extract ((ji17) : Int).toNat t320.size).size ≤ 9223372036854775807) = true := decide_eq_true c20
                    try have c20b2 : (9223372036854775807 < x13_1.size + (t320.extract ((ji17) : Int).toNat t320.size).size) = False := eq_false (Nat.not_lt.2 c20)
                    clear c20
                    try (have c20b9 := c20b2; simp only [ByteArray.size_append, ByteArray.size_extract, Nat.min_self] at c20b9)
                    have H' := Aside0.mk H
                    clear H
                    have p315 : 0 ≤ (x51_1 : Int) := of_decide_eq_true (by first | (with_reducible assumption) | assumption)
                    have q315 : x51_1 < (l0.length : Int) := of_decide_eq_true (by first | (with_reducible assumption) | assumption)
                    obtain ⟨ad315, e315, hx315_0, hx315_1, hx315_2, hx315_3⟩ := at_T48 HR0.out x51_1 p315 q315
                    cases e315
                    replace hx315_0 := (HB.out.cell (World.block_lt_of_cell? w _ hx315_0)).trans hx315_0
                    replace hx315_1 := (HB.out.cell (World.block_lt_of_cell? w _ hx315_1)).trans hx315_1
                    replace hx315_2 := (HB.out.cell (World.block_lt_of_cell? w _ hx315_2)).trans hx315_2
                    replace hx315_3 := (HB.out.cell (World.block_lt_of_cell? w _ hx315_3)).trans hx315_3
                    replace p315 := eq_true p315
                    replace q315 := eq_true q315
                    go_wp2_with (first | ((with_reducible refine gate_dst (N := 17) rfl ?_); (try (refine gate_guard (by rfl) ?_; dsimp only)); refine box_event ?hg (N := 17) ?hd (cs := #[.int .i64 0, .string (⟨#[]⟩ : ByteArray), .string (⟨#[]⟩ : ByteArray), .int .u64 0]) (t := 48) ?hr ?_; (case hd => rfl); (case hg => rfl); (case hr => first | (go_simp; done) | (go_simp; rfl)); intro gb316 hg w21 hbox hb; have n0_ := Aside0.mk (below_step (by repeat (first | (with_reducible first | exact HB.out | apply below_alloc | apply pw_below_drewN | apply below_drew1) | exact HB.out)) hb); have n1_ := Aside0.mk (hbox); have n2_ := Aside0.mk ((by rw [hg]; exact (below_size (by repeat (first | (with_reducible first | exact HB.out | apply below_alloc | apply pw_below_drewN | apply below_drew1) | exact HB.out))) : w.heap.size ≤ gb316)); have n3_ := Aside0.mk ((by rw [hg]; exact (below_size (by repeat (first | (with_reducible first | exact HB.out | apply below_alloc | apply pw_below_drewN | apply below_drew1) | exact HB.out))) : w.heap.size ≤ gb316)); clear HB; have HB := n0_; have BK316 := n1_; have GW316 := n2_; have GE316 := n3_; clear n0_ n1_ n2_ n3_; clear hb hbox hg; have hcz22_0 : w21.cell? ⟨gb316, 0, none⟩ = some (.int .i64 0) := (blk_cell BK316.out 0).trans rfl; have hcz22_1 : w21.cell? ⟨gb316, 1, none⟩ = some (.string (⟨#[]⟩ : ByteArray)) := (blk_cell BK316.out 1).trans rfl; have hcz22_2 : w21.cell? ⟨gb316, 2, none⟩ = some (.string (⟨#[]⟩ : ByteArray)) := (blk_cell BK316.out 2).trans rfl; have hcz22_3 : w21.cell? ⟨gb316, 3, none⟩ = some (.int .u64 0) := (blk_cell BK316.out 3).trans rfl; have hfz22_0 := blk_frozen BK316.out 0; have hfz22_1 := blk_frozen BK316.out 1; have hfz22_2 := blk_frozen BK316.out 2; have hfz22_3 := blk_frozen BK316.out 3) | ((with_reducible refine gate_dst (N := 57) rfl ?_); (try (refine gate_guard (by rfl) ?_; dsimp only)); refine Kd.R_lit k48 _ 48 ?hg (N := 57) ?hd (xs := ([(⟨(rd_T48 l0 x51_1).f0, (rd_T48 l0 x51_1).f1, (rd_T48 l0 x51_1).f2, (rd_T48 l0 x51_1).f3⟩ : S48)] : List (S48))) (inner := [.int .i64 ((rd_T48 l0 x51_1).f0), .string ((rd_T48 l0 x51_1).f1), .string ((rd_T48 l0 x51_1).f2), .int .u64 ((rd_T48 l0 x51_1).f3)]) (ok := fun _ => True) (okp := fun _ => True) ?hr ?hp (fun _ hk => hk) trivial (Below.refl _ _) (Nat.le_refl _) (by simp) ?_; (case hd => rfl); (case hg => rfl); (case hr => first | (go_simp; done) | (go_simp; rfl)); (case hp => exact (Reps.c4 (show Kd.M k48 _ _ _ (⟨(rd_T48 l0 x51_1).f0, (rd_T48 l0 x51_1).f1, (rd_T48 l0 x51_1).f2, (rd_T48 l0 x51_1).f3⟩ : S48) [.int .i64 ((rd_T48 l0 x51_1).f0), .string ((rd_T48 l0 x51_1).f1), .string ((rd_T48 l0 x51_1).f2), .int .u64 ((rd_T48 l0 x51_1).f3)] from (k48_mkM _ _ _ (⟨(rd_T48 l0 x51_1).f0, (rd_T48 l0 x51_1).f1, (rd_T48 l0 x51_1).f2, (rd_T48 l0 x51_1).f3⟩ : S48) )) (Reps.none _ _))); intro v318 w23 ho24 hb hg_ hnew_; clear hg_ hnew_; (first | rw [← Ny317.out] at ho24 | (simp only [Int.reduceToNat] at ho24; rw [← Ny317.out] at ho24)); have n0_ := Aside0.mk (Kd.R_lower (Kd.R_newB ho24 (g := gb316) (o := .cells #[.int .i64 ((rd_T48 l0 x51_1).f0), .string ((rd_T48 l0 x51_1).f1), .string ((rd_T48 l0 x51_1).f2), .int .u64 ((rd_T48 l0 x51_1).f3)] 48 (0, 0)) (by (with_reducible repeat (first | refine blk_drewN ?_ _ | refine blk_drew ?_ | refine blk_alloc ?_ _)); refine blk_put (cs := #[.int .i64 ((rd_T48 l0 x51_1).f0), .string ((rd_T48 l0 x51_1).f1), .string ((rd_T48 l0 x51_1).f2), .int .u64 0]) ?_ 3 _ rfl; (with_reducible repeat (first | refine blk_drewN ?_ _ | refine blk_drew ?_ | refine blk_alloc ?_ _)); refine blk_put (cs := #[.int .i64 ((rd_T48 l0 x51_1).f0), .string ((rd_T48 l0 x51_1).f1), .string (⟨#[]⟩ : ByteArray), .int .u64 0]) ?_ 2 _ rfl; (with_reducible repeat (first | refine blk_drewN ?_ _ | refine blk_drew ?_ | refine blk_alloc ?_ _)); refine blk_put (cs := #[.int .i64 ((rd_T48 l0 x51_1).f0), .string (⟨#[]⟩ : ByteArray), .string (⟨#[]⟩ : ByteArray), .int .u64 0]) ?_ 1 _ rfl; (with_reducible repeat (first | refine blk_drewN ?_ _ | refine blk_drew ?_ | refine blk_alloc ?_ _)); refine blk_put (cs := #[.int .i64 0, .string (⟨#[]⟩ : ByteArray), .string (⟨#[]⟩ : ByteArray), .int .u64 0]) ?_ 0 _ rfl; (with_reducible repeat (first | refine blk_drewN ?_ _ | refine blk_drew ?_ | refine blk_alloc ?_ _)); exact BK316.out)) (below_size (by repeat (first | (with_reducible first | exact HB.out | apply below_alloc | apply pw_below_drewN | apply below_drew1 | refine below_set ?_ GE316.out) | exact HB.out)))); have n1_ := Aside0.mk (blk_below (g := gb316) (o := .cells #[.int .i64 ((rd_T48 l0 x51_1).f0), .string ((rd_T48 l0 x51_1).f1), .string ((rd_T48 l0 x51_1).f2), .int .u64 ((rd_T48 l0 x51_1).f3)] 48 (0, 0)) (by (with_reducible repeat (first | refine blk_drewN ?_ _ | refine blk_drew ?_ | refine blk_alloc ?_ _)); refine blk_put (cs := #[.int .i64 ((rd_T48 l0 x51_1).f0), .string ((rd_T48 l0 x51_1).f1), .string ((rd_T48 l0 x51_1).f2), .int .u64 0]) ?_ 3 _ rfl; (with_reducible repeat (first | refine blk_drewN ?_ _ | refine blk_drew ?_ | refine blk_alloc ?_ _)); refine blk_put (cs := #[.int .i64 ((rd_T48 l0 x51_1).f0), .string ((rd_T48 l0 x51_1).f1), .string (⟨#[]⟩ : ByteArray), .int .u64 0]) ?_ 2 _ rfl; (with_reducible repeat (first | refine blk_drewN ?_ _ | refine blk_drew ?_ | refine blk_alloc ?_ _)); refine blk_put (cs := #[.int .i64 ((rd_T48 l0 x51_1).f0), .string (⟨#[]⟩ : ByteArray), .string (⟨#[]⟩ : ByteArray), .int .u64 0]) ?_ 1 _ rfl; (with_reducible repeat (first | refine blk_drewN ?_ _ | refine blk_drew ?_ | refine blk_alloc ?_ _)); refine blk_put (cs := #[.int .i64 0, .string (⟨#[]⟩ : ByteArray), .string (⟨#[]⟩ : ByteArray), .int .u64 0]) ?_ 0 _ rfl; (with_reducible repeat (first | refine blk_drewN ?_ _ | refine blk_drew ?_ | refine blk_alloc ?_ _)); exact BK316.out) hb); have n2_ := Aside0.mk (below_step (by repeat (first | (with_reducible first | exact HB.out | apply below_alloc | apply pw_below_drewN | apply below_drew1 | refine below_set ?_ GE316.out) | exact HB.out)) hb); clear BK316; clear HB; have HO319 := n0_; have BK316 := n1_; have HB := n2_; clear n0_ n1_ n2_; clear hb ho24; obtain ⟨Ao25, co25, eo25⟩ := Kd.R_slice HO319.out; subst eo25) | ((with_reducible refine gate_callee (f := 16) rfl ?_); refine goesL_ (some 58) rfl rfl Try.func16 (by kernel_rfl) rfl #[.slice Ao25 y317.length co25] rfl (by (try simp only [List.map_toArray, List.map_cons, List.map_nil]); first | done | rfl | (simp only [List.length_drop, List.length_take]; rfl)) ?_; (with_reducible refine (flat_Notes.calls k1 _ _ y317 t320 t321 _ ?side1 ?side2 A16.out).mono ?_); (case side1 => repeat (first | exact (Kd.R_reads' HO319.out).2.2 | (with_reducible refine Kd.C_alloc ?_ _) | (with_reducible refine Kd.C_drewN ?_ _) | (with_reducible refine Kd.C_drew ?_))); (case side2 => exact (Kd.R_reads' HO319.out).2.1); rintro e w26 ⟨rfl, hb⟩; refine ⟨_, rfl, ?_⟩; have n0_ := Aside0.mk (Kd.R_below (by (with_reducible repeat (first | apply Kd.R_alloc | apply Kd.R_drewN | apply Kd.R_drew)); exact HO319.out) hb); have n1_ := Aside0.mk (blk_below (g := gb316) (o := .cells #[.int .i64 ((rd_T48 l0 x51_1).f0), .string ((rd_T48 l0 x51_1).f1), .string ((rd_T48 l0 x51_1).f2), .int .u64 ((rd_T48 l0 x51_1).f3)] 48 (0, 0)) (by (with_reducible repeat (first | refine blk_drewN ?_ _ | refine blk_drew ?_ | refine blk_alloc ?_ _)); exact BK316.out) hb); have n2_ := Aside0.mk (below_step (by repeat (first | (with_reducible first | exact HB.out | apply below_alloc | apply pw_below_drewN | apply below_drew1 | refine below_set ?_ GE316.out) | exact HB.out)) hb); clear HO319; clear BK316; clear HB; have HO319 := n0_; have BK316 := n1_; have HB := n2_; clear n0_ n1_ n2_; (try clear hb); (try clear hb2); (try clear hk); (try clear hi)))
                    go_roundg k1
                    case measure => have := HK1.out; omega
                    case rel => exact ⟨(x13_1 ++ (t320.extract ((ji17) : Int).toNat t320.size)), (wrap64 (x51_1 + 1)), (by first | rfl | (simp; done) | (simp only [← hji17] <;> (first | rfl | simp)) | (simp [*]; done)), (by first | rfl | (simp; done) | (simp [*]; done)), H', ⟨by have := HK1.out; omega⟩, ⟨by repeat (first | (with_reducible first | exact HB.out | apply below_alloc | apply pw_below_drewN | apply below_drew1 | refine below_set ?_ GE316.out) | exact HB.out)⟩⟩
                  · rw [if_neg c20] at H
                    exact absurd H (by simp)
                · rw [if_neg c19] at H
                  exact absurd H (by simp)
              · rw [if_neg c18] at H
                exact absurd H (by simp)
            · rw [if_neg c15] at H
              exact absurd H (by simp)
          · rw [if_neg c14] at H
            exact absurd H (by simp)
        · rw [if_neg c13] at H
          have c13b0 : decide (x51_1 < (l0.length : Int)) = false := decide_eq_false c13
          clear c13
          have H' := Aside0.mk H
          clear H
          go_wp2
          go_loopg [14, 71] k1 (fun kq v14 v71 w' => ∃ (x14_2 : ByteArray) (x71_2 : Int), v14 = .string x14_2 ∧ v71 = .int .i64 x71_2 ∧ Aside0 (weirkeeperlaw13_FlatJoins.l1 kq l0 l1 l2 t309 t310 t311 t312 t313 t314 x13_1 x14_2 (⟨#[]⟩ : ByteArray) l1 (l1.length : Int) x71_2 = some true) ∧ Aside0 (kq ≤ k1) ∧ Aside0 (Below w.heap.size w w'))
          case atStart => exact ⟨((⟨#[]⟩ : ByteArray)), (0), (by first | rfl | (simp; done) | (simp [*]; done)), (by first | rfl | (simp; done) | (simp [*]; done)), H', ⟨Nat.le_refl _⟩, ⟨by repeat (first | (with_reducible first | exact HB.out | apply below_alloc | apply pw_below_drewN | apply below_drew1) | exact HB.out)⟩⟩
          case round =>
            clear H'
            try clear c1
            try clear c2
            try clear p2
            try clear p3
            try clear q3
            try clear hx3
            try clear c4
            try clear c5
            try clear p6
            try clear c13
            try clear c13b0
            try clear c14
            try clear c14b0
            try clear c15
            try clear c15b0
            try clear c16
            try clear c17
            try clear c18
            try clear c18b0
            try clear c18b1
            try clear c19
            try clear c19b0
            try clear c19b1
            try clear c20
            try clear c20b0
            try clear c20b1
            try clear c20b2
            try clear hcz22_0
            try clear hcz22_1
            try clear hcz22_2
            try clear hcz22_3
            try clear hfz22_0
            try clear hfz22_1
            try clear hfz22_2
            try clear hfz22_3
            try clear hx315_0
            try clear hx315_1
            try clear hx315_2
            try clear hx315_3
            try clear p2
            try clear p315
            try clear q315
            obtain ⟨x14_2, x71_2, rfl, rfl, HA, HK2, HB⟩ := hrel
            cases gk with
            | zero => exact absurd HA.out (by simp [weirkeeperlaw13_FlatJoins.l1])
            | succ k2 =>
              have H := HA.out
              clear HA
              simp only [weirkeeperlaw13_FlatJoins.l1] at H
              by_cases c27 : x71_2 < (l1.length : Int)
              · rw [if_pos c27] at H
                have c27b0 : decide (x71_2 < (l1.length : Int)) = true := decide_eq_true c27
                clear c27
                by_cases c28 : 0 ≤ x71_2
                · rw [if_pos c28] at H
                  have c28b0 : decide (0 ≤ x71_2) = true := decide_eq_true c28
                  clear c28
                  by_cases c29 : x71_2 < (l1.length : Int)
                  · rw [if_pos c29] at H
                    have c29b0 : decide (x71_2 < (l1.length : Int)) = true := decide_eq_true c29
                    clear c29
                    obtain ⟨y324, hy324⟩ : ∃ y_ : List (S50), y_ = (([(⟨(rd_T50 l1 x71_2).f0, (rd_T50 l1 x71_2).f1⟩ : S50)] : List (S50))) := ⟨_, rfl⟩
                    replace H : ((flat_Pairs.f k2 y324).bind fun bt327 => (if 0 ≤ (mn 2 (bt327.1.size : Int)) then (if (mn 2 (bt327.1.size : Int)) ≤ (bt327.1.size : Int) then (if x14_2.size + (bt327.1.extract ((mn 2 (bt327.1.size : Int)) : Int).toNat bt327.1.size).size ≤ 9223372036854775807 then (weirkeeperlaw13_FlatJoins.l1 k2 l0 l1 l2 t309 t310 t311 t312 t313 t314 x13_1 (x14_2 ++ (bt327.1.extract ((mn 2 (bt327.1.size : Int)) : Int).toNat bt327.1.size)) (⟨#[]⟩ : ByteArray) l1 (l1.length : Int) (wrap64 (x71_2 + 1))) else (none)) else (none)) else (none))) = some true := by first | (rw [hy324]; with_reducible exact H) | (have H2_ := (Option.bind_some _ _).symm.trans H; rw [hy324]; with_reducible exact H2_) | (have H2_ := (Option.bind_some _ _).symm.trans H; with_reducible exact H2_) | with_reducible exact H | (rw [hy324]; exact H) | exact H
                    have Ny324 := Aside0.mk hy324
                    clear hy324
                    replace H := Option.bind_eq_some_iff.mp H
                    obtain ⟨⟨t327, t328⟩, A300, H⟩ := H
                    replace H : (if 0 ≤ (mn 2 (t327.size : Int)) then (if (mn 2 (t327.size : Int)) ≤ (t327.size : Int) then (if x14_2.size + (t327.extract ((mn 2 (t327.size : Int)) : Int).toNat t327.size).size ≤ 9223372036854775807 then (weirkeeperlaw13_FlatJoins.l1 k2 l0 l1 l2 t309 t310 t311 t312 t313 t314 x13_1 (x14_2 ++ (t327.extract ((mn 2 (t327.size : Int)) : Int).toNat t327.size)) (⟨#[]⟩ : ByteArray) l1 (l1.length : Int) (wrap64 (x71_2 + 1))) else (none)) else (none)) else (none)) = some true := H
                    have A30 := Aside0.mk A300
                    clear A300
                    obtain ⟨ji31, hji31⟩ : ∃ j_ : Int, (mn 2 (t327.size : Int)) = j_ := ⟨_, rfl⟩
                    replace H : (if 0 ≤ (ji31) then (if (ji31) ≤ (t327.size : Int) then (if x14_2.size + (t327.extract ((ji31) : Int).toNat t327.size).size ≤ 9223372036854775807 then (weirkeeperlaw13_FlatJoins.l1 k2 l0 l1 l2 t309 t310 t311 t312 t313 t314 x13_1 (x14_2 ++ (t327.extract ((ji31) : Int).toNat t327.size)) (⟨#[]⟩ : ByteArray) l1 (l1.length : Int) (wrap64 (x71_2 + 1))) else (none)) else (none)) else (none)) = some true := by first | (rw [hji31] at H; exact H) | (simp only [hji31] at H ⊢; exact H)
                    (try rw [hji31] at A30)
                    (try (have hji31h : ji31 ≤ 2 := by (rw [← hji31]; unfold mn; (repeat' split) <;> omega)))
                    (try (have hji31g : ji31 ≤ 64 := by omega))
                    (try (have hji31l : 0 ≤ ji31 := by (rw [← hji31]; unfold mn; (repeat' split) <;> omega)))
                    (try (have hji31m : 0 ≤ ji31 := by omega))
                    have hji31_ : (if (t327.size : Int) < 2 then (t327.size : Int) else 2) = ji31 := hji31
                    by_cases c32 : 0 ≤ (ji31)
                    · rw [if_pos c32] at H
                      have c32b0 := eq_true c32
                      have c32b1 : decide (0 ≤ (ji31)) = true := decide_eq_true c32
                      clear c32
                      by_cases c33 : (ji31) ≤ (t327.size : Int)
                      · rw [if_pos c33] at H
                        have c33b0 := eq_true c33
                        have c33b1 : decide ((ji31) ≤ (t327.size : Int)) = true := decide_eq_true c33
                        clear c33
                        by_cases c34 : x14_2.size + (t327.extract ((ji31) : Int).toNat t327.size).size ≤ 9223372036854775807
                        · rw [if_pos c34] at H
                          have c34b0 := eq_true c34
                          have c34b1 : decide (x14_2.size + (t327.extract ((ji31) : Int).toNat t327.size).size ≤ 9223372036854775807) = true := decide_eq_true c34
                          try have c34b2 : (9223372036854775807 < x14_2.size + (t327.extract ((ji31) : Int).toNat t327.size).size) = False := eq_false (Nat.not_lt.2 c34)
                          clear c34
                          try (have c34b9 := c34b2; simp only [ByteArray.size_append, ByteArray.size_extract, Nat.min_self] at c34b9)
                          have H' := Aside0.mk H
                          clear H
                          have p322 : 0 ≤ (x71_2 : Int) := of_decide_eq_true (by first | (with_reducible assumption) | assumption)
                          have q322 : x71_2 < (l1.length : Int) := of_decide_eq_true (by first | (with_reducible assumption) | assumption)
                          obtain ⟨ad322, e322, hx322_0, hx322_1⟩ := at_T50 HR1.out x71_2 p322 q322
                          cases e322
                          replace hx322_0 := (HB.out.cell (World.block_lt_of_cell? w _ hx322_0)).trans hx322_0
                          replace hx322_1 := (HB.out.cell (World.block_lt_of_cell? w _ hx322_1)).trans hx322_1
                          replace p322 := eq_true p322
                          replace q322 := eq_true q322
                          go_wp2_with (first | ((with_reducible refine gate_dst (N := 21) rfl ?_); (try (refine gate_guard (by rfl) ?_; dsimp only)); refine box_event ?hg (N := 21) ?hd (cs := #[.string (⟨#[]⟩ : ByteArray), .string (⟨#[]⟩ : ByteArray)]) (t := 50) ?hr ?_; (case hd => rfl); (case hg => rfl); (case hr => first | (go_simp; done) | (go_simp; rfl)); intro gb323 hg w35 hbox hb; have n0_ := Aside0.mk (below_step (by repeat (first | (with_reducible first | exact HB.out | apply below_alloc | apply pw_below_drewN | apply below_drew1) | exact HB.out)) hb); have n1_ := Aside0.mk (hbox); have n2_ := Aside0.mk ((by rw [hg]; exact (below_size (by repeat (first | (with_reducible first | exact HB.out | apply below_alloc | apply pw_below_drewN | apply below_drew1) | exact HB.out))) : w.heap.size ≤ gb323)); have n3_ := Aside0.mk ((by rw [hg]; exact (below_size (by repeat (first | (with_reducible first | exact HB.out | apply below_alloc | apply pw_below_drewN | apply below_drew1) | exact HB.out))) : w.heap.size ≤ gb323)); clear HB; have HB := n0_; have BK323 := n1_; have GW323 := n2_; have GE323 := n3_; clear n0_ n1_ n2_ n3_; clear hb hbox hg; have hcz36_0 : w35.cell? ⟨gb323, 0, none⟩ = some (.string (⟨#[]⟩ : ByteArray)) := (blk_cell BK323.out 0).trans rfl; have hcz36_1 : w35.cell? ⟨gb323, 1, none⟩ = some (.string (⟨#[]⟩ : ByteArray)) := (blk_cell BK323.out 1).trans rfl; have hfz36_0 := blk_frozen BK323.out 0; have hfz36_1 := blk_frozen BK323.out 1) | ((with_reducible refine gate_dst (N := 77) rfl ?_); (try (refine gate_guard (by rfl) ?_; dsimp only)); refine Kd.R_lit k50 _ 50 ?hg (N := 77) ?hd (xs := ([(⟨(rd_T50 l1 x71_2).f0, (rd_T50 l1 x71_2).f1⟩ : S50)] : List (S50))) (inner := [.string ((rd_T50 l1 x71_2).f0), .string ((rd_T50 l1 x71_2).f1)]) (ok := fun _ => True) (okp := fun _ => True) ?hr ?hp (fun _ hk => hk) trivial (Below.refl _ _) (Nat.le_refl _) (by simp) ?_; (case hd => rfl); (case hg => rfl); (case hr => first | (go_simp; done) | (go_simp; rfl)); (case hp => exact (Reps.c2 (show Kd.M k50 _ _ _ (⟨(rd_T50 l1 x71_2).f0, (rd_T50 l1 x71_2).f1⟩ : S50) [.string ((rd_T50 l1 x71_2).f0), .string ((rd_T50 l1 x71_2).f1)] from (k50_mkM _ _ _ (⟨(rd_T50 l1 x71_2).f0, (rd_T50 l1 x71_2).f1⟩ : S50) )) (Reps.none _ _))); intro v325 w37 ho38 hb hg_ hnew_; clear hg_ hnew_; (first | rw [← Ny324.out] at ho38 | (simp only [Int.reduceToNat] at ho38; rw [← Ny324.out] at ho38)); have n0_ := Aside0.mk (Kd.R_lower (Kd.R_newB ho38 (g := gb323) (o := .cells #[.string ((rd_T50 l1 x71_2).f0), .string ((rd_T50 l1 x71_2).f1)] 50 (0, 0)) (by (with_reducible repeat (first | refine blk_drewN ?_ _ | refine blk_drew ?_ | refine blk_alloc ?_ _)); refine blk_put (cs := #[.string ((rd_T50 l1 x71_2).f0), .string (⟨#[]⟩ : ByteArray)]) ?_ 1 _ rfl; (with_reducible repeat (first | refine blk_drewN ?_ _ | refine blk_drew ?_ | refine blk_alloc ?_ _)); refine blk_put (cs := #[.string (⟨#[]⟩ : ByteArray), .string (⟨#[]⟩ : ByteArray)]) ?_ 0 _ rfl; (with_reducible repeat (first | refine blk_drewN ?_ _ | refine blk_drew ?_ | refine blk_alloc ?_ _)); exact BK323.out)) (below_size (by repeat (first | (with_reducible first | exact HB.out | apply below_alloc | apply pw_below_drewN | apply below_drew1 | refine below_set ?_ GE323.out) | exact HB.out)))); have n1_ := Aside0.mk (blk_below (g := gb323) (o := .cells #[.string ((rd_T50 l1 x71_2).f0), .string ((rd_T50 l1 x71_2).f1)] 50 (0, 0)) (by (with_reducible repeat (first | refine blk_drewN ?_ _ | refine blk_drew ?_ | refine blk_alloc ?_ _)); refine blk_put (cs := #[.string ((rd_T50 l1 x71_2).f0), .string (⟨#[]⟩ : ByteArray)]) ?_ 1 _ rfl; (with_reducible repeat (first | refine blk_drewN ?_ _ | refine blk_drew ?_ | refine blk_alloc ?_ _)); refine blk_put (cs := #[.string (⟨#[]⟩ : ByteArray), .string (⟨#[]⟩ : ByteArray)]) ?_ 0 _ rfl; (with_reducible repeat (first | refine blk_drewN ?_ _ | refine blk_drew ?_ | refine blk_alloc ?_ _)); exact BK323.out) hb); have n2_ := Aside0.mk (below_step (by repeat (first | (with_reducible first | exact HB.out | apply below_alloc | apply pw_below_drewN | apply below_drew1 | refine below_set ?_ GE323.out) | exact HB.out)) hb); clear BK323; clear HB; have HO326 := n0_; have BK323 := n1_; have HB := n2_; clear n0_ n1_ n2_; clear hb ho38; obtain ⟨Ao39, co39, eo39⟩ := Kd.R_slice HO326.out; subst eo39) | ((with_reducible refine gate_callee (f := 17) rfl ?_); refine goesL_ (some 78) rfl rfl Try.func17 (by kernel_rfl) rfl #[.slice Ao39 y324.length co39] rfl (by (try simp only [List.map_toArray, List.map_cons, List.map_nil]); first | done | rfl | (simp only [List.length_drop, List.length_take]; rfl)) ?_; (with_reducible refine (flat_Pairs.calls k2 _ _ y324 t327 t328 _ ?side1 ?side2 A30.out).mono ?_); (case side1 => repeat (first | exact (Kd.R_reads' HO326.out).2.2 | (with_reducible refine Kd.C_alloc ?_ _) | (with_reducible refine Kd.C_drewN ?_ _) | (with_reducible refine Kd.C_drew ?_))); (case side2 => exact (Kd.R_reads' HO326.out).2.1); rintro e w40 ⟨rfl, hb⟩; refine ⟨_, rfl, ?_⟩; have n0_ := Aside0.mk (Kd.R_below (by (with_reducible repeat (first | apply Kd.R_alloc | apply Kd.R_drewN | apply Kd.R_drew)); exact HO326.out) hb); have n1_ := Aside0.mk (blk_below (g := gb323) (o := .cells #[.string ((rd_T50 l1 x71_2).f0), .string ((rd_T50 l1 x71_2).f1)] 50 (0, 0)) (by (with_reducible repeat (first | refine blk_drewN ?_ _ | refine blk_drew ?_ | refine blk_alloc ?_ _)); exact BK323.out) hb); have n2_ := Aside0.mk (below_step (by repeat (first | (with_reducible first | exact HB.out | apply below_alloc | apply pw_below_drewN | apply below_drew1 | refine below_set ?_ GE323.out) | exact HB.out)) hb); clear HO326; clear BK323; clear HB; have HO326 := n0_; have BK323 := n1_; have HB := n2_; clear n0_ n1_ n2_; (try clear hb); (try clear hb2); (try clear hk); (try clear hi)))
                          go_roundg k2
                          case measure => have := HK1.out; have := HK2.out; omega
                          case rel => exact ⟨(x14_2 ++ (t327.extract ((ji31) : Int).toNat t327.size)), (wrap64 (x71_2 + 1)), (by first | rfl | (simp; done) | (simp only [← hji31] <;> (first | rfl | simp)) | (simp [*]; done)), (by first | rfl | (simp; done) | (simp [*]; done)), H', ⟨by have := HK1.out; have := HK2.out; omega⟩, ⟨by repeat (first | (with_reducible first | exact HB.out | apply below_alloc | apply pw_below_drewN | apply below_drew1 | refine below_set ?_ GE323.out) | exact HB.out)⟩⟩
                        · rw [if_neg c34] at H
                          exact absurd H (by simp)
                      · rw [if_neg c33] at H
                        exact absurd H (by simp)
                    · rw [if_neg c32] at H
                      exact absurd H (by simp)
                  · rw [if_neg c29] at H
                    exact absurd H (by simp)
                · rw [if_neg c28] at H
                  exact absurd H (by simp)
              · rw [if_neg c27] at H
                have c27b0 : decide (x71_2 < (l1.length : Int)) = false := decide_eq_false c27
                clear c27
                have H' := Aside0.mk H
                clear H
                go_wp2
                go_loopg [15, 91] k2 (fun kq v15 v91 w' => ∃ (x15_3 : ByteArray) (x91_3 : Int), v15 = .string x15_3 ∧ v91 = .int .i64 x91_3 ∧ Aside0 (weirkeeperlaw13_FlatJoins.l2 kq l0 l1 l2 t309 t310 t311 t312 t313 t314 x13_1 x14_2 x15_3 l2 (l2.length : Int) x91_3 = some true) ∧ Aside0 (kq ≤ k2) ∧ Aside0 (Below w.heap.size w w'))
                case atStart => exact ⟨((⟨#[]⟩ : ByteArray)), (0), (by first | rfl | (simp; done) | (simp [*]; done)), (by first | rfl | (simp; done) | (simp [*]; done)), H', ⟨Nat.le_refl _⟩, ⟨by repeat (first | (with_reducible first | exact HB.out | apply below_alloc | apply pw_below_drewN | apply below_drew1) | exact HB.out)⟩⟩
                case round =>
                  clear H'
                  try clear c1
                  try clear c2
                  try clear p2
                  try clear c3
                  try clear p3
                  try clear q3
                  try clear hx3
                  try clear c4
                  try clear c5
                  try clear p6
                  try clear c13
                  try clear c13b0
                  try clear c14
                  try clear c14b0
                  try clear c15
                  try clear c15b0
                  try clear c16
                  try clear c17
                  try clear c18
                  try clear c18b0
                  try clear c18b1
                  try clear c19
                  try clear c19b0
                  try clear c19b1
                  try clear c20
                  try clear c20b0
                  try clear c20b1
                  try clear c20b2
                  try clear c27
                  try clear c27b0
                  try clear c28
                  try clear c28b0
                  try clear c29
                  try clear c29b0
                  try clear p31
                  try clear q31
                  try clear hx31
                  try clear c32
                  try clear c32b0
                  try clear c32b1
                  try clear p32
                  try clear q32
                  try clear hx32
                  try clear c33
                  try clear c33b0
                  try clear c33b1
                  try clear c34
                  try clear c34b0
                  try clear c34b1
                  try clear c34b2
                  try clear hcz22_0
                  try clear hcz22_1
                  try clear hcz22_2
                  try clear hcz22_3
                  try clear hcz36_0
                  try clear hcz36_1
                  try clear hfz22_0
                  try clear hfz22_1
                  try clear hfz22_2
                  try clear hfz22_3
                  try clear hfz36_0
                  try clear hfz36_1
                  try clear hx315_0
                  try clear hx315_1
                  try clear hx315_2
                  try clear hx315_3
                  try clear hx322_0
                  try clear hx322_1
                  try clear p2
                  try clear p3
                  try clear p315
                  try clear p322
                  try clear p6
                  try clear q3
                  try clear q315
                  try clear q322
                  obtain ⟨x15_3, x91_3, rfl, rfl, HA, HK3, HB⟩ := hrel
                  cases gk with
                  | zero => exact absurd HA.out (by simp [weirkeeperlaw13_FlatJoins.l2])
                  | succ k3 =>
                    have H := HA.out
                    clear HA
                    simp only [weirkeeperlaw13_FlatJoins.l2] at H
                    by_cases c41 : x91_3 < (l2.length : Int)
                    · rw [if_pos c41] at H
                      have c41b0 : decide (x91_3 < (l2.length : Int)) = true := decide_eq_true c41
                      clear c41
                      by_cases c42 : 0 ≤ x91_3
                      · rw [if_pos c42] at H
                        have c42b0 : decide (0 ≤ x91_3) = true := decide_eq_true c42
                        clear c42
                        by_cases c43 : x91_3 < (l2.length : Int)
                        · rw [if_pos c43] at H
                          have c43b0 : decide (x91_3 < (l2.length : Int)) = true := decide_eq_true c43
                          clear c43
                          obtain ⟨y331, hy331⟩ : ∃ y_ : List (S42), y_ = (([(⟨(rd_T42 l2 x91_3).f0, (rd_T42 l2 x91_3).f1, (rd_T42 l2 x91_3).f2, (rd_T42 l2 x91_3).f3, (rd_T42 l2 x91_3).f4, (rd_T42 l2 x91_3).f5⟩ : S42)] : List (S42))) := ⟨_, rfl⟩
                          replace H : ((flat_Changes.f k3 y331).bind fun bt334 => (if 0 ≤ (mn 2 (bt334.1.size : Int)) then (if (mn 2 (bt334.1.size : Int)) ≤ (bt334.1.size : Int) then (if x15_3.size + (bt334.1.extract ((mn 2 (bt334.1.size : Int)) : Int).toNat bt334.1.size).size ≤ 9223372036854775807 then (weirkeeperlaw13_FlatJoins.l2 k3 l0 l1 l2 t309 t310 t311 t312 t313 t314 x13_1 x14_2 (x15_3 ++ (bt334.1.extract ((mn 2 (bt334.1.size : Int)) : Int).toNat bt334.1.size)) l2 (l2.length : Int) (wrap64 (x91_3 + 1))) else (none)) else (none)) else (none))) = some true := by first | (rw [hy331]; with_reducible exact H) | (have H2_ := (Option.bind_some _ _).symm.trans H; rw [hy331]; with_reducible exact H2_) | (have H2_ := (Option.bind_some _ _).symm.trans H; with_reducible exact H2_) | with_reducible exact H | (rw [hy331]; exact H) | exact H
                          have Ny331 := Aside0.mk hy331
                          clear hy331
                          replace H := Option.bind_eq_some_iff.mp H
                          obtain ⟨⟨t334, t335⟩, A440, H⟩ := H
                          replace H : (if 0 ≤ (mn 2 (t334.size : Int)) then (if (mn 2 (t334.size : Int)) ≤ (t334.size : Int) then (if x15_3.size + (t334.extract ((mn 2 (t334.size : Int)) : Int).toNat t334.size).size ≤ 9223372036854775807 then (weirkeeperlaw13_FlatJoins.l2 k3 l0 l1 l2 t309 t310 t311 t312 t313 t314 x13_1 x14_2 (x15_3 ++ (t334.extract ((mn 2 (t334.size : Int)) : Int).toNat t334.size)) l2 (l2.length : Int) (wrap64 (x91_3 + 1))) else (none)) else (none)) else (none)) = some true := H
                          have A44 := Aside0.mk A440
                          clear A440
                          obtain ⟨ji45, hji45⟩ : ∃ j_ : Int, (mn 2 (t334.size : Int)) = j_ := ⟨_, rfl⟩
                          replace H : (if 0 ≤ (ji45) then (if (ji45) ≤ (t334.size : Int) then (if x15_3.size + (t334.extract ((ji45) : Int).toNat t334.size).size ≤ 9223372036854775807 then (weirkeeperlaw13_FlatJoins.l2 k3 l0 l1 l2 t309 t310 t311 t312 t313 t314 x13_1 x14_2 (x15_3 ++ (t334.extract ((ji45) : Int).toNat t334.size)) l2 (l2.length : Int) (wrap64 (x91_3 + 1))) else (none)) else (none)) else (none)) = some true := by first | (rw [hji45] at H; exact H) | (simp only [hji45] at H ⊢; exact H)
                          (try rw [hji45] at A44)
                          (try (have hji45h : ji45 ≤ 2 := by (rw [← hji45]; unfold mn; (repeat' split) <;> omega)))
                          (try (have hji45g : ji45 ≤ 64 := by omega))
                          (try (have hji45l : 0 ≤ ji45 := by (rw [← hji45]; unfold mn; (repeat' split) <;> omega)))
                          (try (have hji45m : 0 ≤ ji45 := by omega))
                          have hji45_ : (if (t334.size : Int) < 2 then (t334.size : Int) else 2) = ji45 := hji45
                          by_cases c46 : 0 ≤ (ji45)
                          · rw [if_pos c46] at H
                            have c46b0 := eq_true c46
                            have c46b1 : decide (0 ≤ (ji45)) = true := decide_eq_true c46
                            clear c46
                            by_cases c47 : (ji45) ≤ (t334.size : Int)
                            · rw [if_pos c47] at H
                              have c47b0 := eq_true c47
                              have c47b1 : decide ((ji45) ≤ (t334.size : Int)) = true := decide_eq_true c47
                              clear c47
                              by_cases c48 : x15_3.size + (t334.extract ((ji45) : Int).toNat t334.size).size ≤ 9223372036854775807
                              · rw [if_pos c48] at H
                                have c48b0 := eq_true c48
                                have c48b1 : decide (x15_3.size + (t334.extract ((ji45) : Int).toNat t334.size).size ≤ 9223372036854775807) = true := decide_eq_true c48
                                try have c48b2 : (9223372036854775807 < x15_3.size + (t334.extract ((ji45) : Int).toNat t334.size).size) = False := eq_false (Nat.not_lt.2 c48)
                                clear c48
                                try (have c48b9 := c48b2; simp only [ByteArray.size_append, ByteArray.size_extract, Nat.min_self] at c48b9)
                                have H' := Aside0.mk H
                                clear H
                                have p329 : 0 ≤ (x91_3 : Int) := of_decide_eq_true (by first | (with_reducible assumption) | assumption)
                                have q329 : x91_3 < (l2.length : Int) := of_decide_eq_true (by first | (with_reducible assumption) | assumption)
                                obtain ⟨ad329, e329, hx329_0, hx329_1, hx329_2, hx329_3, hx329_4, hx329_5⟩ := at_T42 HR2.out x91_3 p329 q329
                                cases e329
                                replace hx329_0 := (HB.out.cell (World.block_lt_of_cell? w _ hx329_0)).trans hx329_0
                                replace hx329_1 := (HB.out.cell (World.block_lt_of_cell? w _ hx329_1)).trans hx329_1
                                replace hx329_2 := (HB.out.cell (World.block_lt_of_cell? w _ hx329_2)).trans hx329_2
                                replace hx329_3 := (HB.out.cell (World.block_lt_of_cell? w _ hx329_3)).trans hx329_3
                                replace hx329_4 := (HB.out.cell (World.block_lt_of_cell? w _ hx329_4)).trans hx329_4
                                replace hx329_5 := (HB.out.cell (World.block_lt_of_cell? w _ hx329_5)).trans hx329_5
                                replace p329 := eq_true p329
                                replace q329 := eq_true q329
                                go_wp2_with (first | ((with_reducible refine gate_dst (N := 25) rfl ?_); (try (refine gate_guard (by rfl) ?_; dsimp only)); refine box_event ?hg (N := 25) ?hd (cs := #[.int .i64 0, .string (⟨#[]⟩ : ByteArray), .bool false, .string (⟨#[]⟩ : ByteArray), .bool false, .string (⟨#[]⟩ : ByteArray)]) (t := 42) ?hr ?_; (case hd => rfl); (case hg => rfl); (case hr => first | (go_simp; done) | (go_simp; rfl)); intro gb330 hg w49 hbox hb; have n0_ := Aside0.mk (below_step (by repeat (first | (with_reducible first | exact HB.out | apply below_alloc | apply pw_below_drewN | apply below_drew1) | exact HB.out)) hb); have n1_ := Aside0.mk (hbox); have n2_ := Aside0.mk ((by rw [hg]; exact (below_size (by repeat (first | (with_reducible first | exact HB.out | apply below_alloc | apply pw_below_drewN | apply below_drew1) | exact HB.out))) : w.heap.size ≤ gb330)); have n3_ := Aside0.mk ((by rw [hg]; exact (below_size (by repeat (first | (with_reducible first | exact HB.out | apply below_alloc | apply pw_below_drewN | apply below_drew1) | exact HB.out))) : w.heap.size ≤ gb330)); clear HB; have HB := n0_; have BK330 := n1_; have GW330 := n2_; have GE330 := n3_; clear n0_ n1_ n2_ n3_; clear hb hbox hg; have hcz50_0 : w49.cell? ⟨gb330, 0, none⟩ = some (.int .i64 0) := (blk_cell BK330.out 0).trans rfl; have hcz50_1 : w49.cell? ⟨gb330, 1, none⟩ = some (.string (⟨#[]⟩ : ByteArray)) := (blk_cell BK330.out 1).trans rfl; have hcz50_2 : w49.cell? ⟨gb330, 2, none⟩ = some (.bool false) := (blk_cell BK330.out 2).trans rfl; have hcz50_3 : w49.cell? ⟨gb330, 3, none⟩ = some (.string (⟨#[]⟩ : ByteArray)) := (blk_cell BK330.out 3).trans rfl; have hcz50_4 : w49.cell? ⟨gb330, 4, none⟩ = some (.bool false) := (blk_cell BK330.out 4).trans rfl; have hcz50_5 : w49.cell? ⟨gb330, 5, none⟩ = some (.string (⟨#[]⟩ : ByteArray)) := (blk_cell BK330.out 5).trans rfl; have hfz50_0 := blk_frozen BK330.out 0; have hfz50_1 := blk_frozen BK330.out 1; have hfz50_2 := blk_frozen BK330.out 2; have hfz50_3 := blk_frozen BK330.out 3; have hfz50_4 := blk_frozen BK330.out 4; have hfz50_5 := blk_frozen BK330.out 5) | ((with_reducible refine gate_dst (N := 97) rfl ?_); (try (refine gate_guard (by rfl) ?_; dsimp only)); refine Kd.R_lit k42 _ 42 ?hg (N := 97) ?hd (xs := ([(⟨(rd_T42 l2 x91_3).f0, (rd_T42 l2 x91_3).f1, (rd_T42 l2 x91_3).f2, (rd_T42 l2 x91_3).f3, (rd_T42 l2 x91_3).f4, (rd_T42 l2 x91_3).f5⟩ : S42)] : List (S42))) (inner := [.int .i64 ((rd_T42 l2 x91_3).f0), .string ((rd_T42 l2 x91_3).f1), .bool ((rd_T42 l2 x91_3).f2), .string ((rd_T42 l2 x91_3).f3), .bool ((rd_T42 l2 x91_3).f4), .string ((rd_T42 l2 x91_3).f5)]) (ok := fun _ => True) (okp := fun _ => True) ?hr ?hp (fun _ hk => hk) trivial (Below.refl _ _) (Nat.le_refl _) (by simp) ?_; (case hd => rfl); (case hg => rfl); (case hr => first | (go_simp; done) | (go_simp; rfl)); (case hp => exact (Reps.c6 (show Kd.M k42 _ _ _ (⟨(rd_T42 l2 x91_3).f0, (rd_T42 l2 x91_3).f1, (rd_T42 l2 x91_3).f2, (rd_T42 l2 x91_3).f3, (rd_T42 l2 x91_3).f4, (rd_T42 l2 x91_3).f5⟩ : S42) [.int .i64 ((rd_T42 l2 x91_3).f0), .string ((rd_T42 l2 x91_3).f1), .bool ((rd_T42 l2 x91_3).f2), .string ((rd_T42 l2 x91_3).f3), .bool ((rd_T42 l2 x91_3).f4), .string ((rd_T42 l2 x91_3).f5)] from (k42_mkM _ _ _ (⟨(rd_T42 l2 x91_3).f0, (rd_T42 l2 x91_3).f1, (rd_T42 l2 x91_3).f2, (rd_T42 l2 x91_3).f3, (rd_T42 l2 x91_3).f4, (rd_T42 l2 x91_3).f5⟩ : S42) )) (Reps.none _ _))); intro v332 w51 ho52 hb hg_ hnew_; clear hg_ hnew_; (first | rw [← Ny331.out] at ho52 | (simp only [Int.reduceToNat] at ho52; rw [← Ny331.out] at ho52)); have n0_ := Aside0.mk (Kd.R_lower (Kd.R_newB ho52 (g := gb330) (o := .cells #[.int .i64 ((rd_T42 l2 x91_3).f0), .string ((rd_T42 l2 x91_3).f1), .bool ((rd_T42 l2 x91_3).f2), .string ((rd_T42 l2 x91_3).f3), .bool ((rd_T42 l2 x91_3).f4), .string ((rd_T42 l2 x91_3).f5)] 42 (0, 0)) (by (with_reducible repeat (first | refine blk_drewN ?_ _ | refine blk_drew ?_ | refine blk_alloc ?_ _)); refine blk_put (cs := #[.int .i64 ((rd_T42 l2 x91_3).f0), .string ((rd_T42 l2 x91_3).f1), .bool ((rd_T42 l2 x91_3).f2), .string ((rd_T42 l2 x91_3).f3), .bool ((rd_T42 l2 x91_3).f4), .string (⟨#[]⟩ : ByteArray)]) ?_ 5 _ rfl; (with_reducible repeat (first | refine blk_drewN ?_ _ | refine blk_drew ?_ | refine blk_alloc ?_ _)); refine blk_put (cs := #[.int .i64 ((rd_T42 l2 x91_3).f0), .string ((rd_T42 l2 x91_3).f1), .bool ((rd_T42 l2 x91_3).f2), .string ((rd_T42 l2 x91_3).f3), .bool false, .string (⟨#[]⟩ : ByteArray)]) ?_ 4 _ rfl; (with_reducible repeat (first | refine blk_drewN ?_ _ | refine blk_drew ?_ | refine blk_alloc ?_ _)); refine blk_put (cs := #[.int .i64 ((rd_T42 l2 x91_3).f0), .string ((rd_T42 l2 x91_3).f1), .bool ((rd_T42 l2 x91_3).f2), .string (⟨#[]⟩ : ByteArray), .bool false, .string (⟨#[]⟩ : ByteArray)]) ?_ 3 _ rfl; (with_reducible repeat (first | refine blk_drewN ?_ _ | refine blk_drew ?_ | refine blk_alloc ?_ _)); refine blk_put (cs := #[.int .i64 ((rd_T42 l2 x91_3).f0), .string ((rd_T42 l2 x91_3).f1), .bool false, .string (⟨#[]⟩ : ByteArray), .bool false, .string (⟨#[]⟩ : ByteArray)]) ?_ 2 _ rfl; (with_reducible repeat (first | refine blk_drewN ?_ _ | refine blk_drew ?_ | refine blk_alloc ?_ _)); refine blk_put (cs := #[.int .i64 ((rd_T42 l2 x91_3).f0), .string (⟨#[]⟩ : ByteArray), .bool false, .string (⟨#[]⟩ : ByteArray), .bool false, .string (⟨#[]⟩ : ByteArray)]) ?_ 1 _ rfl; (with_reducible repeat (first | refine blk_drewN ?_ _ | refine blk_drew ?_ | refine blk_alloc ?_ _)); refine blk_put (cs := #[.int .i64 0, .string (⟨#[]⟩ : ByteArray), .bool false, .string (⟨#[]⟩ : ByteArray), .bool false, .string (⟨#[]⟩ : ByteArray)]) ?_ 0 _ rfl; (with_reducible repeat (first | refine blk_drewN ?_ _ | refine blk_drew ?_ | refine blk_alloc ?_ _)); exact BK330.out)) (below_size (by repeat (first | (with_reducible first | exact HB.out | apply below_alloc | apply pw_below_drewN | apply below_drew1 | refine below_set ?_ GE330.out) | exact HB.out)))); have n1_ := Aside0.mk (blk_below (g := gb330) (o := .cells #[.int .i64 ((rd_T42 l2 x91_3).f0), .string ((rd_T42 l2 x91_3).f1), .bool ((rd_T42 l2 x91_3).f2), .string ((rd_T42 l2 x91_3).f3), .bool ((rd_T42 l2 x91_3).f4), .string ((rd_T42 l2 x91_3).f5)] 42 (0, 0)) (by (with_reducible repeat (first | refine blk_drewN ?_ _ | refine blk_drew ?_ | refine blk_alloc ?_ _)); refine blk_put (cs := #[.int .i64 ((rd_T42 l2 x91_3).f0), .string ((rd_T42 l2 x91_3).f1), .bool ((rd_T42 l2 x91_3).f2), .string ((rd_T42 l2 x91_3).f3), .bool ((rd_T42 l2 x91_3).f4), .string (⟨#[]⟩ : ByteArray)]) ?_ 5 _ rfl; (with_reducible repeat (first | refine blk_drewN ?_ _ | refine blk_drew ?_ | refine blk_alloc ?_ _)); refine blk_put (cs := #[.int .i64 ((rd_T42 l2 x91_3).f0), .string ((rd_T42 l2 x91_3).f1), .bool ((rd_T42 l2 x91_3).f2), .string ((rd_T42 l2 x91_3).f3), .bool false, .string (⟨#[]⟩ : ByteArray)]) ?_ 4 _ rfl; (with_reducible repeat (first | refine blk_drewN ?_ _ | refine blk_drew ?_ | refine blk_alloc ?_ _)); refine blk_put (cs := #[.int .i64 ((rd_T42 l2 x91_3).f0), .string ((rd_T42 l2 x91_3).f1), .bool ((rd_T42 l2 x91_3).f2), .string (⟨#[]⟩ : ByteArray), .bool false, .string (⟨#[]⟩ : ByteArray)]) ?_ 3 _ rfl; (with_reducible repeat (first | refine blk_drewN ?_ _ | refine blk_drew ?_ | refine blk_alloc ?_ _)); refine blk_put (cs := #[.int .i64 ((rd_T42 l2 x91_3).f0), .string ((rd_T42 l2 x91_3).f1), .bool false, .string (⟨#[]⟩ : ByteArray), .bool false, .string (⟨#[]⟩ : ByteArray)]) ?_ 2 _ rfl; (with_reducible repeat (first | refine blk_drewN ?_ _ | refine blk_drew ?_ | refine blk_alloc ?_ _)); refine blk_put (cs := #[.int .i64 ((rd_T42 l2 x91_3).f0), .string (⟨#[]⟩ : ByteArray), .bool false, .string (⟨#[]⟩ : ByteArray), .bool false, .string (⟨#[]⟩ : ByteArray)]) ?_ 1 _ rfl; (with_reducible repeat (first | refine blk_drewN ?_ _ | refine blk_drew ?_ | refine blk_alloc ?_ _)); refine blk_put (cs := #[.int .i64 0, .string (⟨#[]⟩ : ByteArray), .bool false, .string (⟨#[]⟩ : ByteArray), .bool false, .string (⟨#[]⟩ : ByteArray)]) ?_ 0 _ rfl; (with_reducible repeat (first | refine blk_drewN ?_ _ | refine blk_drew ?_ | refine blk_alloc ?_ _)); exact BK330.out) hb); have n2_ := Aside0.mk (below_step (by repeat (first | (with_reducible first | exact HB.out | apply below_alloc | apply pw_below_drewN | apply below_drew1 | refine below_set ?_ GE330.out) | exact HB.out)) hb); clear BK330; clear HB; have HO333 := n0_; have BK330 := n1_; have HB := n2_; clear n0_ n1_ n2_; clear hb ho52; obtain ⟨Ao53, co53, eo53⟩ := Kd.R_slice HO333.out; subst eo53) | ((with_reducible refine gate_callee (f := 18) rfl ?_); refine goesL_ (some 98) rfl rfl Try.func18 (by kernel_rfl) rfl #[.slice Ao53 y331.length co53] rfl (by (try simp only [List.map_toArray, List.map_cons, List.map_nil]); first | done | rfl | (simp only [List.length_drop, List.length_take]; rfl)) ?_; (with_reducible refine (flat_Changes.calls k3 _ _ y331 t334 t335 _ ?side1 ?side2 A44.out).mono ?_); (case side1 => repeat (first | exact (Kd.R_reads' HO333.out).2.2 | (with_reducible refine Kd.C_alloc ?_ _) | (with_reducible refine Kd.C_drewN ?_ _) | (with_reducible refine Kd.C_drew ?_))); (case side2 => exact (Kd.R_reads' HO333.out).2.1); rintro e w54 ⟨rfl, hb⟩; refine ⟨_, rfl, ?_⟩; have n0_ := Aside0.mk (Kd.R_below (by (with_reducible repeat (first | apply Kd.R_alloc | apply Kd.R_drewN | apply Kd.R_drew)); exact HO333.out) hb); have n1_ := Aside0.mk (blk_below (g := gb330) (o := .cells #[.int .i64 ((rd_T42 l2 x91_3).f0), .string ((rd_T42 l2 x91_3).f1), .bool ((rd_T42 l2 x91_3).f2), .string ((rd_T42 l2 x91_3).f3), .bool ((rd_T42 l2 x91_3).f4), .string ((rd_T42 l2 x91_3).f5)] 42 (0, 0)) (by (with_reducible repeat (first | refine blk_drewN ?_ _ | refine blk_drew ?_ | refine blk_alloc ?_ _)); exact BK330.out) hb); have n2_ := Aside0.mk (below_step (by repeat (first | (with_reducible first | exact HB.out | apply below_alloc | apply pw_below_drewN | apply below_drew1 | refine below_set ?_ GE330.out) | exact HB.out)) hb); clear HO333; clear BK330; clear HB; have HO333 := n0_; have BK330 := n1_; have HB := n2_; clear n0_ n1_ n2_; (try clear hb); (try clear hb2); (try clear hk); (try clear hi)))
                                go_roundg k3
                                case measure => have := HK1.out; have := HK2.out; have := HK3.out; omega
                                case rel => exact ⟨(x15_3 ++ (t334.extract ((ji45) : Int).toNat t334.size)), (wrap64 (x91_3 + 1)), (by first | rfl | (simp; done) | (simp only [← hji45] <;> (first | rfl | simp)) | (simp [*]; done)), (by first | rfl | (simp; done) | (simp [*]; done)), H', ⟨by have := HK1.out; have := HK2.out; have := HK3.out; omega⟩, ⟨by repeat (first | (with_reducible first | exact HB.out | apply below_alloc | apply pw_below_drewN | apply below_drew1 | refine below_set ?_ GE330.out) | exact HB.out)⟩⟩
                              · rw [if_neg c48] at H
                                exact absurd H (by simp)
                            · rw [if_neg c47] at H
                              exact absurd H (by simp)
                          · rw [if_neg c46] at H
                            exact absurd H (by simp)
                        · rw [if_neg c43] at H
                          exact absurd H (by simp)
                      · rw [if_neg c42] at H
                        exact absurd H (by simp)
                    · rw [if_neg c41] at H
                      have c41b0 : decide (x91_3 < (l2.length : Int)) = false := decide_eq_false c41
                      clear c41
                      by_cases c55 : t310 = 0
                      · rw [if_pos c55] at H
                        have c55b0 : (t310 == 0) = true := beq_iff_eq.mpr c55
                        have c55b1 : (t310 != 0) = false := bne_eq_false_iff_eq.mpr c55
                        clear c55
                        obtain ⟨y336, hy336⟩ : ∃ y_ : List Int, y_ = (([0, ((l0.length : Int)) % 256] : List Int)) := ⟨_, rfl⟩
                        replace H : (if (strOfNums y336).size + x13_1.size ≤ 9223372036854775807 then (if t309.toList = ((strOfNums y336) ++ x13_1).toList then (if t312 = 0 then ((some (([0, ((l1.length : Int)) % 256] : List Int) : List Int)).bind fun y339 => (if (strOfNums y339).size + x14_2.size ≤ 9223372036854775807 then (if t311.toList = ((strOfNums y339) ++ x14_2).toList then (if t314 = 0 then ((some (([0, ((l2.length : Int)) % 256] : List Int) : List Int)).bind fun y342 => (if (strOfNums y342).size + x15_3.size ≤ 9223372036854775807 then (if t313.toList = ((strOfNums y342) ++ x15_3).toList then ((weirkeeperlaw13_awake.f k3).bind fun t345 => (some t345)) else (some false)) else (none))) else ((weirkeeperlaw13_awake.f k3).bind fun t346 => (some t346))) else (some false)) else (none))) else (if t314 = 0 then ((some (([0, ((l2.length : Int)) % 256] : List Int) : List Int)).bind fun y347 => (if (strOfNums y347).size + x15_3.size ≤ 9223372036854775807 then (if t313.toList = ((strOfNums y347) ++ x15_3).toList then ((weirkeeperlaw13_awake.f k3).bind fun t350 => (some t350)) else (some false)) else (none))) else ((weirkeeperlaw13_awake.f k3).bind fun t351 => (some t351)))) else (some false)) else (none)) = some true := by first | (rw [hy336]; with_reducible exact H) | (have H2_ := (Option.bind_some _ _).symm.trans H; rw [hy336]; with_reducible exact H2_) | (have H2_ := (Option.bind_some _ _).symm.trans H; with_reducible exact H2_) | with_reducible exact H | (rw [hy336]; exact H) | exact H
                        have Ny336 := Aside0.mk hy336
                        clear hy336
                        by_cases c56 : (strOfNums y336).size + x13_1.size ≤ 9223372036854775807
                        · rw [if_pos c56] at H
                          have c56b0 := eq_true c56
                          have c56b1 : decide ((strOfNums y336).size + x13_1.size ≤ 9223372036854775807) = true := decide_eq_true c56
                          try have c56b2 : (9223372036854775807 < (strOfNums y336).size + x13_1.size) = False := eq_false (Nat.not_lt.2 c56)
                          clear c56
                          by_cases c57 : t309.toList = ((strOfNums y336) ++ x13_1).toList
                          · rw [if_pos c57] at H
                            have c57b0 : (t309.toList == ((strOfNums y336) ++ x13_1).toList) = true := beq_iff_eq.mpr c57
                            have c57b1 : (t309.toList != ((strOfNums y336) ++ x13_1).toList) = false := bne_eq_false_iff_eq.mpr c57
                            clear c57
                            by_cases c58 : t312 = 0
                            · rw [if_pos c58] at H
                              have c58b0 : (t312 == 0) = true := beq_iff_eq.mpr c58
                              have c58b1 : (t312 != 0) = false := bne_eq_false_iff_eq.mpr c58
                              clear c58
                              obtain ⟨y339, hy339⟩ : ∃ y_ : List Int, y_ = (([0, ((l1.length : Int)) % 256] : List Int)) := ⟨_, rfl⟩
                              replace H : (if (strOfNums y339).size + x14_2.size ≤ 9223372036854775807 then (if t311.toList = ((strOfNums y339) ++ x14_2).toList then (if t314 = 0 then ((some (([0, ((l2.length : Int)) % 256] : List Int) : List Int)).bind fun y342 => (if (strOfNums y342).size + x15_3.size ≤ 9223372036854775807 then (if t313.toList = ((strOfNums y342) ++ x15_3).toList then ((weirkeeperlaw13_awake.f k3).bind fun t345 => (some t345)) else (some false)) else (none))) else ((weirkeeperlaw13_awake.f k3).bind fun t346 => (some t346))) else (some false)) else (none)) = some true := by first | (rw [hy339]; with_reducible exact H) | (have H2_ := (Option.bind_some _ _).symm.trans H; rw [hy339]; with_reducible exact H2_) | (have H2_ := (Option.bind_some _ _).symm.trans H; with_reducible exact H2_) | with_reducible exact H | (rw [hy339]; exact H) | exact H
                              have Ny339 := Aside0.mk hy339
                              clear hy339
                              by_cases c59 : (strOfNums y339).size + x14_2.size ≤ 9223372036854775807
                              · rw [if_pos c59] at H
                                have c59b0 := eq_true c59
                                have c59b1 : decide ((strOfNums y339).size + x14_2.size ≤ 9223372036854775807) = true := decide_eq_true c59
                                try have c59b2 : (9223372036854775807 < (strOfNums y339).size + x14_2.size) = False := eq_false (Nat.not_lt.2 c59)
                                clear c59
                                by_cases c60 : t311.toList = ((strOfNums y339) ++ x14_2).toList
                                · rw [if_pos c60] at H
                                  have c60b0 : (t311.toList == ((strOfNums y339) ++ x14_2).toList) = true := beq_iff_eq.mpr c60
                                  have c60b1 : (t311.toList != ((strOfNums y339) ++ x14_2).toList) = false := bne_eq_false_iff_eq.mpr c60
                                  clear c60
                                  by_cases c61 : t314 = 0
                                  · rw [if_pos c61] at H
                                    have c61b0 : (t314 == 0) = true := beq_iff_eq.mpr c61
                                    have c61b1 : (t314 != 0) = false := bne_eq_false_iff_eq.mpr c61
                                    clear c61
                                    obtain ⟨y342, hy342⟩ : ∃ y_ : List Int, y_ = (([0, ((l2.length : Int)) % 256] : List Int)) := ⟨_, rfl⟩
                                    replace H : (if (strOfNums y342).size + x15_3.size ≤ 9223372036854775807 then (if t313.toList = ((strOfNums y342) ++ x15_3).toList then ((weirkeeperlaw13_awake.f k3).bind fun t345 => (some t345)) else (some false)) else (none)) = some true := by first | (rw [hy342]; with_reducible exact H) | (have H2_ := (Option.bind_some _ _).symm.trans H; rw [hy342]; with_reducible exact H2_) | (have H2_ := (Option.bind_some _ _).symm.trans H; with_reducible exact H2_) | with_reducible exact H | (rw [hy342]; exact H) | exact H
                                    have Ny342 := Aside0.mk hy342
                                    clear hy342
                                    by_cases c62 : (strOfNums y342).size + x15_3.size ≤ 9223372036854775807
                                    · rw [if_pos c62] at H
                                      have c62b0 := eq_true c62
                                      have c62b1 : decide ((strOfNums y342).size + x15_3.size ≤ 9223372036854775807) = true := decide_eq_true c62
                                      try have c62b2 : (9223372036854775807 < (strOfNums y342).size + x15_3.size) = False := eq_false (Nat.not_lt.2 c62)
                                      clear c62
                                      by_cases c63 : t313.toList = ((strOfNums y342) ++ x15_3).toList
                                      · rw [if_pos c63] at H
                                        have c63b0 : (t313.toList == ((strOfNums y342) ++ x15_3).toList) = true := beq_iff_eq.mpr c63
                                        have c63b1 : (t313.toList != ((strOfNums y342) ++ x15_3).toList) = false := bne_eq_false_iff_eq.mpr c63
                                        clear c63
                                        replace H := Option.bind_eq_some_iff.mp H
                                        obtain ⟨t345, A640, H⟩ := H
                                        replace H : (some t345) = some true := H
                                        have A64 := Aside0.mk A640
                                        clear A640
                                        (have H9_ := Option.some.inj H; first | subst H9_ | (have h9_ := Aside0.mk H9_; clear H9_))
                                        go_wp2_with (first | ((with_reducible refine gate_dst (N := 116) rfl ?_); (try (refine gate_guard (by rfl) ?_; dsimp only)); refine Kd.R_lit (Kd.int .u8) _ 5 ?hg (N := 116) ?hd (xs := ([0, ((l0.length : Int)) % 256] : List Int)) (inner := [.int .u8 0, .int .u8 (((l0.length : Int)) % 256)]) (ok := fun _ => True) (okp := fun _ => True) ?hr ?hp (fun _ hk => hk) trivial (Below.refl _ _) (Nat.le_refl _) (by simp) ?_; (case hd => rfl); (case hg => rfl); (case hr => first | (go_simp; done) | (go_simp; rfl)); (case hp => exact (Reps.one (show Kd.M (Kd.int .u8) _ _ _ 0 [.int .u8 0] from rfl) (Reps.one (show Kd.M (Kd.int .u8) _ _ _ (((l0.length : Int)) % 256) [.int .u8 (((l0.length : Int)) % 256)] from rfl) (Reps.none _ _)))); intro v337 w65 ho66 hb hg_ hnew_; clear hg_ hnew_; (first | rw [← Ny336.out] at ho66 | (simp only [Int.reduceToNat] at ho66; rw [← Ny336.out] at ho66)); have n0_ := Aside0.mk (Kd.R_lower ho66 (below_size (by repeat (first | (with_reducible first | exact HB.out | apply below_alloc | apply pw_below_drewN | apply below_drew1) | exact HB.out)))); have n1_ := Aside0.mk (below_step (by repeat (first | (with_reducible first | exact HB.out | apply below_alloc | apply pw_below_drewN | apply below_drew1) | exact HB.out)) hb); clear HB; have HO338 := n0_; have HB := n1_; clear n0_ n1_; clear hb ho66; have hcv67 := own_string (P := Try.prog) Try.underlying51 Try.underlying5 Try.underlying9 (Kd.own_of_R HO338.out)) | ((with_reducible refine gate_dst (N := 130) rfl ?_); (try (refine gate_guard (by rfl) ?_; dsimp only)); refine Kd.R_lit (Kd.int .u8) _ 5 ?hg (N := 130) ?hd (xs := ([0, ((l1.length : Int)) % 256] : List Int)) (inner := [.int .u8 0, .int .u8 (((l1.length : Int)) % 256)]) (ok := fun _ => True) (okp := fun _ => True) ?hr ?hp (fun _ hk => hk) trivial (Below.refl _ _) (Nat.le_refl _) (by simp) ?_; (case hd => rfl); (case hg => rfl); (case hr => first | (go_simp; done) | (go_simp; rfl)); (case hp => exact (Reps.one (show Kd.M (Kd.int .u8) _ _ _ 0 [.int .u8 0] from rfl) (Reps.one (show Kd.M (Kd.int .u8) _ _ _ (((l1.length : Int)) % 256) [.int .u8 (((l1.length : Int)) % 256)] from rfl) (Reps.none _ _)))); intro v340 w68 ho69 hb hg_ hnew_; clear hg_ hnew_; (first | rw [← Ny339.out] at ho69 | (simp only [Int.reduceToNat] at ho69; rw [← Ny339.out] at ho69)); have n0_ := Aside0.mk (Kd.R_elder' (by (with_reducible repeat (first | apply Kd.R_alloc | apply Kd.R_drewN | apply Kd.R_drew)); exact HO338.out) (Kd.R_base ho69) hb); have n1_ := Aside0.mk (Kd.R_lower (Kd.R_new' ho69 (Kd.R_lt (by (with_reducible repeat (first | apply Kd.R_alloc | apply Kd.R_drewN | apply Kd.R_drew)); exact HO338.out))) (below_size (by repeat (first | (with_reducible first | exact HB.out | apply below_alloc | apply pw_below_drewN | apply below_drew1) | exact HB.out)))); have n2_ := Aside0.mk (below_step (by repeat (first | (with_reducible first | exact HB.out | apply below_alloc | apply pw_below_drewN | apply below_drew1) | exact HB.out)) hb); clear HO338; clear HB; have HO338 := n0_; have HO341 := n1_; have HB := n2_; clear n0_ n1_ n2_; clear hb ho69; have hcv70 := own_string (P := Try.prog) Try.underlying51 Try.underlying5 Try.underlying9 (Kd.own_of_R HO341.out)) | ((with_reducible refine gate_dst (N := 145) rfl ?_); (try (refine gate_guard (by rfl) ?_; dsimp only)); refine Kd.R_lit (Kd.int .u8) _ 5 ?hg (N := 145) ?hd (xs := ([0, ((l2.length : Int)) % 256] : List Int)) (inner := [.int .u8 0, .int .u8 (((l2.length : Int)) % 256)]) (ok := fun _ => True) (okp := fun _ => True) ?hr ?hp (fun _ hk => hk) trivial (Below.refl _ _) (Nat.le_refl _) (by simp) ?_; (case hd => rfl); (case hg => rfl); (case hr => first | (go_simp; done) | (go_simp; rfl)); (case hp => exact (Reps.one (show Kd.M (Kd.int .u8) _ _ _ 0 [.int .u8 0] from rfl) (Reps.one (show Kd.M (Kd.int .u8) _ _ _ (((l2.length : Int)) % 256) [.int .u8 (((l2.length : Int)) % 256)] from rfl) (Reps.none _ _)))); intro v343 w71 ho72 hb hg_ hnew_; clear hg_ hnew_; (first | rw [← Ny342.out] at ho72 | (simp only [Int.reduceToNat] at ho72; rw [← Ny342.out] at ho72)); have n0_ := Aside0.mk (Kd.R_elder' (by (with_reducible repeat (first | apply Kd.R_alloc | apply Kd.R_drewN | apply Kd.R_drew)); exact HO338.out) (Kd.R_base ho72) hb); have n1_ := Aside0.mk (Kd.R_elder' (by (with_reducible repeat (first | apply Kd.R_alloc | apply Kd.R_drewN | apply Kd.R_drew)); exact HO341.out) (Kd.R_base ho72) hb); have n2_ := Aside0.mk (Kd.R_lower (Kd.R_new' (Kd.R_new' ho72 (Kd.R_lt (by (with_reducible repeat (first | apply Kd.R_alloc | apply Kd.R_drewN | apply Kd.R_drew)); exact HO338.out))) (Kd.R_lt (by (with_reducible repeat (first | apply Kd.R_alloc | apply Kd.R_drewN | apply Kd.R_drew)); exact HO341.out))) (below_size (by repeat (first | (with_reducible first | exact HB.out | apply below_alloc | apply pw_below_drewN | apply below_drew1) | exact HB.out)))); have n3_ := Aside0.mk (below_step (by repeat (first | (with_reducible first | exact HB.out | apply below_alloc | apply pw_below_drewN | apply below_drew1) | exact HB.out)) hb); clear HO338; clear HO341; clear HB; have HO338 := n0_; have HO341 := n1_; have HO344 := n2_; have HB := n3_; clear n0_ n1_ n2_ n3_; clear hb ho72; have hcv73 := own_string (P := Try.prog) Try.underlying51 Try.underlying5 Try.underlying9 (Kd.own_of_R HO344.out)) | (go_at_call 15; (with_reducible refine (weirkeeperlaw13_awake.calls k3 _ A64.out).mono ?_); rintro e w74 ⟨rfl, hb⟩; have n0_ := Aside0.mk (Kd.R_below (by (with_reducible repeat (first | apply Kd.R_alloc | apply Kd.R_drewN | apply Kd.R_drew)); exact HO338.out) hb); have n1_ := Aside0.mk (Kd.R_below (by (with_reducible repeat (first | apply Kd.R_alloc | apply Kd.R_drewN | apply Kd.R_drew)); exact HO341.out) hb); have n2_ := Aside0.mk (Kd.R_below (by (with_reducible repeat (first | apply Kd.R_alloc | apply Kd.R_drewN | apply Kd.R_drew)); exact HO344.out) hb); have n3_ := Aside0.mk (below_step (by repeat (first | (with_reducible first | exact HB.out | apply below_alloc | apply pw_below_drewN | apply below_drew1) | exact HB.out)) hb); clear HO338; clear HO341; clear HO344; clear HB; have HO338 := n0_; have HO341 := n1_; have HO344 := n2_; have HB := n3_; clear n0_ n1_ n2_ n3_; (try clear hb); (try clear hb2); (try clear hk); (try clear hi)))
                                        go_ret
                                        exact ⟨by first | rfl | (simp only [h9_.out]; done) | (have h8_ := h9_.out; simp [h8_]; done) | (simp [errW_none, errW_some] <;> rfl) | (simp [*, errW_none, errW_some] <;> rfl), by repeat (first | (with_reducible first | exact HB.out | apply below_alloc | apply pw_below_drewN | apply below_drew1) | exact HB.out)⟩
                                      · rw [if_neg c63] at H
                                        have c63b0 : (t313.toList == ((strOfNums y342) ++ x15_3).toList) = false := beq_eq_false_iff_ne.mpr c63
                                        have c63b1 : (t313.toList != ((strOfNums y342) ++ x15_3).toList) = true := bne_iff_ne.mpr c63
                                        exact absurd H (by simp)
                                    · rw [if_neg c62] at H
                                      exact absurd H (by simp)
                                  · rw [if_neg c61] at H
                                    have c61b0 : (t314 == 0) = false := beq_eq_false_iff_ne.mpr c61
                                    have c61b1 : (t314 != 0) = true := bne_iff_ne.mpr c61
                                    replace H := Option.bind_eq_some_iff.mp H
                                    obtain ⟨t346, A750, H⟩ := H
                                    replace H : (some t346) = some true := H
                                    have A75 := Aside0.mk A750
                                    clear A750
                                    (have H9_ := Option.some.inj H; first | subst H9_ | (have h9_ := Aside0.mk H9_; clear H9_))
                                    go_wp2_with (first | ((with_reducible refine gate_dst (N := 116) rfl ?_); (try (refine gate_guard (by rfl) ?_; dsimp only)); refine Kd.R_lit (Kd.int .u8) _ 5 ?hg (N := 116) ?hd (xs := ([0, ((l0.length : Int)) % 256] : List Int)) (inner := [.int .u8 0, .int .u8 (((l0.length : Int)) % 256)]) (ok := fun _ => True) (okp := fun _ => True) ?hr ?hp (fun _ hk => hk) trivial (Below.refl _ _) (Nat.le_refl _) (by simp) ?_; (case hd => rfl); (case hg => rfl); (case hr => first | (go_simp; done) | (go_simp; rfl)); (case hp => exact (Reps.one (show Kd.M (Kd.int .u8) _ _ _ 0 [.int .u8 0] from rfl) (Reps.one (show Kd.M (Kd.int .u8) _ _ _ (((l0.length : Int)) % 256) [.int .u8 (((l0.length : Int)) % 256)] from rfl) (Reps.none _ _)))); intro v337 w76 ho77 hb hg_ hnew_; clear hg_ hnew_; (first | rw [← Ny336.out] at ho77 | (simp only [Int.reduceToNat] at ho77; rw [← Ny336.out] at ho77)); have n0_ := Aside0.mk (Kd.R_lower ho77 (below_size (by repeat (first | (with_reducible first | exact HB.out | apply below_alloc | apply pw_below_drewN | apply below_drew1) | exact HB.out)))); have n1_ := Aside0.mk (below_step (by repeat (first | (with_reducible first | exact HB.out | apply below_alloc | apply pw_below_drewN | apply below_drew1) | exact HB.out)) hb); clear HB; have HO338 := n0_; have HB := n1_; clear n0_ n1_; clear hb ho77; have hcv78 := own_string (P := Try.prog) Try.underlying51 Try.underlying5 Try.underlying9 (Kd.own_of_R HO338.out)) | ((with_reducible refine gate_dst (N := 130) rfl ?_); (try (refine gate_guard (by rfl) ?_; dsimp only)); refine Kd.R_lit (Kd.int .u8) _ 5 ?hg (N := 130) ?hd (xs := ([0, ((l1.length : Int)) % 256] : List Int)) (inner := [.int .u8 0, .int .u8 (((l1.length : Int)) % 256)]) (ok := fun _ => True) (okp := fun _ => True) ?hr ?hp (fun _ hk => hk) trivial (Below.refl _ _) (Nat.le_refl _) (by simp) ?_; (case hd => rfl); (case hg => rfl); (case hr => first | (go_simp; done) | (go_simp; rfl)); (case hp => exact (Reps.one (show Kd.M (Kd.int .u8) _ _ _ 0 [.int .u8 0] from rfl) (Reps.one (show Kd.M (Kd.int .u8) _ _ _ (((l1.length : Int)) % 256) [.int .u8 (((l1.length : Int)) % 256)] from rfl) (Reps.none _ _)))); intro v340 w79 ho80 hb hg_ hnew_; clear hg_ hnew_; (first | rw [← Ny339.out] at ho80 | (simp only [Int.reduceToNat] at ho80; rw [← Ny339.out] at ho80)); have n0_ := Aside0.mk (Kd.R_elder' (by (with_reducible repeat (first | apply Kd.R_alloc | apply Kd.R_drewN | apply Kd.R_drew)); exact HO338.out) (Kd.R_base ho80) hb); have n1_ := Aside0.mk (Kd.R_lower (Kd.R_new' ho80 (Kd.R_lt (by (with_reducible repeat (first | apply Kd.R_alloc | apply Kd.R_drewN | apply Kd.R_drew)); exact HO338.out))) (below_size (by repeat (first | (with_reducible first | exact HB.out | apply below_alloc | apply pw_below_drewN | apply below_drew1) | exact HB.out)))); have n2_ := Aside0.mk (below_step (by repeat (first | (with_reducible first | exact HB.out | apply below_alloc | apply pw_below_drewN | apply below_drew1) | exact HB.out)) hb); clear HO338; clear HB; have HO338 := n0_; have HO341 := n1_; have HB := n2_; clear n0_ n1_ n2_; clear hb ho80; have hcv81 := own_string (P := Try.prog) Try.underlying51 Try.underlying5 Try.underlying9 (Kd.own_of_R HO341.out)) | (go_at_call 15; (with_reducible refine (weirkeeperlaw13_awake.calls k3 _ A75.out).mono ?_); rintro e w82 ⟨rfl, hb⟩; have n0_ := Aside0.mk (Kd.R_below (by (with_reducible repeat (first | apply Kd.R_alloc | apply Kd.R_drewN | apply Kd.R_drew)); exact HO338.out) hb); have n1_ := Aside0.mk (Kd.R_below (by (with_reducible repeat (first | apply Kd.R_alloc | apply Kd.R_drewN | apply Kd.R_drew)); exact HO341.out) hb); have n2_ := Aside0.mk (below_step (by repeat (first | (with_reducible first | exact HB.out | apply below_alloc | apply pw_below_drewN | apply below_drew1) | exact HB.out)) hb); clear HO338; clear HO341; clear HB; have HO338 := n0_; have HO341 := n1_; have HB := n2_; clear n0_ n1_ n2_; (try clear hb); (try clear hb2); (try clear hk); (try clear hi)))
                                    go_ret
                                    exact ⟨by first | rfl | (simp only [h9_.out]; done) | (have h8_ := h9_.out; simp [h8_]; done) | (simp [errW_none, errW_some] <;> rfl) | (simp [*, errW_none, errW_some] <;> rfl), by repeat (first | (with_reducible first | exact HB.out | apply below_alloc | apply pw_below_drewN | apply below_drew1) | exact HB.out)⟩
                                · rw [if_neg c60] at H
                                  have c60b0 : (t311.toList == ((strOfNums y339) ++ x14_2).toList) = false := beq_eq_false_iff_ne.mpr c60
                                  have c60b1 : (t311.toList != ((strOfNums y339) ++ x14_2).toList) = true := bne_iff_ne.mpr c60
                                  exact absurd H (by simp)
                              · rw [if_neg c59] at H
                                exact absurd H (by simp)
                            · rw [if_neg c58] at H
                              have c58b0 : (t312 == 0) = false := beq_eq_false_iff_ne.mpr c58
                              have c58b1 : (t312 != 0) = true := bne_iff_ne.mpr c58
                              by_cases c83 : t314 = 0
                              · rw [if_pos c83] at H
                                have c83b0 : (t314 == 0) = true := beq_iff_eq.mpr c83
                                have c83b1 : (t314 != 0) = false := bne_eq_false_iff_eq.mpr c83
                                clear c83
                                obtain ⟨y347, hy347⟩ : ∃ y_ : List Int, y_ = (([0, ((l2.length : Int)) % 256] : List Int)) := ⟨_, rfl⟩
                                replace H : (if (strOfNums y347).size + x15_3.size ≤ 9223372036854775807 then (if t313.toList = ((strOfNums y347) ++ x15_3).toList then ((weirkeeperlaw13_awake.f k3).bind fun t350 => (some t350)) else (some false)) else (none)) = some true := by first | (rw [hy347]; with_reducible exact H) | (have H2_ := (Option.bind_some _ _).symm.trans H; rw [hy347]; with_reducible exact H2_) | (have H2_ := (Option.bind_some _ _).symm.trans H; with_reducible exact H2_) | with_reducible exact H | (rw [hy347]; exact H) | exact H
                                have Ny347 := Aside0.mk hy347
                                clear hy347
                                by_cases c84 : (strOfNums y347).size + x15_3.size ≤ 9223372036854775807
                                · rw [if_pos c84] at H
                                  have c84b0 := eq_true c84
                                  have c84b1 : decide ((strOfNums y347).size + x15_3.size ≤ 9223372036854775807) = true := decide_eq_true c84
                                  try have c84b2 : (9223372036854775807 < (strOfNums y347).size + x15_3.size) = False := eq_false (Nat.not_lt.2 c84)
                                  clear c84
                                  by_cases c85 : t313.toList = ((strOfNums y347) ++ x15_3).toList
                                  · rw [if_pos c85] at H
                                    have c85b0 : (t313.toList == ((strOfNums y347) ++ x15_3).toList) = true := beq_iff_eq.mpr c85
                                    have c85b1 : (t313.toList != ((strOfNums y347) ++ x15_3).toList) = false := bne_eq_false_iff_eq.mpr c85
                                    clear c85
                                    replace H := Option.bind_eq_some_iff.mp H
                                    obtain ⟨t350, A860, H⟩ := H
                                    replace H : (some t350) = some true := H
                                    have A86 := Aside0.mk A860
                                    clear A860
                                    (have H9_ := Option.some.inj H; first | subst H9_ | (have h9_ := Aside0.mk H9_; clear H9_))
                                    go_wp2_with (first | ((with_reducible refine gate_dst (N := 116) rfl ?_); (try (refine gate_guard (by rfl) ?_; dsimp only)); refine Kd.R_lit (Kd.int .u8) _ 5 ?hg (N := 116) ?hd (xs := ([0, ((l0.length : Int)) % 256] : List Int)) (inner := [.int .u8 0, .int .u8 (((l0.length : Int)) % 256)]) (ok := fun _ => True) (okp := fun _ => True) ?hr ?hp (fun _ hk => hk) trivial (Below.refl _ _) (Nat.le_refl _) (by simp) ?_; (case hd => rfl); (case hg => rfl); (case hr => first | (go_simp; done) | (go_simp; rfl)); (case hp => exact (Reps.one (show Kd.M (Kd.int .u8) _ _ _ 0 [.int .u8 0] from rfl) (Reps.one (show Kd.M (Kd.int .u8) _ _ _ (((l0.length : Int)) % 256) [.int .u8 (((l0.length : Int)) % 256)] from rfl) (Reps.none _ _)))); intro v337 w87 ho88 hb hg_ hnew_; clear hg_ hnew_; (first | rw [← Ny336.out] at ho88 | (simp only [Int.reduceToNat] at ho88; rw [← Ny336.out] at ho88)); have n0_ := Aside0.mk (Kd.R_lower ho88 (below_size (by repeat (first | (with_reducible first | exact HB.out | apply below_alloc | apply pw_below_drewN | apply below_drew1) | exact HB.out)))); have n1_ := Aside0.mk (below_step (by repeat (first | (with_reducible first | exact HB.out | apply below_alloc | apply pw_below_drewN | apply below_drew1) | exact HB.out)) hb); clear HB; have HO338 := n0_; have HB := n1_; clear n0_ n1_; clear hb ho88; have hcv89 := own_string (P := Try.prog) Try.underlying51 Try.underlying5 Try.underlying9 (Kd.own_of_R HO338.out)) | ((with_reducible refine gate_dst (N := 145) rfl ?_); (try (refine gate_guard (by rfl) ?_; dsimp only)); refine Kd.R_lit (Kd.int .u8) _ 5 ?hg (N := 145) ?hd (xs := ([0, ((l2.length : Int)) % 256] : List Int)) (inner := [.int .u8 0, .int .u8 (((l2.length : Int)) % 256)]) (ok := fun _ => True) (okp := fun _ => True) ?hr ?hp (fun _ hk => hk) trivial (Below.refl _ _) (Nat.le_refl _) (by simp) ?_; (case hd => rfl); (case hg => rfl); (case hr => first | (go_simp; done) | (go_simp; rfl)); (case hp => exact (Reps.one (show Kd.M (Kd.int .u8) _ _ _ 0 [.int .u8 0] from rfl) (Reps.one (show Kd.M (Kd.int .u8) _ _ _ (((l2.length : Int)) % 256) [.int .u8 (((l2.length : Int)) % 256)] from rfl) (Reps.none _ _)))); intro v348 w90 ho91 hb hg_ hnew_; clear hg_ hnew_; (first | rw [← Ny347.out] at ho91 | (simp only [Int.reduceToNat] at ho91; rw [← Ny347.out] at ho91)); have n0_ := Aside0.mk (Kd.R_elder' (by (with_reducible repeat (first | apply Kd.R_alloc | apply Kd.R_drewN | apply Kd.R_drew)); exact HO338.out) (Kd.R_base ho91) hb); have n1_ := Aside0.mk (Kd.R_lower (Kd.R_new' ho91 (Kd.R_lt (by (with_reducible repeat (first | apply Kd.R_alloc | apply Kd.R_drewN | apply Kd.R_drew)); exact HO338.out))) (below_size (by repeat (first | (with_reducible first | exact HB.out | apply below_alloc | apply pw_below_drewN | apply below_drew1) | exact HB.out)))); have n2_ := Aside0.mk (below_step (by repeat (first | (with_reducible first | exact HB.out | apply below_alloc | apply pw_below_drewN | apply below_drew1) | exact HB.out)) hb); clear HO338; clear HB; have HO338 := n0_; have HO349 := n1_; have HB := n2_; clear n0_ n1_ n2_; clear hb ho91; have hcv92 := own_string (P := Try.prog) Try.underlying51 Try.underlying5 Try.underlying9 (Kd.own_of_R HO349.out)) | (go_at_call 15; (with_reducible refine (weirkeeperlaw13_awake.calls k3 _ A86.out).mono ?_); rintro e w93 ⟨rfl, hb⟩; have n0_ := Aside0.mk (Kd.R_below (by (with_reducible repeat (first | apply Kd.R_alloc | apply Kd.R_drewN | apply Kd.R_drew)); exact HO338.out) hb); have n1_ := Aside0.mk (Kd.R_below (by (with_reducible repeat (first | apply Kd.R_alloc | apply Kd.R_drewN | apply Kd.R_drew)); exact HO349.out) hb); have n2_ := Aside0.mk (below_step (by repeat (first | (with_reducible first | exact HB.out | apply below_alloc | apply pw_below_drewN | apply below_drew1) | exact HB.out)) hb); clear HO338; clear HO349; clear HB; have HO338 := n0_; have HO349 := n1_; have HB := n2_; clear n0_ n1_ n2_; (try clear hb); (try clear hb2); (try clear hk); (try clear hi)))
                                    go_ret
                                    exact ⟨by first | rfl | (simp only [h9_.out]; done) | (have h8_ := h9_.out; simp [h8_]; done) | (simp [errW_none, errW_some] <;> rfl) | (simp [*, errW_none, errW_some] <;> rfl), by repeat (first | (with_reducible first | exact HB.out | apply below_alloc | apply pw_below_drewN | apply below_drew1) | exact HB.out)⟩
                                  · rw [if_neg c85] at H
                                    have c85b0 : (t313.toList == ((strOfNums y347) ++ x15_3).toList) = false := beq_eq_false_iff_ne.mpr c85
                                    have c85b1 : (t313.toList != ((strOfNums y347) ++ x15_3).toList) = true := bne_iff_ne.mpr c85
                                    exact absurd H (by simp)
                                · rw [if_neg c84] at H
                                  exact absurd H (by simp)
                              · rw [if_neg c83] at H
                                have c83b0 : (t314 == 0) = false := beq_eq_false_iff_ne.mpr c83
                                have c83b1 : (t314 != 0) = true := bne_iff_ne.mpr c83
                                replace H := Option.bind_eq_some_iff.mp H
                                obtain ⟨t351, A940, H⟩ := H
                                replace H : (some t351) = some true := H
                                have A94 := Aside0.mk A940
                                clear A940
                                (have H9_ := Option.some.inj H; first | subst H9_ | (have h9_ := Aside0.mk H9_; clear H9_))
                                go_wp2_with (first | ((with_reducible refine gate_dst (N := 116) rfl ?_); (try (refine gate_guard (by rfl) ?_; dsimp only)); refine Kd.R_lit (Kd.int .u8) _ 5 ?hg (N := 116) ?hd (xs := ([0, ((l0.length : Int)) % 256] : List Int)) (inner := [.int .u8 0, .int .u8 (((l0.length : Int)) % 256)]) (ok := fun _ => True) (okp := fun _ => True) ?hr ?hp (fun _ hk => hk) trivial (Below.refl _ _) (Nat.le_refl _) (by simp) ?_; (case hd => rfl); (case hg => rfl); (case hr => first | (go_simp; done) | (go_simp; rfl)); (case hp => exact (Reps.one (show Kd.M (Kd.int .u8) _ _ _ 0 [.int .u8 0] from rfl) (Reps.one (show Kd.M (Kd.int .u8) _ _ _ (((l0.length : Int)) % 256) [.int .u8 (((l0.length : Int)) % 256)] from rfl) (Reps.none _ _)))); intro v337 w95 ho96 hb hg_ hnew_; clear hg_ hnew_; (first | rw [← Ny336.out] at ho96 | (simp only [Int.reduceToNat] at ho96; rw [← Ny336.out] at ho96)); have n0_ := Aside0.mk (Kd.R_lower ho96 (below_size (by repeat (first | (with_reducible first | exact HB.out | apply below_alloc | apply pw_below_drewN | apply below_drew1) | exact HB.out)))); have n1_ := Aside0.mk (below_step (by repeat (first | (with_reducible first | exact HB.out | apply below_alloc | apply pw_below_drewN | apply below_drew1) | exact HB.out)) hb); clear HB; have HO338 := n0_; have HB := n1_; clear n0_ n1_; clear hb ho96; have hcv97 := own_string (P := Try.prog) Try.underlying51 Try.underlying5 Try.underlying9 (Kd.own_of_R HO338.out)) | (go_at_call 15; (with_reducible refine (weirkeeperlaw13_awake.calls k3 _ A94.out).mono ?_); rintro e w98 ⟨rfl, hb⟩; have n0_ := Aside0.mk (Kd.R_below (by (with_reducible repeat (first | apply Kd.R_alloc | apply Kd.R_drewN | apply Kd.R_drew)); exact HO338.out) hb); have n1_ := Aside0.mk (below_step (by repeat (first | (with_reducible first | exact HB.out | apply below_alloc | apply pw_below_drewN | apply below_drew1) | exact HB.out)) hb); clear HO338; clear HB; have HO338 := n0_; have HB := n1_; clear n0_ n1_; (try clear hb); (try clear hb2); (try clear hk); (try clear hi)))
                                go_ret
                                exact ⟨by first | rfl | (simp only [h9_.out]; done) | (have h8_ := h9_.out; simp [h8_]; done) | (simp [errW_none, errW_some] <;> rfl) | (simp [*, errW_none, errW_some] <;> rfl), by repeat (first | (with_reducible first | exact HB.out | apply below_alloc | apply pw_below_drewN | apply below_drew1) | exact HB.out)⟩
                          · rw [if_neg c57] at H
                            have c57b0 : (t309.toList == ((strOfNums y336) ++ x13_1).toList) = false := beq_eq_false_iff_ne.mpr c57
                            have c57b1 : (t309.toList != ((strOfNums y336) ++ x13_1).toList) = true := bne_iff_ne.mpr c57
                            exact absurd H (by simp)
                        · rw [if_neg c56] at H
                          exact absurd H (by simp)
                      · rw [if_neg c55] at H
                        have c55b0 : (t310 == 0) = false := beq_eq_false_iff_ne.mpr c55
                        have c55b1 : (t310 != 0) = true := bne_iff_ne.mpr c55
                        by_cases c99 : t312 = 0
                        · rw [if_pos c99] at H
                          have c99b0 : (t312 == 0) = true := beq_iff_eq.mpr c99
                          have c99b1 : (t312 != 0) = false := bne_eq_false_iff_eq.mpr c99
                          clear c99
                          obtain ⟨y352, hy352⟩ : ∃ y_ : List Int, y_ = (([0, ((l1.length : Int)) % 256] : List Int)) := ⟨_, rfl⟩
                          replace H : (if (strOfNums y352).size + x14_2.size ≤ 9223372036854775807 then (if t311.toList = ((strOfNums y352) ++ x14_2).toList then (if t314 = 0 then ((some (([0, ((l2.length : Int)) % 256] : List Int) : List Int)).bind fun y355 => (if (strOfNums y355).size + x15_3.size ≤ 9223372036854775807 then (if t313.toList = ((strOfNums y355) ++ x15_3).toList then ((weirkeeperlaw13_awake.f k3).bind fun t358 => (some t358)) else (some false)) else (none))) else ((weirkeeperlaw13_awake.f k3).bind fun t359 => (some t359))) else (some false)) else (none)) = some true := by first | (rw [hy352]; with_reducible exact H) | (have H2_ := (Option.bind_some _ _).symm.trans H; rw [hy352]; with_reducible exact H2_) | (have H2_ := (Option.bind_some _ _).symm.trans H; with_reducible exact H2_) | with_reducible exact H | (rw [hy352]; exact H) | exact H
                          have Ny352 := Aside0.mk hy352
                          clear hy352
                          by_cases c100 : (strOfNums y352).size + x14_2.size ≤ 9223372036854775807
                          · rw [if_pos c100] at H
                            have c100b0 := eq_true c100
                            have c100b1 : decide ((strOfNums y352).size + x14_2.size ≤ 9223372036854775807) = true := decide_eq_true c100
                            try have c100b2 : (9223372036854775807 < (strOfNums y352).size + x14_2.size) = False := eq_false (Nat.not_lt.2 c100)
                            clear c100
                            by_cases c101 : t311.toList = ((strOfNums y352) ++ x14_2).toList
                            · rw [if_pos c101] at H
                              have c101b0 : (t311.toList == ((strOfNums y352) ++ x14_2).toList) = true := beq_iff_eq.mpr c101
                              have c101b1 : (t311.toList != ((strOfNums y352) ++ x14_2).toList) = false := bne_eq_false_iff_eq.mpr c101
                              clear c101
                              by_cases c102 : t314 = 0
                              · rw [if_pos c102] at H
                                have c102b0 : (t314 == 0) = true := beq_iff_eq.mpr c102
                                have c102b1 : (t314 != 0) = false := bne_eq_false_iff_eq.mpr c102
                                clear c102
                                obtain ⟨y355, hy355⟩ : ∃ y_ : List Int, y_ = (([0, ((l2.length : Int)) % 256] : List Int)) := ⟨_, rfl⟩
                                replace H : (if (strOfNums y355).size + x15_3.size ≤ 9223372036854775807 then (if t313.toList = ((strOfNums y355) ++ x15_3).toList then ((weirkeeperlaw13_awake.f k3).bind fun t358 => (some t358)) else (some false)) else (none)) = some true := by first | (rw [hy355]; with_reducible exact H) | (have H2_ := (Option.bind_some _ _).symm.trans H; rw [hy355]; with_reducible exact H2_) | (have H2_ := (Option.bind_some _ _).symm.trans H; with_reducible exact H2_) | with_reducible exact H | (rw [hy355]; exact H) | exact H
                                have Ny355 := Aside0.mk hy355
                                clear hy355
                                by_cases c103 : (strOfNums y355).size + x15_3.size ≤ 9223372036854775807
                                · rw [if_pos c103] at H
                                  have c103b0 := eq_true c103
                                  have c103b1 : decide ((strOfNums y355).size + x15_3.size ≤ 9223372036854775807) = true := decide_eq_true c103
                                  try have c103b2 : (9223372036854775807 < (strOfNums y355).size + x15_3.size) = False := eq_false (Nat.not_lt.2 c103)
                                  clear c103
                                  by_cases c104 : t313.toList = ((strOfNums y355) ++ x15_3).toList
                                  · rw [if_pos c104] at H
                                    have c104b0 : (t313.toList == ((strOfNums y355) ++ x15_3).toList) = true := beq_iff_eq.mpr c104
                                    have c104b1 : (t313.toList != ((strOfNums y355) ++ x15_3).toList) = false := bne_eq_false_iff_eq.mpr c104
                                    clear c104
                                    replace H := Option.bind_eq_some_iff.mp H
                                    obtain ⟨t358, A1050, H⟩ := H
                                    replace H : (some t358) = some true := H
                                    have A105 := Aside0.mk A1050
                                    clear A1050
                                    (have H9_ := Option.some.inj H; first | subst H9_ | (have h9_ := Aside0.mk H9_; clear H9_))
                                    go_wp2_with (first | ((with_reducible refine gate_dst (N := 130) rfl ?_); (try (refine gate_guard (by rfl) ?_; dsimp only)); refine Kd.R_lit (Kd.int .u8) _ 5 ?hg (N := 130) ?hd (xs := ([0, ((l1.length : Int)) % 256] : List Int)) (inner := [.int .u8 0, .int .u8 (((l1.length : Int)) % 256)]) (ok := fun _ => True) (okp := fun _ => True) ?hr ?hp (fun _ hk => hk) trivial (Below.refl _ _) (Nat.le_refl _) (by simp) ?_; (case hd => rfl); (case hg => rfl); (case hr => first | (go_simp; done) | (go_simp; rfl)); (case hp => exact (Reps.one (show Kd.M (Kd.int .u8) _ _ _ 0 [.int .u8 0] from rfl) (Reps.one (show Kd.M (Kd.int .u8) _ _ _ (((l1.length : Int)) % 256) [.int .u8 (((l1.length : Int)) % 256)] from rfl) (Reps.none _ _)))); intro v353 w106 ho107 hb hg_ hnew_; clear hg_ hnew_; (first | rw [← Ny352.out] at ho107 | (simp only [Int.reduceToNat] at ho107; rw [← Ny352.out] at ho107)); have n0_ := Aside0.mk (Kd.R_lower ho107 (below_size (by repeat (first | (with_reducible first | exact HB.out | apply below_alloc | apply pw_below_drewN | apply below_drew1) | exact HB.out)))); have n1_ := Aside0.mk (below_step (by repeat (first | (with_reducible first | exact HB.out | apply below_alloc | apply pw_below_drewN | apply below_drew1) | exact HB.out)) hb); clear HB; have HO354 := n0_; have HB := n1_; clear n0_ n1_; clear hb ho107; have hcv108 := own_string (P := Try.prog) Try.underlying51 Try.underlying5 Try.underlying9 (Kd.own_of_R HO354.out)) | ((with_reducible refine gate_dst (N := 145) rfl ?_); (try (refine gate_guard (by rfl) ?_; dsimp only)); refine Kd.R_lit (Kd.int .u8) _ 5 ?hg (N := 145) ?hd (xs := ([0, ((l2.length : Int)) % 256] : List Int)) (inner := [.int .u8 0, .int .u8 (((l2.length : Int)) % 256)]) (ok := fun _ => True) (okp := fun _ => True) ?hr ?hp (fun _ hk => hk) trivial (Below.refl _ _) (Nat.le_refl _) (by simp) ?_; (case hd => rfl); (case hg => rfl); (case hr => first | (go_simp; done) | (go_simp; rfl)); (case hp => exact (Reps.one (show Kd.M (Kd.int .u8) _ _ _ 0 [.int .u8 0] from rfl) (Reps.one (show Kd.M (Kd.int .u8) _ _ _ (((l2.length : Int)) % 256) [.int .u8 (((l2.length : Int)) % 256)] from rfl) (Reps.none _ _)))); intro v356 w109 ho110 hb hg_ hnew_; clear hg_ hnew_; (first | rw [← Ny355.out] at ho110 | (simp only [Int.reduceToNat] at ho110; rw [← Ny355.out] at ho110)); have n0_ := Aside0.mk (Kd.R_elder' (by (with_reducible repeat (first | apply Kd.R_alloc | apply Kd.R_drewN | apply Kd.R_drew)); exact HO354.out) (Kd.R_base ho110) hb); have n1_ := Aside0.mk (Kd.R_lower (Kd.R_new' ho110 (Kd.R_lt (by (with_reducible repeat (first | apply Kd.R_alloc | apply Kd.R_drewN | apply Kd.R_drew)); exact HO354.out))) (below_size (by repeat (first | (with_reducible first | exact HB.out | apply below_alloc | apply pw_below_drewN | apply below_drew1) | exact HB.out)))); have n2_ := Aside0.mk (below_step (by repeat (first | (with_reducible first | exact HB.out | apply below_alloc | apply pw_below_drewN | apply below_drew1) | exact HB.out)) hb); clear HO354; clear HB; have HO354 := n0_; have HO357 := n1_; have HB := n2_; clear n0_ n1_ n2_; clear hb ho110; have hcv111 := own_string (P := Try.prog) Try.underlying51 Try.underlying5 Try.underlying9 (Kd.own_of_R HO357.out)) | (go_at_call 15; (with_reducible refine (weirkeeperlaw13_awake.calls k3 _ A105.out).mono ?_); rintro e w112 ⟨rfl, hb⟩; have n0_ := Aside0.mk (Kd.R_below (by (with_reducible repeat (first | apply Kd.R_alloc | apply Kd.R_drewN | apply Kd.R_drew)); exact HO354.out) hb); have n1_ := Aside0.mk (Kd.R_below (by (with_reducible repeat (first | apply Kd.R_alloc | apply Kd.R_drewN | apply Kd.R_drew)); exact HO357.out) hb); have n2_ := Aside0.mk (below_step (by repeat (first | (with_reducible first | exact HB.out | apply below_alloc | apply pw_below_drewN | apply below_drew1) | exact HB.out)) hb); clear HO354; clear HO357; clear HB; have HO354 := n0_; have HO357 := n1_; have HB := n2_; clear n0_ n1_ n2_; (try clear hb); (try clear hb2); (try clear hk); (try clear hi)))
                                    go_ret
                                    exact ⟨by first | rfl | (simp only [h9_.out]; done) | (have h8_ := h9_.out; simp [h8_]; done) | (simp [errW_none, errW_some] <;> rfl) | (simp [*, errW_none, errW_some] <;> rfl), by repeat (first | (with_reducible first | exact HB.out | apply below_alloc | apply pw_below_drewN | apply below_drew1) | exact HB.out)⟩
                                  · rw [if_neg c104] at H
                                    have c104b0 : (t313.toList == ((strOfNums y355) ++ x15_3).toList) = false := beq_eq_false_iff_ne.mpr c104
                                    have c104b1 : (t313.toList != ((strOfNums y355) ++ x15_3).toList) = true := bne_iff_ne.mpr c104
                                    exact absurd H (by simp)
                                · rw [if_neg c103] at H
                                  exact absurd H (by simp)
                              · rw [if_neg c102] at H
                                have c102b0 : (t314 == 0) = false := beq_eq_false_iff_ne.mpr c102
                                have c102b1 : (t314 != 0) = true := bne_iff_ne.mpr c102
                                replace H := Option.bind_eq_some_iff.mp H
                                obtain ⟨t359, A1130, H⟩ := H
                                replace H : (some t359) = some true := H
                                have A113 := Aside0.mk A1130
                                clear A1130
                                (have H9_ := Option.some.inj H; first | subst H9_ | (have h9_ := Aside0.mk H9_; clear H9_))
                                go_wp2_with (first | ((with_reducible refine gate_dst (N := 130) rfl ?_); (try (refine gate_guard (by rfl) ?_; dsimp only)); refine Kd.R_lit (Kd.int .u8) _ 5 ?hg (N := 130) ?hd (xs := ([0, ((l1.length : Int)) % 256] : List Int)) (inner := [.int .u8 0, .int .u8 (((l1.length : Int)) % 256)]) (ok := fun _ => True) (okp := fun _ => True) ?hr ?hp (fun _ hk => hk) trivial (Below.refl _ _) (Nat.le_refl _) (by simp) ?_; (case hd => rfl); (case hg => rfl); (case hr => first | (go_simp; done) | (go_simp; rfl)); (case hp => exact (Reps.one (show Kd.M (Kd.int .u8) _ _ _ 0 [.int .u8 0] from rfl) (Reps.one (show Kd.M (Kd.int .u8) _ _ _ (((l1.length : Int)) % 256) [.int .u8 (((l1.length : Int)) % 256)] from rfl) (Reps.none _ _)))); intro v353 w114 ho115 hb hg_ hnew_; clear hg_ hnew_; (first | rw [← Ny352.out] at ho115 | (simp only [Int.reduceToNat] at ho115; rw [← Ny352.out] at ho115)); have n0_ := Aside0.mk (Kd.R_lower ho115 (below_size (by repeat (first | (with_reducible first | exact HB.out | apply below_alloc | apply pw_below_drewN | apply below_drew1) | exact HB.out)))); have n1_ := Aside0.mk (below_step (by repeat (first | (with_reducible first | exact HB.out | apply below_alloc | apply pw_below_drewN | apply below_drew1) | exact HB.out)) hb); clear HB; have HO354 := n0_; have HB := n1_; clear n0_ n1_; clear hb ho115; have hcv116 := own_string (P := Try.prog) Try.underlying51 Try.underlying5 Try.underlying9 (Kd.own_of_R HO354.out)) | (go_at_call 15; (with_reducible refine (weirkeeperlaw13_awake.calls k3 _ A113.out).mono ?_); rintro e w117 ⟨rfl, hb⟩; have n0_ := Aside0.mk (Kd.R_below (by (with_reducible repeat (first | apply Kd.R_alloc | apply Kd.R_drewN | apply Kd.R_drew)); exact HO354.out) hb); have n1_ := Aside0.mk (below_step (by repeat (first | (with_reducible first | exact HB.out | apply below_alloc | apply pw_below_drewN | apply below_drew1) | exact HB.out)) hb); clear HO354; clear HB; have HO354 := n0_; have HB := n1_; clear n0_ n1_; (try clear hb); (try clear hb2); (try clear hk); (try clear hi)))
                                go_ret
                                exact ⟨by first | rfl | (simp only [h9_.out]; done) | (have h8_ := h9_.out; simp [h8_]; done) | (simp [errW_none, errW_some] <;> rfl) | (simp [*, errW_none, errW_some] <;> rfl), by repeat (first | (with_reducible first | exact HB.out | apply below_alloc | apply pw_below_drewN | apply below_drew1) | exact HB.out)⟩
                            · rw [if_neg c101] at H
                              have c101b0 : (t311.toList == ((strOfNums y352) ++ x14_2).toList) = false := beq_eq_false_iff_ne.mpr c101
                              have c101b1 : (t311.toList != ((strOfNums y352) ++ x14_2).toList) = true := bne_iff_ne.mpr c101
                              exact absurd H (by simp)
                          · rw [if_neg c100] at H
                            exact absurd H (by simp)
                        · rw [if_neg c99] at H
                          have c99b0 : (t312 == 0) = false := beq_eq_false_iff_ne.mpr c99
                          have c99b1 : (t312 != 0) = true := bne_iff_ne.mpr c99
                          by_cases c118 : t314 = 0
                          · rw [if_pos c118] at H
                            have c118b0 : (t314 == 0) = true := beq_iff_eq.mpr c118
                            have c118b1 : (t314 != 0) = false := bne_eq_false_iff_eq.mpr c118
                            clear c118
                            obtain ⟨y360, hy360⟩ : ∃ y_ : List Int, y_ = (([0, ((l2.length : Int)) % 256] : List Int)) := ⟨_, rfl⟩
                            replace H : (if (strOfNums y360).size + x15_3.size ≤ 9223372036854775807 then (if t313.toList = ((strOfNums y360) ++ x15_3).toList then ((weirkeeperlaw13_awake.f k3).bind fun t363 => (some t363)) else (some false)) else (none)) = some true := by first | (rw [hy360]; with_reducible exact H) | (have H2_ := (Option.bind_some _ _).symm.trans H; rw [hy360]; with_reducible exact H2_) | (have H2_ := (Option.bind_some _ _).symm.trans H; with_reducible exact H2_) | with_reducible exact H | (rw [hy360]; exact H) | exact H
                            have Ny360 := Aside0.mk hy360
                            clear hy360
                            by_cases c119 : (strOfNums y360).size + x15_3.size ≤ 9223372036854775807
                            · rw [if_pos c119] at H
                              have c119b0 := eq_true c119
                              have c119b1 : decide ((strOfNums y360).size + x15_3.size ≤ 9223372036854775807) = true := decide_eq_true c119
                              try have c119b2 : (9223372036854775807 < (strOfNums y360).size + x15_3.size) = False := eq_false (Nat.not_lt.2 c119)
                              clear c119
                              by_cases c120 : t313.toList = ((strOfNums y360) ++ x15_3).toList
                              · rw [if_pos c120] at H
                                have c120b0 : (t313.toList == ((strOfNums y360) ++ x15_3).toList) = true := beq_iff_eq.mpr c120
                                have c120b1 : (t313.toList != ((strOfNums y360) ++ x15_3).toList) = false := bne_eq_false_iff_eq.mpr c120
                                clear c120
                                replace H := Option.bind_eq_some_iff.mp H
                                obtain ⟨t363, A1210, H⟩ := H
                                replace H : (some t363) = some true := H
                                have A121 := Aside0.mk A1210
                                clear A1210
                                (have H9_ := Option.some.inj H; first | subst H9_ | (have h9_ := Aside0.mk H9_; clear H9_))
                                go_wp2_with (first | ((with_reducible refine gate_dst (N := 145) rfl ?_); (try (refine gate_guard (by rfl) ?_; dsimp only)); refine Kd.R_lit (Kd.int .u8) _ 5 ?hg (N := 145) ?hd (xs := ([0, ((l2.length : Int)) % 256] : List Int)) (inner := [.int .u8 0, .int .u8 (((l2.length : Int)) % 256)]) (ok := fun _ => True) (okp := fun _ => True) ?hr ?hp (fun _ hk => hk) trivial (Below.refl _ _) (Nat.le_refl _) (by simp) ?_; (case hd => rfl); (case hg => rfl); (case hr => first | (go_simp; done) | (go_simp; rfl)); (case hp => exact (Reps.one (show Kd.M (Kd.int .u8) _ _ _ 0 [.int .u8 0] from rfl) (Reps.one (show Kd.M (Kd.int .u8) _ _ _ (((l2.length : Int)) % 256) [.int .u8 (((l2.length : Int)) % 256)] from rfl) (Reps.none _ _)))); intro v361 w122 ho123 hb hg_ hnew_; clear hg_ hnew_; (first | rw [← Ny360.out] at ho123 | (simp only [Int.reduceToNat] at ho123; rw [← Ny360.out] at ho123)); have n0_ := Aside0.mk (Kd.R_lower ho123 (below_size (by repeat (first | (with_reducible first | exact HB.out | apply below_alloc | apply pw_below_drewN | apply below_drew1) | exact HB.out)))); have n1_ := Aside0.mk (below_step (by repeat (first | (with_reducible first | exact HB.out | apply below_alloc | apply pw_below_drewN | apply below_drew1) | exact HB.out)) hb); clear HB; have HO362 := n0_; have HB := n1_; clear n0_ n1_; clear hb ho123; have hcv124 := own_string (P := Try.prog) Try.underlying51 Try.underlying5 Try.underlying9 (Kd.own_of_R HO362.out)) | (go_at_call 15; (with_reducible refine (weirkeeperlaw13_awake.calls k3 _ A121.out).mono ?_); rintro e w125 ⟨rfl, hb⟩; have n0_ := Aside0.mk (Kd.R_below (by (with_reducible repeat (first | apply Kd.R_alloc | apply Kd.R_drewN | apply Kd.R_drew)); exact HO362.out) hb); have n1_ := Aside0.mk (below_step (by repeat (first | (with_reducible first | exact HB.out | apply below_alloc | apply pw_below_drewN | apply below_drew1) | exact HB.out)) hb); clear HO362; clear HB; have HO362 := n0_; have HB := n1_; clear n0_ n1_; (try clear hb); (try clear hb2); (try clear hk); (try clear hi)))
                                go_ret
                                exact ⟨by first | rfl | (simp only [h9_.out]; done) | (have h8_ := h9_.out; simp [h8_]; done) | (simp [errW_none, errW_some] <;> rfl) | (simp [*, errW_none, errW_some] <;> rfl), by repeat (first | (with_reducible first | exact HB.out | apply below_alloc | apply pw_below_drewN | apply below_drew1) | exact HB.out)⟩
                              · rw [if_neg c120] at H
                                have c120b0 : (t313.toList == ((strOfNums y360) ++ x15_3).toList) = false := beq_eq_false_iff_ne.mpr c120
                                have c120b1 : (t313.toList != ((strOfNums y360) ++ x15_3).toList) = true := bne_iff_ne.mpr c120
                                exact absurd H (by simp)
                            · rw [if_neg c119] at H
                              exact absurd H (by simp)
                          · rw [if_neg c118] at H
                            have c118b0 : (t314 == 0) = false := beq_eq_false_iff_ne.mpr c118
                            have c118b1 : (t314 != 0) = true := bne_iff_ne.mpr c118
                            replace H := Option.bind_eq_some_iff.mp H
                            obtain ⟨t364, A1260, H⟩ := H
                            replace H : (some t364) = some true := H
                            have A126 := Aside0.mk A1260
                            clear A1260
                            (have H9_ := Option.some.inj H; first | subst H9_ | (have h9_ := Aside0.mk H9_; clear H9_))
                            go_wp2_with (first | (go_at_call 15; (with_reducible refine (weirkeeperlaw13_awake.calls k3 _ A126.out).mono ?_); rintro e w127 ⟨rfl, hb⟩; have n0_ := Aside0.mk (below_step (by repeat (first | (with_reducible first | exact HB.out | apply below_alloc | apply pw_below_drewN | apply below_drew1) | exact HB.out)) hb); clear HB; have HB := n0_; clear n0_; (try clear hb); (try clear hb2); (try clear hk); (try clear hi)))
                            go_ret
                            exact ⟨by first | rfl | (simp only [h9_.out]; done) | (have h8_ := h9_.out; simp [h8_]; done) | (simp [errW_none, errW_some] <;> rfl) | (simp [*, errW_none, errW_some] <;> rfl), by repeat (first | (with_reducible first | exact HB.out | apply below_alloc | apply pw_below_drewN | apply below_drew1) | exact HB.out)⟩
  · replace c5 := Bool.eq_false_iff.mpr c5
    subst c5
    have H1 : ((weirkeeperlaw13_awake.f k).bind fun t308 => (some t308)) = some true := by rw [if_neg (show ¬ (false = true) by decide)] at H; exact H
    clear H
    have H := H1
    clear H1
    replace H := Option.bind_eq_some_iff.mp H
    obtain ⟨t308, A1280, H⟩ := H
    replace H : (some t308) = some true := H
    have A128 := Aside0.mk A1280
    clear A1280
    (have H9_ := Option.some.inj H; first | subst H9_ | (have h9_ := Aside0.mk H9_; clear H9_))
    go_enter Try.func4, Try.ntmps4
    go_wp2_with (first | ((with_reducible refine gate_callee (f := 13) rfl ?_); refine goesL_ (some 31) rfl rfl Try.func13 (by kernel_rfl) rfl #[.slice A0 l0.length c0, .slice A1 l1.length c1, .slice A2 l2.length c2] rfl (by (try simp only [List.map_toArray, List.map_cons, List.map_nil]); first | done | rfl | (simp only [List.length_drop, List.length_take]; rfl)) ?_; (with_reducible refine (weirkeeperlaw13_fit.calls k _ _ l0 _ _ l1 _ _ l2 false _ ?side1 ?side2 ?side3 ?side4 ?side5 ?side6 A4.out).mono ?_); (case side1 => repeat (first | exact HR0.out | (with_reducible refine Kd.C_alloc ?_ _) | (with_reducible refine Kd.C_drewN ?_ _) | (with_reducible refine Kd.C_drew ?_))); (case side2 => exact HC0.out); (case side3 => repeat (first | exact HR1.out | (with_reducible refine Kd.C_alloc ?_ _) | (with_reducible refine Kd.C_drewN ?_ _) | (with_reducible refine Kd.C_drew ?_))); (case side4 => exact HC1.out); (case side5 => repeat (first | exact HR2.out | (with_reducible refine Kd.C_alloc ?_ _) | (with_reducible refine Kd.C_drewN ?_ _) | (with_reducible refine Kd.C_drew ?_))); (case side6 => exact HC2.out); rintro e w129 ⟨rfl, hb⟩; refine ⟨_, rfl, ?_⟩; have n0_ := Aside0.mk (below_step (by repeat (first | (with_reducible first | exact HB.out | apply below_alloc | apply pw_below_drewN | apply below_drew1) | exact HB.out)) hb); clear HB; have HB := n0_; clear n0_; (try clear hb); (try clear hb2); (try clear hk); (try clear hi)) | ((with_reducible refine gate_callee (f := 15) rfl ?_); refine goesL_ (some 33) rfl rfl Try.func15 (by kernel_rfl) rfl #[] rfl (by (try simp only [List.map_toArray, List.map_cons, List.map_nil]); first | done | rfl | (simp only [List.length_drop, List.length_take]; rfl)) ?_; (with_reducible refine (weirkeeperlaw13_awake.calls k _ A128.out).mono ?_); rintro e w130 ⟨rfl, hb⟩; refine ⟨_, rfl, ?_⟩; have n0_ := Aside0.mk (below_step (by repeat (first | (with_reducible first | exact HB.out | apply below_alloc | apply pw_below_drewN | apply below_drew1) | exact HB.out)) hb); clear HB; have HB := n0_; clear n0_; (try clear hb); (try clear hb2); (try clear hk); (try clear hi)))
    go_ret
    exact ⟨by first | rfl | (simp only [h9_.out]; done) | (have h8_ := h9_.out; simp [h8_]; done) | (simp [errW_none, errW_some] <;> rfl) | (simp [*, errW_none, errW_some] <;> rfl), by repeat (first | (with_reducible first | exact HB.out | apply below_alloc | apply pw_below_drewN | apply below_drew1) | exact HB.out)⟩

-- NOT PRINTED: function 75 (api_Pair_75)

end Go.Proofs.Ythidkdlmpkeogaa.F
