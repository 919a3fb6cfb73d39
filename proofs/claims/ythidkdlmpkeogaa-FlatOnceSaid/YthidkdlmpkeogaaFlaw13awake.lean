/- Contracts of Go functions of the seat Ythidkdlmpkeogaa: what a call comes to; no condition but those that each theorem names. -/
import Derived.Test.YthidkdlmpkeogaaFPre
import Derived.Test.YthidkdlmpkeogaaFflatx2
import Derived.Test.YthidkdlmpkeogaaFflatx0
namespace Go.Proofs.Ythidkdlmpkeogaa.F
open Go.RowKit Go.Proofs.YthidkdlmpkeogaaW.PrintWords Go.Proofs.YthidkdlmpkeogaaW.PrintLast Go.Proofs.YthidkdlmpkeogaaW.PrintMore
attribute [local go_sem] max2_int min2_int max_two min_two max_three min_three max_four min_four   -- for this text's walks alone
set_option linter.unusedVariables false
set_option linter.unusedSimpArgs false

/-! ### weirkeeperlaw13_awake: function 15 -/
def weirkeeperlaw13_awake.f (k : Nat)  : Option (Bool) := (flat_Notes.f k (([(⟨3, (⟨#[107]⟩ : ByteArray), (⟨#[]⟩ : ByteArray), 7⟩ : S48)] : List (S48)))).bind fun bt197 => (if bt197.1.size + 1 ≤ 9223372036854775807 then ((flat_TakeNotes.f k (bt197.1 ++ (⟨#[120]⟩ : ByteArray))).bind fun bt199 => ((flat_Changes.f k (([(⟨5, (⟨#[97]⟩ : ByteArray), false, (⟨#[]⟩ : ByteArray), true, (⟨#[118]⟩ : ByteArray)⟩ : S42)] : List (S42)))).bind fun bt207 => ((flat_Changes.f k (([(⟨5, (⟨#[97]⟩ : ByteArray), false, (⟨#[]⟩ : ByteArray), false, (⟨#[]⟩ : ByteArray)⟩ : S42)] : List (S42)))).bind fun bt212 => ((flat_Pairs.f k ([] : List (S50))).bind fun bt214 => ((flat_Range.f k (⟨#[97]⟩ : ByteArray) (⟨#[]⟩ : ByteArray) true).bind fun bt216 => (if bt197.1.toList = ([0, 1, 3, 0, 1, 107, 0, 0, 0, 0, 0, 0, 0, 0, 0, 7] : List UInt8) then (if bt197.2 = 0 then (if (bt199.1.length : Int) = 1 then (if 0 < (bt199.1.length : Int) then (if ((rd_T48 bt199.1 0).f3) = 7 then (if bt199.2.1.toList = ([120] : List UInt8) then (if bt199.2.2 = 0 then (if bt207.1.toList = ([0, 1, 0, 0, 0, 5, 0, 1, 97, 0, 0, 0, 1, 0, 1, 118] : List UInt8) then (if bt207.2 = 0 then (if bt212.2 = 1 then (if bt214.1.toList = ([0, 0] : List UInt8) then (if bt214.2 = 0 then (if bt216.1.toList = ([0, 1, 97, 0, 0, 1] : List UInt8) then (some (bt216.2 == 0)) else (some false)) else (some false)) else (some false)) else (some false)) else (some false)) else (some false)) else (some false)) else (some false)) else (some false)) else (none)) else (some false)) else (some false)) else (some false))))))) else (none))
theorem weirkeeperlaw13_awake.mono : ∀ k, LeO (weirkeeperlaw13_awake.f k ) (weirkeeperlaw13_awake.f (k + 1) ) := by
  intro  k
  unfold weirkeeperlaw13_awake.f
  repeat' first
      | (with_reducible exact flat_Changes.mono _ _)
      | (with_reducible exact flat_Notes.mono _ _)
      | (with_reducible exact flat_Pairs.mono _ _)
      | (with_reducible exact flat_Range.mono _ _ _ _)
      | (with_reducible exact flat_TakeNotes.mono _ _)
      | (with_reducible exact LeO.refl _)
      | (with_reducible exact LeO.none _)
      | (with_reducible refine LeO.ite ?_ ?_)
      | (with_reducible refine LeO.bind ?_ (fun _ => ?_))
      | exact flat_Changes.mono _ _
      | exact flat_Notes.mono _ _
      | exact flat_Pairs.mono _ _
      | exact flat_Range.mono _ _ _ _
      | exact flat_TakeNotes.mono _ _
      | exact LeO.none _
      | refine LeO.ite ?_ ?_
      | refine LeO.bind ?_ (fun _ => ?_)
set_option maxHeartbeats 8000000 in
set_option maxRecDepth 100000 in
theorem weirkeeperlaw13_awake.calls (k : Nat)  (w : World) (h : weirkeeperlaw13_awake.f k  = some true) :
    Calls Try.prog 15 #[] w fun e w' => e = .returned (.bool true) ∧ Below w.heap.size w w' := by
  have hu48 := Try.underlying48
  have hu42 := Try.underlying42
  have hu26 := Try.underlying26
  have HB := Aside0.mk (Below.refl w.heap.size w)
  have H : ((flat_Notes.f k (([(⟨3, (⟨#[107]⟩ : ByteArray), (⟨#[]⟩ : ByteArray), 7⟩ : S48)] : List (S48)))).bind fun bt197 => (if bt197.1.size + 1 ≤ 9223372036854775807 then ((flat_TakeNotes.f k (bt197.1 ++ (⟨#[120]⟩ : ByteArray))).bind fun bt199 => ((flat_Changes.f k (([(⟨5, (⟨#[97]⟩ : ByteArray), false, (⟨#[]⟩ : ByteArray), true, (⟨#[118]⟩ : ByteArray)⟩ : S42)] : List (S42)))).bind fun bt207 => ((flat_Changes.f k (([(⟨5, (⟨#[97]⟩ : ByteArray), false, (⟨#[]⟩ : ByteArray), false, (⟨#[]⟩ : ByteArray)⟩ : S42)] : List (S42)))).bind fun bt212 => ((flat_Pairs.f k ([] : List (S50))).bind fun bt214 => ((flat_Range.f k (⟨#[97]⟩ : ByteArray) (⟨#[]⟩ : ByteArray) true).bind fun bt216 => (if bt197.1.toList = ([0, 1, 3, 0, 1, 107, 0, 0, 0, 0, 0, 0, 0, 0, 0, 7] : List UInt8) then (if bt197.2 = 0 then (if (bt199.1.length : Int) = 1 then (if 0 < (bt199.1.length : Int) then (if ((rd_T48 bt199.1 0).f3) = 7 then (if bt199.2.1.toList = ([120] : List UInt8) then (if bt199.2.2 = 0 then (if bt207.1.toList = ([0, 1, 0, 0, 0, 5, 0, 1, 97, 0, 0, 0, 1, 0, 1, 118] : List UInt8) then (if bt207.2 = 0 then (if bt212.2 = 1 then (if bt214.1.toList = ([0, 0] : List UInt8) then (if bt214.2 = 0 then (if bt216.1.toList = ([0, 1, 97, 0, 0, 1] : List UInt8) then (some (bt216.2 == 0)) else (some false)) else (some false)) else (some false)) else (some false)) else (some false)) else (some false)) else (some false)) else (some false)) else (some false)) else (none)) else (some false)) else (some false)) else (some false))))))) else (none))) = some true := h
  clear h
  obtain ⟨y194, hy194⟩ : ∃ y_ : List (S48), y_ = (([(⟨3, (⟨#[107]⟩ : ByteArray), (⟨#[]⟩ : ByteArray), 7⟩ : S48)] : List (S48))) := ⟨_, rfl⟩
  replace H : ((flat_Notes.f k y194).bind fun bt197 => (if bt197.1.size + 1 ≤ 9223372036854775807 then ((flat_TakeNotes.f k (bt197.1 ++ (⟨#[120]⟩ : ByteArray))).bind fun bt199 => ((flat_Changes.f k (([(⟨5, (⟨#[97]⟩ : ByteArray), false, (⟨#[]⟩ : ByteArray), true, (⟨#[118]⟩ : ByteArray)⟩ : S42)] : List (S42)))).bind fun bt207 => ((flat_Changes.f k (([(⟨5, (⟨#[97]⟩ : ByteArray), false, (⟨#[]⟩ : ByteArray), false, (⟨#[]⟩ : ByteArray)⟩ : S42)] : List (S42)))).bind fun bt212 => ((flat_Pairs.f k ([] : List (S50))).bind fun bt214 => ((flat_Range.f k (⟨#[97]⟩ : ByteArray) (⟨#[]⟩ : ByteArray) true).bind fun bt216 => (if bt197.1.toList = ([0, 1, 3, 0, 1, 107, 0, 0, 0, 0, 0, 0, 0, 0, 0, 7] : List UInt8) then (if bt197.2 = 0 then (if (bt199.1.length : Int) = 1 then (if 0 < (bt199.1.length : Int) then (if ((rd_T48 bt199.1 0).f3) = 7 then (if bt199.2.1.toList = ([120] : List UInt8) then (if bt199.2.2 = 0 then (if bt207.1.toList = ([0, 1, 0, 0, 0, 5, 0, 1, 97, 0, 0, 0, 1, 0, 1, 118] : List UInt8) then (if bt207.2 = 0 then (if bt212.2 = 1 then (if bt214.1.toList = ([0, 0] : List UInt8) then (if bt214.2 = 0 then (if bt216.1.toList = ([0, 1, 97, 0, 0, 1] : List UInt8) then (some (bt216.2 == 0)) else (some false)) else (some false)) else (some false)) else (some false)) else (some false)) else (some false)) else (some false)) else (some false)) else (some false)) else (none)) else (some false)) else (some false)) else (some false))))))) else (none))) = some true := by first | (rw [hy194]; with_reducible exact H) | (have H2_ := (Option.bind_some _ _).symm.trans H; rw [hy194]; with_reducible exact H2_) | (have H2_ := (Option.bind_some _ _).symm.trans H; with_reducible exact H2_) | with_reducible exact H | (rw [hy194]; exact H) | exact H
  have Ny194 := Aside0.mk hy194
  clear hy194
  replace H := Option.bind_eq_some_iff.mp H
  obtain ⟨⟨t197, t198⟩, A10, H⟩ := H
  replace H : (if t197.size + 1 ≤ 9223372036854775807 then ((flat_TakeNotes.f k (t197 ++ (⟨#[120]⟩ : ByteArray))).bind fun bt199 => ((flat_Changes.f k (([(⟨5, (⟨#[97]⟩ : ByteArray), false, (⟨#[]⟩ : ByteArray), true, (⟨#[118]⟩ : ByteArray)⟩ : S42)] : List (S42)))).bind fun bt207 => ((flat_Changes.f k (([(⟨5, (⟨#[97]⟩ : ByteArray), false, (⟨#[]⟩ : ByteArray), false, (⟨#[]⟩ : ByteArray)⟩ : S42)] : List (S42)))).bind fun bt212 => ((flat_Pairs.f k ([] : List (S50))).bind fun bt214 => ((flat_Range.f k (⟨#[97]⟩ : ByteArray) (⟨#[]⟩ : ByteArray) true).bind fun bt216 => (if t197.toList = ([0, 1, 3, 0, 1, 107, 0, 0, 0, 0, 0, 0, 0, 0, 0, 7] : List UInt8) then (if t198 = 0 then (if (bt199.1.length : Int) = 1 then (if 0 < (bt199.1.length : Int) then (if ((rd_T48 bt199.1 0).f3) = 7 then (if bt199.2.1.toList = ([120] : List UInt8) then (if bt199.2.2 = 0 then (if bt207.1.toList = ([0, 1, 0, 0, 0, 5, 0, 1, 97, 0, 0, 0, 1, 0, 1, 118] : List UInt8) then (if bt207.2 = 0 then (if bt212.2 = 1 then (if bt214.1.toList = ([0, 0] : List UInt8) then (if bt214.2 = 0 then (if bt216.1.toList = ([0, 1, 97, 0, 0, 1] : List UInt8) then (some (bt216.2 == 0)) else (some false)) else (some false)) else (some false)) else (some false)) else (some false)) else (some false)) else (some false)) else (some false)) else (some false)) else (none)) else (some false)) else (some false)) else (some false))))))) else (none)) = some true := H
  have A1 := Aside0.mk A10
  clear A10
  by_cases c2 : t197.size + 1 ≤ 9223372036854775807
  · rw [if_pos c2] at H
    have c2b0 := eq_true c2
    have c2b1 : decide (t197.size + 1 ≤ 9223372036854775807) = true := decide_eq_true c2
    try have c2b2 : (9223372036854775807 < t197.size + 1) = False := eq_false (Nat.not_lt.2 c2)
    clear c2
    replace H := Option.bind_eq_some_iff.mp H
    obtain ⟨⟨t199, t200, t201⟩, A30, H⟩ := H
    replace H : ((flat_Changes.f k (([(⟨5, (⟨#[97]⟩ : ByteArray), false, (⟨#[]⟩ : ByteArray), true, (⟨#[118]⟩ : ByteArray)⟩ : S42)] : List (S42)))).bind fun bt207 => ((flat_Changes.f k (([(⟨5, (⟨#[97]⟩ : ByteArray), false, (⟨#[]⟩ : ByteArray), false, (⟨#[]⟩ : ByteArray)⟩ : S42)] : List (S42)))).bind fun bt212 => ((flat_Pairs.f k ([] : List (S50))).bind fun bt214 => ((flat_Range.f k (⟨#[97]⟩ : ByteArray) (⟨#[]⟩ : ByteArray) true).bind fun bt216 => (if t197.toList = ([0, 1, 3, 0, 1, 107, 0, 0, 0, 0, 0, 0, 0, 0, 0, 7] : List UInt8) then (if t198 = 0 then (if (t199.length : Int) = 1 then (if 0 < (t199.length : Int) then (if ((rd_T48 t199 0).f3) = 7 then (if t200.toList = ([120] : List UInt8) then (if t201 = 0 then (if bt207.1.toList = ([0, 1, 0, 0, 0, 5, 0, 1, 97, 0, 0, 0, 1, 0, 1, 118] : List UInt8) then (if bt207.2 = 0 then (if bt212.2 = 1 then (if bt214.1.toList = ([0, 0] : List UInt8) then (if bt214.2 = 0 then (if bt216.1.toList = ([0, 1, 97, 0, 0, 1] : List UInt8) then (some (bt216.2 == 0)) else (some false)) else (some false)) else (some false)) else (some false)) else (some false)) else (some false)) else (some false)) else (some false)) else (some false)) else (none)) else (some false)) else (some false)) else (some false)))))) = some true := H
    have A3 := Aside0.mk A30
    clear A30
    obtain ⟨y204, hy204⟩ : ∃ y_ : List (S42), y_ = (([(⟨5, (⟨#[97]⟩ : ByteArray), false, (⟨#[]⟩ : ByteArray), true, (⟨#[118]⟩ : ByteArray)⟩ : S42)] : List (S42))) := ⟨_, rfl⟩
    replace H : ((flat_Changes.f k y204).bind fun bt207 => ((flat_Changes.f k (([(⟨5, (⟨#[97]⟩ : ByteArray), false, (⟨#[]⟩ : ByteArray), false, (⟨#[]⟩ : ByteArray)⟩ : S42)] : List (S42)))).bind fun bt212 => ((flat_Pairs.f k ([] : List (S50))).bind fun bt214 => ((flat_Range.f k (⟨#[97]⟩ : ByteArray) (⟨#[]⟩ : ByteArray) true).bind fun bt216 => (if t197.toList = ([0, 1, 3, 0, 1, 107, 0, 0, 0, 0, 0, 0, 0, 0, 0, 7] : List UInt8) then (if t198 = 0 then (if (t199.length : Int) = 1 then (if 0 < (t199.length : Int) then (if ((rd_T48 t199 0).f3) = 7 then (if t200.toList = ([120] : List UInt8) then (if t201 = 0 then (if bt207.1.toList = ([0, 1, 0, 0, 0, 5, 0, 1, 97, 0, 0, 0, 1, 0, 1, 118] : List UInt8) then (if bt207.2 = 0 then (if bt212.2 = 1 then (if bt214.1.toList = ([0, 0] : List UInt8) then (if bt214.2 = 0 then (if bt216.1.toList = ([0, 1, 97, 0, 0, 1] : List UInt8) then (some (bt216.2 == 0)) else (some false)) else (some false)) else (some false)) else (some false)) else (some false)) else (some false)) else (some false)) else (some false)) else (some false)) else (none)) else (some false)) else (some false)) else (some false)))))) = some true := by first | (rw [hy204]; with_reducible exact H) | (have H2_ := (Option.bind_some _ _).symm.trans H; rw [hy204]; with_reducible exact H2_) | (have H2_ := (Option.bind_some _ _).symm.trans H; with_reducible exact H2_) | with_reducible exact H | (rw [hy204]; exact H) | exact H
    have Ny204 := Aside0.mk hy204
    clear hy204
    replace H := Option.bind_eq_some_iff.mp H
    obtain ⟨⟨t207, t208⟩, A40, H⟩ := H
    replace H : ((flat_Changes.f k (([(⟨5, (⟨#[97]⟩ : ByteArray), false, (⟨#[]⟩ : ByteArray), false, (⟨#[]⟩ : ByteArray)⟩ : S42)] : List (S42)))).bind fun bt212 => ((flat_Pairs.f k ([] : List (S50))).bind fun bt214 => ((flat_Range.f k (⟨#[97]⟩ : ByteArray) (⟨#[]⟩ : ByteArray) true).bind fun bt216 => (if t197.toList = ([0, 1, 3, 0, 1, 107, 0, 0, 0, 0, 0, 0, 0, 0, 0, 7] : List UInt8) then (if t198 = 0 then (if (t199.length : Int) = 1 then (if 0 < (t199.length : Int) then (if ((rd_T48 t199 0).f3) = 7 then (if t200.toList = ([120] : List UInt8) then (if t201 = 0 then (if t207.toList = ([0, 1, 0, 0, 0, 5, 0, 1, 97, 0, 0, 0, 1, 0, 1, 118] : List UInt8) then (if t208 = 0 then (if bt212.2 = 1 then (if bt214.1.toList = ([0, 0] : List UInt8) then (if bt214.2 = 0 then (if bt216.1.toList = ([0, 1, 97, 0, 0, 1] : List UInt8) then (some (bt216.2 == 0)) else (some false)) else (some false)) else (some false)) else (some false)) else (some false)) else (some false)) else (some false)) else (some false)) else (some false)) else (none)) else (some false)) else (some false)) else (some false))))) = some true := H
    have A4 := Aside0.mk A40
    clear A40
    obtain ⟨y209, hy209⟩ : ∃ y_ : List (S42), y_ = (([(⟨5, (⟨#[97]⟩ : ByteArray), false, (⟨#[]⟩ : ByteArray), false, (⟨#[]⟩ : ByteArray)⟩ : S42)] : List (S42))) := ⟨_, rfl⟩
    replace H : ((flat_Changes.f k y209).bind fun bt212 => ((flat_Pairs.f k ([] : List (S50))).bind fun bt214 => ((flat_Range.f k (⟨#[97]⟩ : ByteArray) (⟨#[]⟩ : ByteArray) true).bind fun bt216 => (if t197.toList = ([0, 1, 3, 0, 1, 107, 0, 0, 0, 0, 0, 0, 0, 0, 0, 7] : List UInt8) then (if t198 = 0 then (if (t199.length : Int) = 1 then (if 0 < (t199.length : Int) then (if ((rd_T48 t199 0).f3) = 7 then (if t200.toList = ([120] : List UInt8) then (if t201 = 0 then (if t207.toList = ([0, 1, 0, 0, 0, 5, 0, 1, 97, 0, 0, 0, 1, 0, 1, 118] : List UInt8) then (if t208 = 0 then (if bt212.2 = 1 then (if bt214.1.toList = ([0, 0] : List UInt8) then (if bt214.2 = 0 then (if bt216.1.toList = ([0, 1, 97, 0, 0, 1] : List UInt8) then (some (bt216.2 == 0)) else (some false)) else (some false)) else (some false)) else (some false)) else (some false)) else (some false)) else (some false)) else (some false)) else (some false)) else (none)) else (some false)) else (some false)) else (some false))))) = some true := by first | (rw [hy209]; with_reducible exact H) | (have H2_ := (Option.bind_some _ _).symm.trans H; rw [hy209]; with_reducible exact H2_) | (have H2_ := (Option.bind_some _ _).symm.trans H; with_reducible exact H2_) | with_reducible exact H | (rw [hy209]; exact H) | exact H
    have Ny209 := Aside0.mk hy209
    clear hy209
    replace H := Option.bind_eq_some_iff.mp H
    obtain ⟨⟨t212, t213⟩, A50, H⟩ := H
    replace H : ((flat_Pairs.f k ([] : List (S50))).bind fun bt214 => ((flat_Range.f k (⟨#[97]⟩ : ByteArray) (⟨#[]⟩ : ByteArray) true).bind fun bt216 => (if t197.toList = ([0, 1, 3, 0, 1, 107, 0, 0, 0, 0, 0, 0, 0, 0, 0, 7] : List UInt8) then (if t198 = 0 then (if (t199.length : Int) = 1 then (if 0 < (t199.length : Int) then (if ((rd_T48 t199 0).f3) = 7 then (if t200.toList = ([120] : List UInt8) then (if t201 = 0 then (if t207.toList = ([0, 1, 0, 0, 0, 5, 0, 1, 97, 0, 0, 0, 1, 0, 1, 118] : List UInt8) then (if t208 = 0 then (if t213 = 1 then (if bt214.1.toList = ([0, 0] : List UInt8) then (if bt214.2 = 0 then (if bt216.1.toList = ([0, 1, 97, 0, 0, 1] : List UInt8) then (some (bt216.2 == 0)) else (some false)) else (some false)) else (some false)) else (some false)) else (some false)) else (some false)) else (some false)) else (some false)) else (some false)) else (none)) else (some false)) else (some false)) else (some false)))) = some true := H
    have A5 := Aside0.mk A50
    clear A50
    replace H := Option.bind_eq_some_iff.mp H
    obtain ⟨⟨t214, t215⟩, A60, H⟩ := H
    replace H : ((flat_Range.f k (⟨#[97]⟩ : ByteArray) (⟨#[]⟩ : ByteArray) true).bind fun bt216 => (if t197.toList = ([0, 1, 3, 0, 1, 107, 0, 0, 0, 0, 0, 0, 0, 0, 0, 7] : List UInt8) then (if t198 = 0 then (if (t199.length : Int) = 1 then (if 0 < (t199.length : Int) then (if ((rd_T48 t199 0).f3) = 7 then (if t200.toList = ([120] : List UInt8) then (if t201 = 0 then (if t207.toList = ([0, 1, 0, 0, 0, 5, 0, 1, 97, 0, 0, 0, 1, 0, 1, 118] : List UInt8) then (if t208 = 0 then (if t213 = 1 then (if t214.toList = ([0, 0] : List UInt8) then (if t215 = 0 then (if bt216.1.toList = ([0, 1, 97, 0, 0, 1] : List UInt8) then (some (bt216.2 == 0)) else (some false)) else (some false)) else (some false)) else (some false)) else (some false)) else (some false)) else (some false)) else (some false)) else (some false)) else (none)) else (some false)) else (some false)) else (some false))) = some true := H
    have A6 := Aside0.mk A60
    clear A60
    replace H := Option.bind_eq_some_iff.mp H
    obtain ⟨⟨t216, t217⟩, A70, H⟩ := H
    replace H : (if t197.toList = ([0, 1, 3, 0, 1, 107, 0, 0, 0, 0, 0, 0, 0, 0, 0, 7] : List UInt8) then (if t198 = 0 then (if (t199.length : Int) = 1 then (if 0 < (t199.length : Int) then (if ((rd_T48 t199 0).f3) = 7 then (if t200.toList = ([120] : List UInt8) then (if t201 = 0 then (if t207.toList = ([0, 1, 0, 0, 0, 5, 0, 1, 97, 0, 0, 0, 1, 0, 1, 118] : List UInt8) then (if t208 = 0 then (if t213 = 1 then (if t214.toList = ([0, 0] : List UInt8) then (if t215 = 0 then (if t216.toList = ([0, 1, 97, 0, 0, 1] : List UInt8) then (some (t217 == 0)) else (some false)) else (some false)) else (some false)) else (some false)) else (some false)) else (some false)) else (some false)) else (some false)) else (some false)) else (none)) else (some false)) else (some false)) else (some false)) = some true := H
    have A7 := Aside0.mk A70
    clear A70
    by_cases c8 : t197.toList = ([0, 1, 3, 0, 1, 107, 0, 0, 0, 0, 0, 0, 0, 0, 0, 7] : List UInt8)
    · rw [if_pos c8] at H
      have c8b0 : (t197.toList == ([0, 1, 3, 0, 1, 107, 0, 0, 0, 0, 0, 0, 0, 0, 0, 7] : List UInt8)) = true := beq_iff_eq.mpr c8
      have c8b1 : (t197.toList != ([0, 1, 3, 0, 1, 107, 0, 0, 0, 0, 0, 0, 0, 0, 0, 7] : List UInt8)) = false := bne_eq_false_iff_eq.mpr c8
      clear c8
      by_cases c9 : t198 = 0
      · rw [if_pos c9] at H
        have c9b0 : (t198 == 0) = true := beq_iff_eq.mpr c9
        have c9b1 : (t198 != 0) = false := bne_eq_false_iff_eq.mpr c9
        clear c9
        by_cases c10 : (t199.length : Int) = 1
        · rw [if_pos c10] at H
          have c10b0 : ((t199.length : Int) == 1) = true := beq_iff_eq.mpr c10
          have c10b1 : ((t199.length : Int) != 1) = false := bne_eq_false_iff_eq.mpr c10
          clear c10
          by_cases c11 : 0 < (t199.length : Int)
          · rw [if_pos c11] at H
            have c11b0 : decide (0 < (t199.length : Int)) = true := decide_eq_true c11
            have c11b1 : decide (0 < t199.length) = true := decide_eq_true (by omega)
            clear c11
            by_cases c12 : ((rd_T48 t199 0).f3) = 7
            · rw [if_pos c12] at H
              have c12b0 : (((rd_T48 t199 0).f3) == 7) = true := beq_iff_eq.mpr c12
              have c12b1 : (((rd_T48 t199 0).f3) != 7) = false := bne_eq_false_iff_eq.mpr c12
              clear c12
              by_cases c13 : t200.toList = ([120] : List UInt8)
              · rw [if_pos c13] at H
                have c13b0 : (t200.toList == ([120] : List UInt8)) = true := beq_iff_eq.mpr c13
                have c13b1 : (t200.toList != ([120] : List UInt8)) = false := bne_eq_false_iff_eq.mpr c13
                clear c13
                by_cases c14 : t201 = 0
                · rw [if_pos c14] at H
                  have c14b0 : (t201 == 0) = true := beq_iff_eq.mpr c14
                  have c14b1 : (t201 != 0) = false := bne_eq_false_iff_eq.mpr c14
                  clear c14
                  by_cases c15 : t207.toList = ([0, 1, 0, 0, 0, 5, 0, 1, 97, 0, 0, 0, 1, 0, 1, 118] : List UInt8)
                  · rw [if_pos c15] at H
                    have c15b0 : (t207.toList == ([0, 1, 0, 0, 0, 5, 0, 1, 97, 0, 0, 0, 1, 0, 1, 118] : List UInt8)) = true := beq_iff_eq.mpr c15
                    have c15b1 : (t207.toList != ([0, 1, 0, 0, 0, 5, 0, 1, 97, 0, 0, 0, 1, 0, 1, 118] : List UInt8)) = false := bne_eq_false_iff_eq.mpr c15
                    clear c15
                    by_cases c16 : t208 = 0
                    · rw [if_pos c16] at H
                      have c16b0 : (t208 == 0) = true := beq_iff_eq.mpr c16
                      have c16b1 : (t208 != 0) = false := bne_eq_false_iff_eq.mpr c16
                      clear c16
                      by_cases c17 : t213 = 1
                      · rw [if_pos c17] at H
                        have c17b0 : (t213 == 1) = true := beq_iff_eq.mpr c17
                        have c17b1 : (t213 != 1) = false := bne_eq_false_iff_eq.mpr c17
                        clear c17
                        by_cases c18 : t214.toList = ([0, 0] : List UInt8)
                        · rw [if_pos c18] at H
                          have c18b0 : (t214.toList == ([0, 0] : List UInt8)) = true := beq_iff_eq.mpr c18
                          have c18b1 : (t214.toList != ([0, 0] : List UInt8)) = false := bne_eq_false_iff_eq.mpr c18
                          clear c18
                          by_cases c19 : t215 = 0
                          · rw [if_pos c19] at H
                            have c19b0 : (t215 == 0) = true := beq_iff_eq.mpr c19
                            have c19b1 : (t215 != 0) = false := bne_eq_false_iff_eq.mpr c19
                            clear c19
                            by_cases c20 : t216.toList = ([0, 1, 97, 0, 0, 1] : List UInt8)
                            · rw [if_pos c20] at H
                              have c20b0 : (t216.toList == ([0, 1, 97, 0, 0, 1] : List UInt8)) = true := beq_iff_eq.mpr c20
                              have c20b1 : (t216.toList != ([0, 1, 97, 0, 0, 1] : List UInt8)) = false := bne_eq_false_iff_eq.mpr c20
                              clear c20
                              (have H9_ := Option.some.inj H; first | subst H9_ | (have h9_ := Aside0.mk H9_; clear H9_))
                              go_enter Try.func15, Try.ntmps15
                              go_wp2_with (first | ((with_reducible refine gate_dst (N := 16) rfl ?_); (try (refine gate_guard (by rfl) ?_; dsimp only)); refine Kd.R_lit k48 _ 48 ?hg (N := 16) ?hd (xs := ([(⟨3, (⟨#[107]⟩ : ByteArray), (⟨#[]⟩ : ByteArray), 7⟩ : S48)] : List (S48))) (inner := [.int .i64 3, .string (⟨#[107]⟩ : ByteArray), .string (⟨#[]⟩ : ByteArray), .int .u64 7]) (ok := fun _ => True) (okp := fun _ => True) ?hr ?hp (fun _ hk => hk) trivial (Below.refl _ _) (Nat.le_refl _) (by simp) ?_; (case hd => rfl); (case hg => rfl); (case hr => first | (go_simp; done) | (go_simp; rfl)); (case hp => exact (Reps.c4 (show Kd.M k48 _ _ _ (⟨3, (⟨#[107]⟩ : ByteArray), (⟨#[]⟩ : ByteArray), 7⟩ : S48) [.int .i64 3, .string (⟨#[107]⟩ : ByteArray), .string (⟨#[]⟩ : ByteArray), .int .u64 7] from (k48_mkM _ _ _ (⟨3, (⟨#[107]⟩ : ByteArray), (⟨#[]⟩ : ByteArray), 7⟩ : S48) )) (Reps.none _ _))); intro v195 w21 ho22 hb hg_ hnew_; clear hg_ hnew_; (first | rw [← Ny194.out] at ho22 | (simp only [Int.reduceToNat] at ho22; rw [← Ny194.out] at ho22)); have n0_ := Aside0.mk (Kd.R_lower ho22 (below_size (by repeat (first | (with_reducible first | exact HB.out | apply below_alloc | apply pw_below_drewN | apply below_drew1) | exact HB.out)))); have n1_ := Aside0.mk (below_step (by repeat (first | (with_reducible first | exact HB.out | apply below_alloc | apply pw_below_drewN | apply below_drew1) | exact HB.out)) hb); clear HB; have HO196 := n0_; have HB := n1_; clear n0_ n1_; clear hb ho22; obtain ⟨Ao23, co23, eo23⟩ := Kd.R_slice HO196.out; subst eo23) | ((with_reducible refine gate_callee (f := 16) rfl ?_); refine goesL_ (some 17) rfl rfl Try.func16 (by kernel_rfl) rfl #[.slice Ao23 y194.length co23] rfl (by (try simp only [List.map_toArray, List.map_cons, List.map_nil]); first | done | rfl | (simp only [List.length_drop, List.length_take]; rfl)) ?_; (with_reducible refine (flat_Notes.calls k _ _ y194 t197 t198 _ ?side1 ?side2 A1.out).mono ?_); (case side1 => repeat (first | exact (Kd.R_reads' HO196.out).2.2 | (with_reducible refine Kd.C_alloc ?_ _) | (with_reducible refine Kd.C_drewN ?_ _) | (with_reducible refine Kd.C_drew ?_))); (case side2 => exact (Kd.R_reads' HO196.out).2.1); rintro e w24 ⟨rfl, hb⟩; refine ⟨_, rfl, ?_⟩; have n0_ := Aside0.mk (Kd.R_below (by (with_reducible repeat (first | apply Kd.R_alloc | apply Kd.R_drewN | apply Kd.R_drew)); exact HO196.out) hb); have n1_ := Aside0.mk (below_step (by repeat (first | (with_reducible first | exact HB.out | apply below_alloc | apply pw_below_drewN | apply below_drew1) | exact HB.out)) hb); clear HO196; clear HB; have HO196 := n0_; have HB := n1_; clear n0_ n1_; (try clear hb); (try clear hb2); (try clear hk); (try clear hi)) | ((with_reducible refine gate_callee (f := 27) rfl ?_); refine goesL_ (some 23) rfl rfl Try.func27 (by kernel_rfl) rfl #[.string (t197 ++ (⟨#[120]⟩ : ByteArray))] rfl (by (try simp only [List.map_toArray, List.map_cons, List.map_nil]); first | done | rfl | (simp only [List.length_drop, List.length_take]; rfl)) ?_; (with_reducible refine (flat_TakeNotes.calls k (t197 ++ (⟨#[120]⟩ : ByteArray)) t199 t200 t201 _ A3.out).mono ?_); rintro e w25 ⟨v202, rfl, ho0, hb⟩; refine ⟨_, rfl, ?_⟩; have n0_ := Aside0.mk (Kd.R_elder' (by (with_reducible repeat (first | apply Kd.R_alloc | apply Kd.R_drewN | apply Kd.R_drew)); exact HO196.out) (Kd.R_base ho0) hb); have n1_ := Aside0.mk (Kd.R_lower (Kd.R_new' ho0 (Kd.R_lt (by (with_reducible repeat (first | apply Kd.R_alloc | apply Kd.R_drewN | apply Kd.R_drew)); exact HO196.out))) (below_size (by repeat (first | (with_reducible first | exact HB.out | apply below_alloc | apply pw_below_drewN | apply below_drew1) | exact HB.out)))); have n2_ := Aside0.mk (below_step (by repeat (first | (with_reducible first | exact HB.out | apply below_alloc | apply pw_below_drewN | apply below_drew1) | exact HB.out)) hb); clear HO196; clear HB; have HO196 := n0_; have HO203 := n1_; have HB := n2_; clear n0_ n1_ n2_; (try clear hb); (try clear hb2); (try clear hk); (try clear hi); (try clear ho0)) | ((with_reducible refine gate_dst (N := 29) rfl ?_); (try (refine gate_guard (by rfl) ?_; dsimp only)); refine Kd.R_lit k42 _ 42 ?hg (N := 29) ?hd (xs := ([(⟨5, (⟨#[97]⟩ : ByteArray), false, (⟨#[]⟩ : ByteArray), true, (⟨#[118]⟩ : ByteArray)⟩ : S42)] : List (S42))) (inner := [.int .i64 5, .string (⟨#[97]⟩ : ByteArray), .bool false, .string (⟨#[]⟩ : ByteArray), .bool true, .string (⟨#[118]⟩ : ByteArray)]) (ok := fun _ => True) (okp := fun _ => True) ?hr ?hp (fun _ hk => hk) trivial (Below.refl _ _) (Nat.le_refl _) (by simp) ?_; (case hd => rfl); (case hg => rfl); (case hr => first | (go_simp; done) | (go_simp; rfl)); (case hp => exact (Reps.c6 (show Kd.M k42 _ _ _ (⟨5, (⟨#[97]⟩ : ByteArray), false, (⟨#[]⟩ : ByteArray), true, (⟨#[118]⟩ : ByteArray)⟩ : S42) [.int .i64 5, .string (⟨#[97]⟩ : ByteArray), .bool false, .string (⟨#[]⟩ : ByteArray), .bool true, .string (⟨#[118]⟩ : ByteArray)] from (k42_mkM _ _ _ (⟨5, (⟨#[97]⟩ : ByteArray), false, (⟨#[]⟩ : ByteArray), true, (⟨#[118]⟩ : ByteArray)⟩ : S42) )) (Reps.none _ _))); intro v205 w26 ho27 hb hg_ hnew_; clear hg_ hnew_; (first | rw [← Ny204.out] at ho27 | (simp only [Int.reduceToNat] at ho27; rw [← Ny204.out] at ho27)); have n0_ := Aside0.mk (Kd.R_below (by (with_reducible repeat (first | apply Kd.R_alloc | apply Kd.R_drewN | apply Kd.R_drew)); exact HO196.out) hb); have n1_ := Aside0.mk (Kd.R_below (by (with_reducible repeat (first | apply Kd.R_alloc | apply Kd.R_drewN | apply Kd.R_drew)); exact HO203.out) hb); have n2_ := Aside0.mk (Kd.R_lower ho27 (below_size (by repeat (first | (with_reducible first | exact HB.out | apply below_alloc | apply pw_below_drewN | apply below_drew1) | exact HB.out)))); have n3_ := Aside0.mk (below_step (by repeat (first | (with_reducible first | exact HB.out | apply below_alloc | apply pw_below_drewN | apply below_drew1) | exact HB.out)) hb); clear HO196; clear HO203; clear HB; have HO196 := n0_; have HO203 := n1_; have HO206 := n2_; have HB := n3_; clear n0_ n1_ n2_ n3_; clear hb ho27; obtain ⟨Ao28, co28, eo28⟩ := Kd.R_slice HO206.out; subst eo28) | ((with_reducible refine gate_callee (f := 18) rfl ?_); refine goesL_ (some 30) rfl rfl Try.func18 (by kernel_rfl) rfl #[.slice Ao28 y204.length co28] rfl (by (try simp only [List.map_toArray, List.map_cons, List.map_nil]); first | done | rfl | (simp only [List.length_drop, List.length_take]; rfl)) ?_; (with_reducible refine (flat_Changes.calls k _ _ y204 t207 t208 _ ?side1 ?side2 A4.out).mono ?_); (case side1 => repeat (first | exact (Kd.R_reads' HO206.out).2.2 | (with_reducible refine Kd.C_alloc ?_ _) | (with_reducible refine Kd.C_drewN ?_ _) | (with_reducible refine Kd.C_drew ?_))); (case side2 => exact (Kd.R_reads' HO206.out).2.1); rintro e w29 ⟨rfl, hb⟩; refine ⟨_, rfl, ?_⟩; have n0_ := Aside0.mk (Kd.R_below (by (with_reducible repeat (first | apply Kd.R_alloc | apply Kd.R_drewN | apply Kd.R_drew)); exact HO196.out) hb); have n1_ := Aside0.mk (Kd.R_below (by (with_reducible repeat (first | apply Kd.R_alloc | apply Kd.R_drewN | apply Kd.R_drew)); exact HO203.out) hb); have n2_ := Aside0.mk (Kd.R_below (by (with_reducible repeat (first | apply Kd.R_alloc | apply Kd.R_drewN | apply Kd.R_drew)); exact HO206.out) hb); have n3_ := Aside0.mk (below_step (by repeat (first | (with_reducible first | exact HB.out | apply below_alloc | apply pw_below_drewN | apply below_drew1) | exact HB.out)) hb); clear HO196; clear HO203; clear HO206; clear HB; have HO196 := n0_; have HO203 := n1_; have HO206 := n2_; have HB := n3_; clear n0_ n1_ n2_ n3_; (try clear hb); (try clear hb2); (try clear hk); (try clear hi)) | ((with_reducible refine gate_dst (N := 35) rfl ?_); (try (refine gate_guard (by rfl) ?_; dsimp only)); refine Kd.R_lit k42 _ 42 ?hg (N := 35) ?hd (xs := ([(⟨5, (⟨#[97]⟩ : ByteArray), false, (⟨#[]⟩ : ByteArray), false, (⟨#[]⟩ : ByteArray)⟩ : S42)] : List (S42))) (inner := [.int .i64 5, .string (⟨#[97]⟩ : ByteArray), .bool false, .string (⟨#[]⟩ : ByteArray), .bool false, .string (⟨#[]⟩ : ByteArray)]) (ok := fun _ => True) (okp := fun _ => True) ?hr ?hp (fun _ hk => hk) trivial (Below.refl _ _) (Nat.le_refl _) (by simp) ?_; (case hd => rfl); (case hg => rfl); (case hr => first | (go_simp; done) | (go_simp; rfl)); (case hp => exact (Reps.c6 (show Kd.M k42 _ _ _ (⟨5, (⟨#[97]⟩ : ByteArray), false, (⟨#[]⟩ : ByteArray), false, (⟨#[]⟩ : ByteArray)⟩ : S42) [.int .i64 5, .string (⟨#[97]⟩ : ByteArray), .bool false, .string (⟨#[]⟩ : ByteArray), .bool false, .string (⟨#[]⟩ : ByteArray)] from (k42_mkM _ _ _ (⟨5, (⟨#[97]⟩ : ByteArray), false, (⟨#[]⟩ : ByteArray), false, (⟨#[]⟩ : ByteArray)⟩ : S42) )) (Reps.none _ _))); intro v210 w30 ho31 hb hg_ hnew_; clear hg_ hnew_; (first | rw [← Ny209.out] at ho31 | (simp only [Int.reduceToNat] at ho31; rw [← Ny209.out] at ho31)); have n0_ := Aside0.mk (Kd.R_below (by (with_reducible repeat (first | apply Kd.R_alloc | apply Kd.R_drewN | apply Kd.R_drew)); exact HO196.out) hb); have n1_ := Aside0.mk (Kd.R_below (by (with_reducible repeat (first | apply Kd.R_alloc | apply Kd.R_drewN | apply Kd.R_drew)); exact HO203.out) hb); have n2_ := Aside0.mk (Kd.R_elder' (by (with_reducible repeat (first | apply Kd.R_alloc | apply Kd.R_drewN | apply Kd.R_drew)); exact HO206.out) (Kd.R_base ho31) hb); have n3_ := Aside0.mk (Kd.R_lower (Kd.R_new' ho31 (Kd.R_lt (by (with_reducible repeat (first | apply Kd.R_alloc | apply Kd.R_drewN | apply Kd.R_drew)); exact HO206.out))) (below_size (by repeat (first | (with_reducible first | exact HB.out | apply below_alloc | apply pw_below_drewN | apply below_drew1) | exact HB.out)))); have n4_ := Aside0.mk (below_step (by repeat (first | (with_reducible first | exact HB.out | apply below_alloc | apply pw_below_drewN | apply below_drew1) | exact HB.out)) hb); clear HO196; clear HO203; clear HO206; clear HB; have HO196 := n0_; have HO203 := n1_; have HO206 := n2_; have HO211 := n3_; have HB := n4_; clear n0_ n1_ n2_ n3_ n4_; clear hb ho31; obtain ⟨Ao32, co32, eo32⟩ := Kd.R_slice HO211.out; subst eo32) | ((with_reducible refine gate_callee (f := 18) rfl ?_); refine goesL_ (some 36) rfl rfl Try.func18 (by kernel_rfl) rfl #[.slice Ao32 y209.length co32] rfl (by (try simp only [List.map_toArray, List.map_cons, List.map_nil]); first | done | rfl | (simp only [List.length_drop, List.length_take]; rfl)) ?_; (with_reducible refine (flat_Changes.calls k _ _ y209 t212 t213 _ ?side1 ?side2 A5.out).mono ?_); (case side1 => repeat (first | exact (Kd.R_reads' HO211.out).2.2 | (with_reducible refine Kd.C_alloc ?_ _) | (with_reducible refine Kd.C_drewN ?_ _) | (with_reducible refine Kd.C_drew ?_))); (case side2 => exact (Kd.R_reads' HO211.out).2.1); rintro e w33 ⟨rfl, hb⟩; refine ⟨_, rfl, ?_⟩; have n0_ := Aside0.mk (Kd.R_below (by (with_reducible repeat (first | apply Kd.R_alloc | apply Kd.R_drewN | apply Kd.R_drew)); exact HO196.out) hb); have n1_ := Aside0.mk (Kd.R_below (by (with_reducible repeat (first | apply Kd.R_alloc | apply Kd.R_drewN | apply Kd.R_drew)); exact HO203.out) hb); have n2_ := Aside0.mk (Kd.R_below (by (with_reducible repeat (first | apply Kd.R_alloc | apply Kd.R_drewN | apply Kd.R_drew)); exact HO206.out) hb); have n3_ := Aside0.mk (Kd.R_below (by (with_reducible repeat (first | apply Kd.R_alloc | apply Kd.R_drewN | apply Kd.R_drew)); exact HO211.out) hb); have n4_ := Aside0.mk (below_step (by repeat (first | (with_reducible first | exact HB.out | apply below_alloc | apply pw_below_drewN | apply below_drew1) | exact HB.out)) hb); clear HO196; clear HO203; clear HO206; clear HO211; clear HB; have HO196 := n0_; have HO203 := n1_; have HO206 := n2_; have HO211 := n3_; have HB := n4_; clear n0_ n1_ n2_ n3_ n4_; (try clear hb); (try clear hb2); (try clear hk); (try clear hi)) | ((with_reducible refine gate_callee (f := 17) rfl ?_); refine goesL_ (some 40) rfl rfl Try.func17 (by kernel_rfl) rfl #[.slice none 0 0] rfl (by (try simp only [List.map_toArray, List.map_cons, List.map_nil]); first | done | rfl | (simp only [List.length_drop, List.length_take]; rfl)) ?_; (refine (flat_Pairs.calls k _ _ ([] : List (S50)) t214 t215 _ ?side1 ?side2 A6.out).mono ?_); (case side1 => exact Kd.C_nil _ _); (case side2 => exact Nat.le_refl _); rintro e w34 ⟨rfl, hb⟩; refine ⟨_, rfl, ?_⟩; have n0_ := Aside0.mk (Kd.R_below (by (with_reducible repeat (first | apply Kd.R_alloc | apply Kd.R_drewN | apply Kd.R_drew)); exact HO196.out) hb); have n1_ := Aside0.mk (Kd.R_below (by (with_reducible repeat (first | apply Kd.R_alloc | apply Kd.R_drewN | apply Kd.R_drew)); exact HO203.out) hb); have n2_ := Aside0.mk (Kd.R_below (by (with_reducible repeat (first | apply Kd.R_alloc | apply Kd.R_drewN | apply Kd.R_drew)); exact HO206.out) hb); have n3_ := Aside0.mk (Kd.R_below (by (with_reducible repeat (first | apply Kd.R_alloc | apply Kd.R_drewN | apply Kd.R_drew)); exact HO211.out) hb); have n4_ := Aside0.mk (below_step (by repeat (first | (with_reducible first | exact HB.out | apply below_alloc | apply pw_below_drewN | apply below_drew1) | exact HB.out)) hb); clear HO196; clear HO203; clear HO206; clear HO211; clear HB; have HO196 := n0_; have HO203 := n1_; have HO206 := n2_; have HO211 := n3_; have HB := n4_; clear n0_ n1_ n2_ n3_ n4_; (try clear hb); (try clear hb2); (try clear hk); (try clear hi)) | ((with_reducible refine gate_callee (f := 19) rfl ?_); refine goesL_ (some 45) rfl rfl Try.func19 (by kernel_rfl) rfl #[.agg #[.string (⟨#[97]⟩ : ByteArray), .string (⟨#[]⟩ : ByteArray), .bool true]] rfl (by (try simp only [List.map_toArray, List.map_cons, List.map_nil]); first | done | rfl | (simp only [List.length_drop, List.length_take]; rfl)) ?_; (with_reducible refine (flat_Range.calls k (⟨#[97]⟩ : ByteArray) (⟨#[]⟩ : ByteArray) true t216 t217 _ A7.out).mono ?_); rintro e w35 ⟨rfl, hb⟩; refine ⟨_, rfl, ?_⟩; have n0_ := Aside0.mk (Kd.R_below (by (with_reducible repeat (first | apply Kd.R_alloc | apply Kd.R_drewN | apply Kd.R_drew)); exact HO196.out) hb); have n1_ := Aside0.mk (Kd.R_below (by (with_reducible repeat (first | apply Kd.R_alloc | apply Kd.R_drewN | apply Kd.R_drew)); exact HO203.out) hb); have n2_ := Aside0.mk (Kd.R_below (by (with_reducible repeat (first | apply Kd.R_alloc | apply Kd.R_drewN | apply Kd.R_drew)); exact HO206.out) hb); have n3_ := Aside0.mk (Kd.R_below (by (with_reducible repeat (first | apply Kd.R_alloc | apply Kd.R_drewN | apply Kd.R_drew)); exact HO211.out) hb); have n4_ := Aside0.mk (below_step (by repeat (first | (with_reducible first | exact HB.out | apply below_alloc | apply pw_below_drewN | apply below_drew1) | exact HB.out)) hb); clear HO196; clear HO203; clear HO206; clear HO211; clear HB; have HO196 := n0_; have HO203 := n1_; have HO206 := n2_; have HO211 := n3_; have HB := n4_; clear n0_ n1_ n2_ n3_ n4_; (try clear hb); (try clear hb2); (try clear hk); (try clear hi); obtain ⟨Ao36, co36, eo36⟩ := Kd.R_slice HO203.out; subst eo36; have p218 : 0 ≤ (0 : Int) := (by omega); have q218 : 0 < (t199.length : Int) := of_decide_eq_true (by first | (with_reducible assumption) | assumption); obtain ⟨ad218, e218, hx218_0, hx218_1, hx218_2, hx218_3⟩ := at_T48 (Kd.R_reads' HO203.out).2.2 0 p218 q218; cases e218; have qi218 : (0 < t199.length) = True := eq_true (by omega); (try rw [show ((0 : Int)).toNat = 0 from rfl] at hx218_0); (try rw [show 0 * 4 = 0 from rfl] at hx218_0); (try rw [Addr.add_zero'] at hx218_0); (try rw [show ((0 : Int)).toNat = 0 from rfl] at hx218_1); (try rw [show 0 * 4 = 0 from rfl] at hx218_1); (try rw [Addr.add_zero'] at hx218_1); (try rw [show ((0 : Int)).toNat = 0 from rfl] at hx218_2); (try rw [show 0 * 4 = 0 from rfl] at hx218_2); (try rw [Addr.add_zero'] at hx218_2); (try rw [show ((0 : Int)).toNat = 0 from rfl] at hx218_3); (try rw [show 0 * 4 = 0 from rfl] at hx218_3); (try rw [Addr.add_zero'] at hx218_3); replace p218 := eq_true p218; replace q218 := eq_true q218))
                              go_ret
                              exact ⟨by first | rfl | (simp only [h9_.out]; done) | (have h8_ := h9_.out; simp [h8_]; done) | (simp [errW_none, errW_some] <;> rfl) | (simp [*, errW_none, errW_some] <;> rfl), by repeat (first | (with_reducible first | exact HB.out | apply below_alloc | apply pw_below_drewN | apply below_drew1) | exact HB.out)⟩
                            · rw [if_neg c20] at H
                              have c20b0 : (t216.toList == ([0, 1, 97, 0, 0, 1] : List UInt8)) = false := beq_eq_false_iff_ne.mpr c20
                              have c20b1 : (t216.toList != ([0, 1, 97, 0, 0, 1] : List UInt8)) = true := bne_iff_ne.mpr c20
                              exact absurd H (by simp)
                          · rw [if_neg c19] at H
                            have c19b0 : (t215 == 0) = false := beq_eq_false_iff_ne.mpr c19
                            have c19b1 : (t215 != 0) = true := bne_iff_ne.mpr c19
                            exact absurd H (by simp)
                        · rw [if_neg c18] at H
                          have c18b0 : (t214.toList == ([0, 0] : List UInt8)) = false := beq_eq_false_iff_ne.mpr c18
                          have c18b1 : (t214.toList != ([0, 0] : List UInt8)) = true := bne_iff_ne.mpr c18
                          exact absurd H (by simp)
                      · rw [if_neg c17] at H
                        have c17b0 : (t213 == 1) = false := beq_eq_false_iff_ne.mpr c17
                        have c17b1 : (t213 != 1) = true := bne_iff_ne.mpr c17
                        exact absurd H (by simp)
                    · rw [if_neg c16] at H
                      have c16b0 : (t208 == 0) = false := beq_eq_false_iff_ne.mpr c16
                      have c16b1 : (t208 != 0) = true := bne_iff_ne.mpr c16
                      exact absurd H (by simp)
                  · rw [if_neg c15] at H
                    have c15b0 : (t207.toList == ([0, 1, 0, 0, 0, 5, 0, 1, 97, 0, 0, 0, 1, 0, 1, 118] : List UInt8)) = false := beq_eq_false_iff_ne.mpr c15
                    have c15b1 : (t207.toList != ([0, 1, 0, 0, 0, 5, 0, 1, 97, 0, 0, 0, 1, 0, 1, 118] : List UInt8)) = true := bne_iff_ne.mpr c15
                    exact absurd H (by simp)
                · rw [if_neg c14] at H
                  have c14b0 : (t201 == 0) = false := beq_eq_false_iff_ne.mpr c14
                  have c14b1 : (t201 != 0) = true := bne_iff_ne.mpr c14
                  exact absurd H (by simp)
              · rw [if_neg c13] at H
                have c13b0 : (t200.toList == ([120] : List UInt8)) = false := beq_eq_false_iff_ne.mpr c13
                have c13b1 : (t200.toList != ([120] : List UInt8)) = true := bne_iff_ne.mpr c13
                exact absurd H (by simp)
            · rw [if_neg c12] at H
              have c12b0 : (((rd_T48 t199 0).f3) == 7) = false := beq_eq_false_iff_ne.mpr c12
              have c12b1 : (((rd_T48 t199 0).f3) != 7) = true := bne_iff_ne.mpr c12
              exact absurd H (by simp)
          · rw [if_neg c11] at H
            exact absurd H (by simp)
        · rw [if_neg c10] at H
          have c10b0 : ((t199.length : Int) == 1) = false := beq_eq_false_iff_ne.mpr c10
          have c10b1 : ((t199.length : Int) != 1) = true := bne_iff_ne.mpr c10
          exact absurd H (by simp)
      · rw [if_neg c9] at H
        have c9b0 : (t198 == 0) = false := beq_eq_false_iff_ne.mpr c9
        have c9b1 : (t198 != 0) = true := bne_iff_ne.mpr c9
        exact absurd H (by simp)
    · rw [if_neg c8] at H
      have c8b0 : (t197.toList == ([0, 1, 3, 0, 1, 107, 0, 0, 0, 0, 0, 0, 0, 0, 0, 7] : List UInt8)) = false := beq_eq_false_iff_ne.mpr c8
      have c8b1 : (t197.toList != ([0, 1, 3, 0, 1, 107, 0, 0, 0, 0, 0, 0, 0, 0, 0, 7] : List UInt8)) = true := bne_iff_ne.mpr c8
      exact absurd H (by simp)
  · rw [if_neg c2] at H
    exact absurd H (by simp)

end Go.Proofs.Ythidkdlmpkeogaa.F
