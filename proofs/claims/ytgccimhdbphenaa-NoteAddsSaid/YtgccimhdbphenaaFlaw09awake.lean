/- Contracts of Go functions of the seat Ytgccimhdbphenaa: what a call comes to; no condition but those that each theorem names. -/
import Derived.Test.YtgccimhdbphenaaFPre
import Derived.Test.YtgccimhdbphenaaFnotex1
import Derived.Test.YtgccimhdbphenaaFnotex0
namespace Go.Proofs.Ytgccimhdbphenaa.F
open Go.RowKit Go.Proofs.YtgccimhdbphenaaW.PrintWords Go.Proofs.YtgccimhdbphenaaW.PrintLast Go.Proofs.YtgccimhdbphenaaW.PrintMore
attribute [local go_sem] max2_int min2_int max_two min_two max_three min_three max_four min_four   -- for this text's walks alone
set_option linter.unusedVariables false
set_option linter.unusedSimpArgs false

/-! ### weirkeeperlaw09_awake: function 29 -/
def weirkeeperlaw09_awake.f (k : Nat)  : Option (Bool) := (note_Done.f k (⟨#[120]⟩ : ByteArray) true (([(⟨3, (⟨#[]⟩ : ByteArray), (⟨#[]⟩ : ByteArray), 5⟩ : S55), (⟨3, (⟨#[]⟩ : ByteArray), (⟨#[]⟩ : ByteArray), 18446744073709551613⟩ : S55)] : List (S55)))).bind fun bt307 => ((note_Done.f k (⟨#[120]⟩ : ByteArray) true (([(⟨2, (⟨#[]⟩ : ByteArray), (⟨#[]⟩ : ByteArray), 0⟩ : S55)] : List (S55)))).bind fun bt312 => ((note_Both.f k 2 (⟨#[107]⟩ : ByteArray) (⟨#[]⟩ : ByteArray) 0 3 (⟨#[107]⟩ : ByteArray) (⟨#[]⟩ : ByteArray) 7).bind fun bt314 => (if bt307.1.toList = ([0, 0, 0, 0, 0, 0, 0, 2] : List UInt8) then (if bt307.2 = true then (if bt312.2 = true then (some false) else (if (bt314.1 == 1 && (bt314.2.1.toList == ([107] : List UInt8) && (bt314.2.2.1.toList == ([0, 0, 0, 0, 0, 0, 0, 7] : List UInt8) && (bt314.2.2.2 == 0)))) = true then ((note_Right.f k bt314.1 bt314.2.1 bt314.2.2.1 bt314.2.2.2).bind fun t319 => (if t319 = true then ((note_Number.f k bt314.2.2.1).bind fun t320 => (if t320 = 7 then ((note_Number.f k (⟨#[55]⟩ : ByteArray)).bind fun t321 => (if t321 = 0 then (some true) else (some false))) else (some false))) else (some false))) else (some false))) else (some false)) else (some false))))
theorem weirkeeperlaw09_awake.mono : ∀ k, LeO (weirkeeperlaw09_awake.f k ) (weirkeeperlaw09_awake.f (k + 1) ) := by
  intro  k
  unfold weirkeeperlaw09_awake.f
  repeat' first
      | (with_reducible exact note_Both.mono _ _ _ _ _ _ _ _ _)
      | (with_reducible exact note_Done.mono _ _ _ _)
      | (with_reducible exact note_Number.mono _ _)
      | (with_reducible exact note_Right.mono _ _ _ _ _)
      | (with_reducible exact LeO.refl _)
      | (with_reducible exact LeO.none _)
      | (with_reducible refine LeO.ite ?_ ?_)
      | (with_reducible refine LeO.bind ?_ (fun _ => ?_))
      | exact note_Both.mono _ _ _ _ _ _ _ _ _
      | exact note_Done.mono _ _ _ _
      | exact note_Number.mono _ _
      | exact note_Right.mono _ _ _ _ _
      | exact LeO.none _
      | refine LeO.ite ?_ ?_
      | refine LeO.bind ?_ (fun _ => ?_)
set_option maxHeartbeats 8000000 in
set_option maxRecDepth 100000 in
theorem weirkeeperlaw09_awake.calls (k : Nat)  (w : World) (h : weirkeeperlaw09_awake.f k  = some true) :
    Calls Try.prog 29 #[] w fun e w' => e = .returned (.bool true) ∧ Below w.heap.size w w' := by
  have hu55 := Try.underlying55
  have HB := Aside0.mk (Below.refl w.heap.size w)
  have H : ((note_Done.f k (⟨#[120]⟩ : ByteArray) true (([(⟨3, (⟨#[]⟩ : ByteArray), (⟨#[]⟩ : ByteArray), 5⟩ : S55), (⟨3, (⟨#[]⟩ : ByteArray), (⟨#[]⟩ : ByteArray), 18446744073709551613⟩ : S55)] : List (S55)))).bind fun bt307 => ((note_Done.f k (⟨#[120]⟩ : ByteArray) true (([(⟨2, (⟨#[]⟩ : ByteArray), (⟨#[]⟩ : ByteArray), 0⟩ : S55)] : List (S55)))).bind fun bt312 => ((note_Both.f k 2 (⟨#[107]⟩ : ByteArray) (⟨#[]⟩ : ByteArray) 0 3 (⟨#[107]⟩ : ByteArray) (⟨#[]⟩ : ByteArray) 7).bind fun bt314 => (if bt307.1.toList = ([0, 0, 0, 0, 0, 0, 0, 2] : List UInt8) then (if bt307.2 = true then (if bt312.2 = true then (some false) else (if (bt314.1 == 1 && (bt314.2.1.toList == ([107] : List UInt8) && (bt314.2.2.1.toList == ([0, 0, 0, 0, 0, 0, 0, 7] : List UInt8) && (bt314.2.2.2 == 0)))) = true then ((note_Right.f k bt314.1 bt314.2.1 bt314.2.2.1 bt314.2.2.2).bind fun t319 => (if t319 = true then ((note_Number.f k bt314.2.2.1).bind fun t320 => (if t320 = 7 then ((note_Number.f k (⟨#[55]⟩ : ByteArray)).bind fun t321 => (if t321 = 0 then (some true) else (some false))) else (some false))) else (some false))) else (some false))) else (some false)) else (some false))))) = some true := h
  clear h
  obtain ⟨y304, hy304⟩ : ∃ y_ : List (S55), y_ = (([(⟨3, (⟨#[]⟩ : ByteArray), (⟨#[]⟩ : ByteArray), 5⟩ : S55), (⟨3, (⟨#[]⟩ : ByteArray), (⟨#[]⟩ : ByteArray), 18446744073709551613⟩ : S55)] : List (S55))) := ⟨_, rfl⟩
  replace H : ((note_Done.f k (⟨#[120]⟩ : ByteArray) true y304).bind fun bt307 => ((note_Done.f k (⟨#[120]⟩ : ByteArray) true (([(⟨2, (⟨#[]⟩ : ByteArray), (⟨#[]⟩ : ByteArray), 0⟩ : S55)] : List (S55)))).bind fun bt312 => ((note_Both.f k 2 (⟨#[107]⟩ : ByteArray) (⟨#[]⟩ : ByteArray) 0 3 (⟨#[107]⟩ : ByteArray) (⟨#[]⟩ : ByteArray) 7).bind fun bt314 => (if bt307.1.toList = ([0, 0, 0, 0, 0, 0, 0, 2] : List UInt8) then (if bt307.2 = true then (if bt312.2 = true then (some false) else (if (bt314.1 == 1 && (bt314.2.1.toList == ([107] : List UInt8) && (bt314.2.2.1.toList == ([0, 0, 0, 0, 0, 0, 0, 7] : List UInt8) && (bt314.2.2.2 == 0)))) = true then ((note_Right.f k bt314.1 bt314.2.1 bt314.2.2.1 bt314.2.2.2).bind fun t319 => (if t319 = true then ((note_Number.f k bt314.2.2.1).bind fun t320 => (if t320 = 7 then ((note_Number.f k (⟨#[55]⟩ : ByteArray)).bind fun t321 => (if t321 = 0 then (some true) else (some false))) else (some false))) else (some false))) else (some false))) else (some false)) else (some false))))) = some true := by first | (rw [hy304]; with_reducible exact H) | (have H2_ := (Option.bind_some _ _).symm.trans H; rw [hy304]; with_reducible exact H2_) | (have H2_ := (Option.bind_some _ _).symm.trans H; with_reducible exact H2_) | with_reducible exact H | (rw [hy304]; exact H) | exact H
  have Ny304 := Aside0.mk hy304
  clear hy304
  replace H := Option.bind_eq_some_iff.mp H
  obtain ⟨⟨t307, t308⟩, A10, H⟩ := H
  replace H : ((note_Done.f k (⟨#[120]⟩ : ByteArray) true (([(⟨2, (⟨#[]⟩ : ByteArray), (⟨#[]⟩ : ByteArray), 0⟩ : S55)] : List (S55)))).bind fun bt312 => ((note_Both.f k 2 (⟨#[107]⟩ : ByteArray) (⟨#[]⟩ : ByteArray) 0 3 (⟨#[107]⟩ : ByteArray) (⟨#[]⟩ : ByteArray) 7).bind fun bt314 => (if t307.toList = ([0, 0, 0, 0, 0, 0, 0, 2] : List UInt8) then (if t308 = true then (if bt312.2 = true then (some false) else (if (bt314.1 == 1 && (bt314.2.1.toList == ([107] : List UInt8) && (bt314.2.2.1.toList == ([0, 0, 0, 0, 0, 0, 0, 7] : List UInt8) && (bt314.2.2.2 == 0)))) = true then ((note_Right.f k bt314.1 bt314.2.1 bt314.2.2.1 bt314.2.2.2).bind fun t319 => (if t319 = true then ((note_Number.f k bt314.2.2.1).bind fun t320 => (if t320 = 7 then ((note_Number.f k (⟨#[55]⟩ : ByteArray)).bind fun t321 => (if t321 = 0 then (some true) else (some false))) else (some false))) else (some false))) else (some false))) else (some false)) else (some false)))) = some true := H
  have A1 := Aside0.mk A10
  clear A10
  obtain ⟨y309, hy309⟩ : ∃ y_ : List (S55), y_ = (([(⟨2, (⟨#[]⟩ : ByteArray), (⟨#[]⟩ : ByteArray), 0⟩ : S55)] : List (S55))) := ⟨_, rfl⟩
  replace H : ((note_Done.f k (⟨#[120]⟩ : ByteArray) true y309).bind fun bt312 => ((note_Both.f k 2 (⟨#[107]⟩ : ByteArray) (⟨#[]⟩ : ByteArray) 0 3 (⟨#[107]⟩ : ByteArray) (⟨#[]⟩ : ByteArray) 7).bind fun bt314 => (if t307.toList = ([0, 0, 0, 0, 0, 0, 0, 2] : List UInt8) then (if t308 = true then (if bt312.2 = true then (some false) else (if (bt314.1 == 1 && (bt314.2.1.toList == ([107] : List UInt8) && (bt314.2.2.1.toList == ([0, 0, 0, 0, 0, 0, 0, 7] : List UInt8) && (bt314.2.2.2 == 0)))) = true then ((note_Right.f k bt314.1 bt314.2.1 bt314.2.2.1 bt314.2.2.2).bind fun t319 => (if t319 = true then ((note_Number.f k bt314.2.2.1).bind fun t320 => (if t320 = 7 then ((note_Number.f k (⟨#[55]⟩ : ByteArray)).bind fun t321 => (if t321 = 0 then (some true) else (some false))) else (some false))) else (some false))) else (some false))) else (some false)) else (some false)))) = some true := by first | (rw [hy309]; with_reducible exact H) | (have H2_ := (Option.bind_some _ _).symm.trans H; rw [hy309]; with_reducible exact H2_) | (have H2_ := (Option.bind_some _ _).symm.trans H; with_reducible exact H2_) | with_reducible exact H | (rw [hy309]; exact H) | exact H
  have Ny309 := Aside0.mk hy309
  clear hy309
  replace H := Option.bind_eq_some_iff.mp H
  obtain ⟨⟨t312, t313⟩, A20, H⟩ := H
  replace H : ((note_Both.f k 2 (⟨#[107]⟩ : ByteArray) (⟨#[]⟩ : ByteArray) 0 3 (⟨#[107]⟩ : ByteArray) (⟨#[]⟩ : ByteArray) 7).bind fun bt314 => (if t307.toList = ([0, 0, 0, 0, 0, 0, 0, 2] : List UInt8) then (if t308 = true then (if t313 = true then (some false) else (if (bt314.1 == 1 && (bt314.2.1.toList == ([107] : List UInt8) && (bt314.2.2.1.toList == ([0, 0, 0, 0, 0, 0, 0, 7] : List UInt8) && (bt314.2.2.2 == 0)))) = true then ((note_Right.f k bt314.1 bt314.2.1 bt314.2.2.1 bt314.2.2.2).bind fun t319 => (if t319 = true then ((note_Number.f k bt314.2.2.1).bind fun t320 => (if t320 = 7 then ((note_Number.f k (⟨#[55]⟩ : ByteArray)).bind fun t321 => (if t321 = 0 then (some true) else (some false))) else (some false))) else (some false))) else (some false))) else (some false)) else (some false))) = some true := H
  have A2 := Aside0.mk A20
  clear A20
  replace H := Option.bind_eq_some_iff.mp H
  obtain ⟨⟨t314, t315, t316, t317⟩, A30, H⟩ := H
  replace H : (if t307.toList = ([0, 0, 0, 0, 0, 0, 0, 2] : List UInt8) then (if t308 = true then (if t313 = true then (some false) else (if (t314 == 1 && (t315.toList == ([107] : List UInt8) && (t316.toList == ([0, 0, 0, 0, 0, 0, 0, 7] : List UInt8) && (t317 == 0)))) = true then ((note_Right.f k t314 t315 t316 t317).bind fun t319 => (if t319 = true then ((note_Number.f k t316).bind fun t320 => (if t320 = 7 then ((note_Number.f k (⟨#[55]⟩ : ByteArray)).bind fun t321 => (if t321 = 0 then (some true) else (some false))) else (some false))) else (some false))) else (some false))) else (some false)) else (some false)) = some true := H
  have A3 := Aside0.mk A30
  clear A30
  by_cases c4 : t307.toList = ([0, 0, 0, 0, 0, 0, 0, 2] : List UInt8)
  · rw [if_pos c4] at H
    have c4b0 : (t307.toList == ([0, 0, 0, 0, 0, 0, 0, 2] : List UInt8)) = true := beq_iff_eq.mpr c4
    have c4b1 : (t307.toList != ([0, 0, 0, 0, 0, 0, 0, 2] : List UInt8)) = false := bne_eq_false_iff_eq.mpr c4
    clear c4
    by_cases c5 : t308 = true
    · subst c5
      have H1 : (if t313 = true then (some false) else (if (t314 == 1 && (t315.toList == ([107] : List UInt8) && (t316.toList == ([0, 0, 0, 0, 0, 0, 0, 7] : List UInt8) && (t317 == 0)))) = true then ((note_Right.f k t314 t315 t316 t317).bind fun t319 => (if t319 = true then ((note_Number.f k t316).bind fun t320 => (if t320 = 7 then ((note_Number.f k (⟨#[55]⟩ : ByteArray)).bind fun t321 => (if t321 = 0 then (some true) else (some false))) else (some false))) else (some false))) else (some false))) = some true := by rw [if_pos rfl] at H; exact H
      clear H
      have H := H1
      clear H1
      by_cases c6 : t313 = true
      · subst c6
        have H1 : (some false) = some true := by rw [if_pos rfl] at H; exact H
        clear H
        have H := H1
        clear H1
        exact absurd H (by simp)
      · replace c6 := Bool.eq_false_iff.mpr c6
        subst c6
        have H1 : (if (t314 == 1 && (t315.toList == ([107] : List UInt8) && (t316.toList == ([0, 0, 0, 0, 0, 0, 0, 7] : List UInt8) && (t317 == 0)))) = true then ((note_Right.f k t314 t315 t316 t317).bind fun t319 => (if t319 = true then ((note_Number.f k t316).bind fun t320 => (if t320 = 7 then ((note_Number.f k (⟨#[55]⟩ : ByteArray)).bind fun t321 => (if t321 = 0 then (some true) else (some false))) else (some false))) else (some false))) else (some false)) = some true := by rw [if_neg (show ¬ (false = true) by decide)] at H; exact H
        clear H
        have H := H1
        clear H1
        by_cases c7 : (t314 == 1 && (t315.toList == ([107] : List UInt8) && (t316.toList == ([0, 0, 0, 0, 0, 0, 0, 7] : List UInt8) && (t317 == 0)))) = true
        · rw [if_pos c7] at H
          have c7b0 : (t314 == 1 && (t315.toList == ([107] : List UInt8) && (t316.toList == ([0, 0, 0, 0, 0, 0, 0, 7] : List UInt8) && (t317 == 0)))) = true := c7
          (try (have c7b1 : decide (t314 = 1 && (t315.toList == ([107] : List UInt8) && (t316.toList == ([0, 0, 0, 0, 0, 0, 0, 7] : List UInt8) && (t317 == 0)))) = true := by simpa using c7))
          (try (have c7b2 : (t314 == 1 && (t315.toList == ([107] : List UInt8) && (t316.toList == ([0, 0, 0, 0, 0, 0, 0, 7] : List UInt8) && (t317 == 0)))) = true := by simpa using c7))
          clear c7
          obtain ⟨rfl, x315, x316, rfl⟩ : t314 = 1 ∧ t315.toList = [107] ∧ t316.toList = [0, 0, 0, 0, 0, 0, 0, 7] ∧ t317 = 0 := by simpa using c7b0
          obtain rfl : t315 = (⟨#[107]⟩ : ByteArray) := str_of x315
          obtain rfl : t316 = (⟨#[0, 0, 0, 0, 0, 0, 0, 7]⟩ : ByteArray) := str_of x316
          clear x315 x316 c7b0
          (try clear c7b1)
          (try clear c7b2)
          replace H := Option.bind_eq_some_iff.mp H
          obtain ⟨t319, A80, H⟩ := H
          replace H : (if t319 = true then ((note_Number.f k (⟨#[0, 0, 0, 0, 0, 0, 0, 7]⟩ : ByteArray)).bind fun t320 => (if t320 = 7 then ((note_Number.f k (⟨#[55]⟩ : ByteArray)).bind fun t321 => (if t321 = 0 then (some true) else (some false))) else (some false))) else (some false)) = some true := H
          have A8 := Aside0.mk A80
          clear A80
          by_cases c9 : t319 = true
          · subst c9
            have H1 : ((note_Number.f k (⟨#[0, 0, 0, 0, 0, 0, 0, 7]⟩ : ByteArray)).bind fun t320 => (if t320 = 7 then ((note_Number.f k (⟨#[55]⟩ : ByteArray)).bind fun t321 => (if t321 = 0 then (some true) else (some false))) else (some false))) = some true := by rw [if_pos rfl] at H; exact H
            clear H
            have H := H1
            clear H1
            replace H := Option.bind_eq_some_iff.mp H
            obtain ⟨t320, A100, H⟩ := H
            replace H : (if t320 = 7 then ((note_Number.f k (⟨#[55]⟩ : ByteArray)).bind fun t321 => (if t321 = 0 then (some true) else (some false))) else (some false)) = some true := H
            have A10 := Aside0.mk A100
            clear A100
            by_cases c11 : t320 = 7
            · rw [if_pos c11] at H
              have c11b0 : (t320 == 7) = true := beq_iff_eq.mpr c11
              have c11b1 : (t320 != 7) = false := bne_eq_false_iff_eq.mpr c11
              clear c11
              replace H := Option.bind_eq_some_iff.mp H
              obtain ⟨t321, A120, H⟩ := H
              replace H : (if t321 = 0 then (some true) else (some false)) = some true := H
              have A12 := Aside0.mk A120
              clear A120
              by_cases c13 : t321 = 0
              · rw [if_pos c13] at H
                have c13b0 : (t321 == 0) = true := beq_iff_eq.mpr c13
                have c13b1 : (t321 != 0) = false := bne_eq_false_iff_eq.mpr c13
                clear c13
                (have H9_ := Option.some.inj H; first | subst H9_ | (have h9_ := Aside0.mk H9_; clear H9_))
                go_enter Try.func29, Try.ntmps29
                go_wp2_with (first | ((with_reducible refine gate_dst (N := 9) rfl ?_); refine Kd.R_lit k55 _ 55 ?hg (N := 9) ?hd (xs := ([(⟨3, (⟨#[]⟩ : ByteArray), (⟨#[]⟩ : ByteArray), 5⟩ : S55), (⟨3, (⟨#[]⟩ : ByteArray), (⟨#[]⟩ : ByteArray), 18446744073709551613⟩ : S55)] : List (S55))) (inner := [.int .i64 3, .string (⟨#[]⟩ : ByteArray), .string (⟨#[]⟩ : ByteArray), .int .u64 5, .int .i64 3, .string (⟨#[]⟩ : ByteArray), .string (⟨#[]⟩ : ByteArray), .int .u64 18446744073709551613]) (ok := fun _ => True) (okp := fun _ => True) ?hr ?hp (fun _ hk => hk) trivial (Below.refl _ _) (Nat.le_refl _) (by simp) ?_; (case hd => rfl); (case hg => rfl); (case hr => first | (go_simp; done) | (go_simp; rfl)); (case hp => exact (Reps.c4 (show Kd.M k55 _ _ _ (⟨3, (⟨#[]⟩ : ByteArray), (⟨#[]⟩ : ByteArray), 5⟩ : S55) [.int .i64 3, .string (⟨#[]⟩ : ByteArray), .string (⟨#[]⟩ : ByteArray), .int .u64 5] from (k55_mkM _ _ _ (⟨3, (⟨#[]⟩ : ByteArray), (⟨#[]⟩ : ByteArray), 5⟩ : S55) )) (Reps.c4 (show Kd.M k55 _ _ _ (⟨3, (⟨#[]⟩ : ByteArray), (⟨#[]⟩ : ByteArray), 18446744073709551613⟩ : S55) [.int .i64 3, .string (⟨#[]⟩ : ByteArray), .string (⟨#[]⟩ : ByteArray), .int .u64 18446744073709551613] from (k55_mkM _ _ _ (⟨3, (⟨#[]⟩ : ByteArray), (⟨#[]⟩ : ByteArray), 18446744073709551613⟩ : S55) )) (Reps.none _ _)))); intro v305 w14 ho15 hb hg_ hnew_; clear hg_ hnew_; (first | rw [← Ny304.out] at ho15 | (simp only [Int.reduceToNat] at ho15; rw [← Ny304.out] at ho15)); have n0_ := Aside0.mk (Kd.R_lower ho15 (below_size (by repeat (first | (with_reducible first | exact HB.out | apply below_alloc | apply pw_below_drewN | apply below_drew1) | exact HB.out)))); have n1_ := Aside0.mk (below_step (by repeat (first | (with_reducible first | exact HB.out | apply below_alloc | apply pw_below_drewN | apply below_drew1) | exact HB.out)) hb); clear HB; have HO306 := n0_; have HB := n1_; clear n0_ n1_; clear hb ho15; obtain ⟨Ao16, co16, eo16⟩ := Kd.R_slice HO306.out; subst eo16) | ((with_reducible refine gate_callee (f := 30) rfl ?_); refine goesL_ (some 10) rfl rfl Try.func30 (by kernel_rfl) rfl #[.string (⟨#[120]⟩ : ByteArray), .bool true, .slice Ao16 y304.length co16] rfl (by (try simp only [List.map_toArray, List.map_cons, List.map_nil]); first | done | rfl | (simp only [List.length_drop, List.length_take]; rfl)) ?_; (with_reducible refine (note_Done.calls k (⟨#[120]⟩ : ByteArray) true _ _ y304 t307 true _ ?side1 ?side2 A1.out).mono ?_); (case side1 => repeat (first | exact (Kd.R_reads' HO306.out).2.2 | (with_reducible refine Kd.C_alloc ?_ _) | (with_reducible refine Kd.C_drewN ?_ _) | (with_reducible refine Kd.C_drew ?_))); (case side2 => exact (Kd.R_reads' HO306.out).2.1); rintro e w17 ⟨rfl, hb⟩; refine ⟨_, rfl, ?_⟩; have n0_ := Aside0.mk (Kd.R_below (by (with_reducible repeat (first | apply Kd.R_alloc | apply Kd.R_drewN | apply Kd.R_drew)); exact HO306.out) hb); have n1_ := Aside0.mk (below_step (by repeat (first | (with_reducible first | exact HB.out | apply below_alloc | apply pw_below_drewN | apply below_drew1) | exact HB.out)) hb); clear HO306; clear HB; have HO306 := n0_; have HB := n1_; clear n0_ n1_; (try clear hb); (try clear hb2); (try clear hk); (try clear hi)) | ((with_reducible refine gate_dst (N := 15) rfl ?_); refine Kd.R_lit k55 _ 55 ?hg (N := 15) ?hd (xs := ([(⟨2, (⟨#[]⟩ : ByteArray), (⟨#[]⟩ : ByteArray), 0⟩ : S55)] : List (S55))) (inner := [.int .i64 2, .string (⟨#[]⟩ : ByteArray), .string (⟨#[]⟩ : ByteArray), .int .u64 0]) (ok := fun _ => True) (okp := fun _ => True) ?hr ?hp (fun _ hk => hk) trivial (Below.refl _ _) (Nat.le_refl _) (by simp) ?_; (case hd => rfl); (case hg => rfl); (case hr => first | (go_simp; done) | (go_simp; rfl)); (case hp => exact (Reps.c4 (show Kd.M k55 _ _ _ (⟨2, (⟨#[]⟩ : ByteArray), (⟨#[]⟩ : ByteArray), 0⟩ : S55) [.int .i64 2, .string (⟨#[]⟩ : ByteArray), .string (⟨#[]⟩ : ByteArray), .int .u64 0] from (k55_mkM _ _ _ (⟨2, (⟨#[]⟩ : ByteArray), (⟨#[]⟩ : ByteArray), 0⟩ : S55) )) (Reps.none _ _))); intro v310 w18 ho19 hb hg_ hnew_; clear hg_ hnew_; (first | rw [← Ny309.out] at ho19 | (simp only [Int.reduceToNat] at ho19; rw [← Ny309.out] at ho19)); have n0_ := Aside0.mk (Kd.R_elder' (by (with_reducible repeat (first | apply Kd.R_alloc | apply Kd.R_drewN | apply Kd.R_drew)); exact HO306.out) (Kd.R_base ho19) hb); have n1_ := Aside0.mk (Kd.R_lower (Kd.R_new' ho19 (Kd.R_lt (by (with_reducible repeat (first | apply Kd.R_alloc | apply Kd.R_drewN | apply Kd.R_drew)); exact HO306.out))) (below_size (by repeat (first | (with_reducible first | exact HB.out | apply below_alloc | apply pw_below_drewN | apply below_drew1) | exact HB.out)))); have n2_ := Aside0.mk (below_step (by repeat (first | (with_reducible first | exact HB.out | apply below_alloc | apply pw_below_drewN | apply below_drew1) | exact HB.out)) hb); clear HO306; clear HB; have HO306 := n0_; have HO311 := n1_; have HB := n2_; clear n0_ n1_ n2_; clear hb ho19; obtain ⟨Ao20, co20, eo20⟩ := Kd.R_slice HO311.out; subst eo20) | ((with_reducible refine gate_callee (f := 30) rfl ?_); refine goesL_ (some 16) rfl rfl Try.func30 (by kernel_rfl) rfl #[.string (⟨#[120]⟩ : ByteArray), .bool true, .slice Ao20 y309.length co20] rfl (by (try simp only [List.map_toArray, List.map_cons, List.map_nil]); first | done | rfl | (simp only [List.length_drop, List.length_take]; rfl)) ?_; (with_reducible refine (note_Done.calls k (⟨#[120]⟩ : ByteArray) true _ _ y309 t312 false _ ?side1 ?side2 A2.out).mono ?_); (case side1 => repeat (first | exact (Kd.R_reads' HO311.out).2.2 | (with_reducible refine Kd.C_alloc ?_ _) | (with_reducible refine Kd.C_drewN ?_ _) | (with_reducible refine Kd.C_drew ?_))); (case side2 => exact (Kd.R_reads' HO311.out).2.1); rintro e w21 ⟨rfl, hb⟩; refine ⟨_, rfl, ?_⟩; have n0_ := Aside0.mk (Kd.R_below (by (with_reducible repeat (first | apply Kd.R_alloc | apply Kd.R_drewN | apply Kd.R_drew)); exact HO306.out) hb); have n1_ := Aside0.mk (Kd.R_below (by (with_reducible repeat (first | apply Kd.R_alloc | apply Kd.R_drewN | apply Kd.R_drew)); exact HO311.out) hb); have n2_ := Aside0.mk (below_step (by repeat (first | (with_reducible first | exact HB.out | apply below_alloc | apply pw_below_drewN | apply below_drew1) | exact HB.out)) hb); clear HO306; clear HO311; clear HB; have HO306 := n0_; have HO311 := n1_; have HB := n2_; clear n0_ n1_ n2_; (try clear hb); (try clear hb2); (try clear hk); (try clear hi)) | ((with_reducible refine gate_callee (f := 31) rfl ?_); refine goesL_ (some 21) rfl rfl Try.func31 (by kernel_rfl) rfl #[.agg #[.int .i64 2, .string (⟨#[107]⟩ : ByteArray), .string (⟨#[]⟩ : ByteArray), .int .u64 0], .agg #[.int .i64 3, .string (⟨#[107]⟩ : ByteArray), .string (⟨#[]⟩ : ByteArray), .int .u64 7]] rfl (by (try simp only [List.map_toArray, List.map_cons, List.map_nil]); first | done | rfl | (simp only [List.length_drop, List.length_take]; rfl)) ?_; (with_reducible refine (note_Both.calls k 2 (⟨#[107]⟩ : ByteArray) (⟨#[]⟩ : ByteArray) 0 3 (⟨#[107]⟩ : ByteArray) (⟨#[]⟩ : ByteArray) 7 1 (⟨#[107]⟩ : ByteArray) (⟨#[0, 0, 0, 0, 0, 0, 0, 7]⟩ : ByteArray) 0 _ A3.out).mono ?_); rintro e w22 ⟨rfl, hb⟩; refine ⟨_, rfl, ?_⟩; have n0_ := Aside0.mk (Kd.R_below (by (with_reducible repeat (first | apply Kd.R_alloc | apply Kd.R_drewN | apply Kd.R_drew)); exact HO306.out) hb); have n1_ := Aside0.mk (Kd.R_below (by (with_reducible repeat (first | apply Kd.R_alloc | apply Kd.R_drewN | apply Kd.R_drew)); exact HO311.out) hb); have n2_ := Aside0.mk (below_step (by repeat (first | (with_reducible first | exact HB.out | apply below_alloc | apply pw_below_drewN | apply below_drew1) | exact HB.out)) hb); clear HO306; clear HO311; clear HB; have HO306 := n0_; have HO311 := n1_; have HB := n2_; clear n0_ n1_ n2_; (try clear hb); (try clear hb2); (try clear hk); (try clear hi)) | ((with_reducible refine gate_dst (N := 5) rfl ?_); refine box_event ?hg (N := 5) ?hd (cs := #[.int .i64 0, .string (⟨#[]⟩ : ByteArray), .string (⟨#[]⟩ : ByteArray), .int .u64 0]) (t := 55) ?hr ?_; (case hd => rfl); (case hg => rfl); (case hr => first | (go_simp; done) | (go_simp; rfl)); intro gb318 hg w23 hbox hb; have n0_ := Aside0.mk (Kd.R_below (Kd.R_elderB (by (with_reducible repeat (first | apply Kd.R_alloc | apply Kd.R_drewN | apply Kd.R_drew)); exact HO306.out) gb318 (Nat.le_of_eq hg.symm)) hb); have n1_ := Aside0.mk (Kd.R_below (Kd.R_elderB (by (with_reducible repeat (first | apply Kd.R_alloc | apply Kd.R_drewN | apply Kd.R_drew)); exact HO311.out) gb318 (Nat.le_of_eq hg.symm)) hb); have n2_ := Aside0.mk (below_step (by repeat (first | (with_reducible first | exact HB.out | apply below_alloc | apply pw_below_drewN | apply below_drew1) | exact HB.out)) hb); have n3_ := Aside0.mk (hbox); have n4_ := Aside0.mk ((by rw [hg]; exact (below_size (by repeat (first | (with_reducible first | exact HB.out | apply below_alloc | apply pw_below_drewN | apply below_drew1) | exact HB.out))) : w.heap.size ≤ gb318)); have n5_ := Aside0.mk ((by rw [hg]; exact (below_size (by repeat (first | (with_reducible first | exact HB.out | apply below_alloc | apply pw_below_drewN | apply below_drew1) | exact HB.out))) : w.heap.size ≤ gb318)); clear HO306; clear HO311; clear HB; have HO306 := n0_; have HO311 := n1_; have HB := n2_; have BK318 := n3_; have GW318 := n4_; have GE318 := n5_; clear n0_ n1_ n2_ n3_ n4_ n5_; clear hb hbox hg; have hcz24_0 : w23.cell? ⟨gb318, 0, none⟩ = some (.int .i64 0) := (blk_cell BK318.out 0).trans rfl; have hcz24_1 : w23.cell? ⟨gb318, 1, none⟩ = some (.string (⟨#[]⟩ : ByteArray)) := (blk_cell BK318.out 1).trans rfl; have hcz24_2 : w23.cell? ⟨gb318, 2, none⟩ = some (.string (⟨#[]⟩ : ByteArray)) := (blk_cell BK318.out 2).trans rfl; have hcz24_3 : w23.cell? ⟨gb318, 3, none⟩ = some (.int .u64 0) := (blk_cell BK318.out 3).trans rfl; have hfz24_0 := blk_frozen BK318.out 0; have hfz24_1 := blk_frozen BK318.out 1; have hfz24_2 := blk_frozen BK318.out 2; have hfz24_3 := blk_frozen BK318.out 3) | (go_at_call 32; (with_reducible refine (note_Right.calls k 1 (⟨#[107]⟩ : ByteArray) (⟨#[0, 0, 0, 0, 0, 0, 0, 7]⟩ : ByteArray) 0 true _ A8.out).mono ?_); rintro e w25 ⟨rfl, hb⟩; have n0_ := Aside0.mk (Kd.R_below (by (with_reducible repeat (first | apply Kd.R_alloc | apply Kd.R_drewN | apply Kd.R_drew)); exact (Kd.R_mono (Kd.R_far (p := ⟨gb318, 3, none⟩) (Kd.R_far (p := ⟨gb318, 2, none⟩) (Kd.R_far (p := ⟨gb318, 1, none⟩) (Kd.R_far (p := ⟨gb318, 0, none⟩) (Kd.R_mono HO306.out (fun k_ hk => (⟨hk, hk.2⟩ : _ ∧ k_ ≠ gb318))) (fun _ hk => hk.2) (.int .i64 1)) (fun _ hk => hk.2) (.string (⟨#[107]⟩ : ByteArray))) (fun _ hk => hk.2) (.string (⟨#[0, 0, 0, 0, 0, 0, 0, 7]⟩ : ByteArray))) (fun _ hk => hk.2) (.int .u64 0)) (fun _ h_ => h_.1))) hb); have n1_ := Aside0.mk (Kd.R_below (by (with_reducible repeat (first | apply Kd.R_alloc | apply Kd.R_drewN | apply Kd.R_drew)); exact (Kd.R_mono (Kd.R_far (p := ⟨gb318, 3, none⟩) (Kd.R_far (p := ⟨gb318, 2, none⟩) (Kd.R_far (p := ⟨gb318, 1, none⟩) (Kd.R_far (p := ⟨gb318, 0, none⟩) (Kd.R_mono HO311.out (fun k_ hk => (⟨hk, hk.2⟩ : _ ∧ k_ ≠ gb318))) (fun _ hk => hk.2) (.int .i64 1)) (fun _ hk => hk.2) (.string (⟨#[107]⟩ : ByteArray))) (fun _ hk => hk.2) (.string (⟨#[0, 0, 0, 0, 0, 0, 0, 7]⟩ : ByteArray))) (fun _ hk => hk.2) (.int .u64 0)) (fun _ h_ => h_.1))) hb); have n2_ := Aside0.mk (blk_below (g := gb318) (o := .cells #[.int .i64 1, .string (⟨#[107]⟩ : ByteArray), .string (⟨#[0, 0, 0, 0, 0, 0, 0, 7]⟩ : ByteArray), .int .u64 0] 55 (0, 0)) (by (with_reducible repeat (first | refine blk_drewN ?_ _ | refine blk_drew ?_ | refine blk_alloc ?_ _)); refine blk_put (cs := #[.int .i64 1, .string (⟨#[107]⟩ : ByteArray), .string (⟨#[0, 0, 0, 0, 0, 0, 0, 7]⟩ : ByteArray), .int .u64 0]) ?_ 3 _ rfl; (with_reducible repeat (first | refine blk_drewN ?_ _ | refine blk_drew ?_ | refine blk_alloc ?_ _)); refine blk_put (cs := #[.int .i64 1, .string (⟨#[107]⟩ : ByteArray), .string (⟨#[]⟩ : ByteArray), .int .u64 0]) ?_ 2 _ rfl; (with_reducible repeat (first | refine blk_drewN ?_ _ | refine blk_drew ?_ | refine blk_alloc ?_ _)); refine blk_put (cs := #[.int .i64 1, .string (⟨#[]⟩ : ByteArray), .string (⟨#[]⟩ : ByteArray), .int .u64 0]) ?_ 1 _ rfl; (with_reducible repeat (first | refine blk_drewN ?_ _ | refine blk_drew ?_ | refine blk_alloc ?_ _)); refine blk_put (cs := #[.int .i64 0, .string (⟨#[]⟩ : ByteArray), .string (⟨#[]⟩ : ByteArray), .int .u64 0]) ?_ 0 _ rfl; (with_reducible repeat (first | refine blk_drewN ?_ _ | refine blk_drew ?_ | refine blk_alloc ?_ _)); exact BK318.out) hb); have n3_ := Aside0.mk (below_step (by repeat (first | (with_reducible first | exact HB.out | apply below_alloc | apply pw_below_drewN | apply below_drew1 | refine below_set ?_ GE318.out) | exact HB.out)) hb); clear HO306; clear HO311; clear BK318; clear HB; have HO306 := n0_; have HO311 := n1_; have BK318 := n2_; have HB := n3_; clear n0_ n1_ n2_ n3_; (try clear hb); (try clear hb2); (try clear hk); (try clear hi); have hcz26_0 : w25.cell? ⟨gb318, 0, none⟩ = some (.int .i64 1) := (blk_cell BK318.out 0).trans rfl; have hcz26_1 : w25.cell? ⟨gb318, 1, none⟩ = some (.string (⟨#[107]⟩ : ByteArray)) := (blk_cell BK318.out 1).trans rfl; have hcz26_2 : w25.cell? ⟨gb318, 2, none⟩ = some (.string (⟨#[0, 0, 0, 0, 0, 0, 0, 7]⟩ : ByteArray)) := (blk_cell BK318.out 2).trans rfl; have hcz26_3 : w25.cell? ⟨gb318, 3, none⟩ = some (.int .u64 0) := (blk_cell BK318.out 3).trans rfl; have hfz26_0 := blk_frozen BK318.out 0; have hfz26_1 := blk_frozen BK318.out 1; have hfz26_2 := blk_frozen BK318.out 2; have hfz26_3 := blk_frozen BK318.out 3) | (go_at_call 33; (with_reducible refine (note_Number.calls k (⟨#[0, 0, 0, 0, 0, 0, 0, 7]⟩ : ByteArray) t320 _ A10.out).mono ?_); rintro e w' ⟨rfl, ⟨nd, rfl⟩⟩) | (go_at_call 33; (with_reducible refine (note_Number.calls k (⟨#[55]⟩ : ByteArray) t321 _ A12.out).mono ?_); rintro e w' ⟨rfl, ⟨nd, rfl⟩⟩))
                go_ret
                exact ⟨by first | rfl | (simp only [h9_.out]; done) | (have h8_ := h9_.out; simp [h8_]; done) | (simp [errW_none, errW_some] <;> rfl) | (simp [*, errW_none, errW_some] <;> rfl), by repeat (first | (with_reducible first | exact HB.out | apply below_alloc | apply pw_below_drewN | apply below_drew1 | refine below_set ?_ GE318.out) | exact HB.out)⟩
              · rw [if_neg c13] at H
                have c13b0 : (t321 == 0) = false := beq_eq_false_iff_ne.mpr c13
                have c13b1 : (t321 != 0) = true := bne_iff_ne.mpr c13
                exact absurd H (by simp)
            · rw [if_neg c11] at H
              have c11b0 : (t320 == 7) = false := beq_eq_false_iff_ne.mpr c11
              have c11b1 : (t320 != 7) = true := bne_iff_ne.mpr c11
              exact absurd H (by simp)
          · replace c9 := Bool.eq_false_iff.mpr c9
            subst c9
            have H1 : (some false) = some true := by rw [if_neg (show ¬ (false = true) by decide)] at H; exact H
            clear H
            have H := H1
            clear H1
            exact absurd H (by simp)
        · rw [if_neg c7] at H
          have c7b0 : (t314 == 1 && (t315.toList == ([107] : List UInt8) && (t316.toList == ([0, 0, 0, 0, 0, 0, 0, 7] : List UInt8) && (t317 == 0)))) = false := by simpa using c7
          (try (have c7b1 : decide (t314 = 1 && (t315.toList == ([107] : List UInt8) && (t316.toList == ([0, 0, 0, 0, 0, 0, 0, 7] : List UInt8) && (t317 == 0)))) = false := by simpa using c7))
          (try (have c7b2 : (t314 == 1 && (t315.toList == ([107] : List UInt8) && (t316.toList == ([0, 0, 0, 0, 0, 0, 0, 7] : List UInt8) && (t317 == 0)))) = false := by simpa using c7))
          (try (have c7b3 : ¬ (t314 = 1 && (t315.toList == ([107] : List UInt8) && (t316.toList == ([0, 0, 0, 0, 0, 0, 0, 7] : List UInt8) && (t317 == 0)))) := by simpa using c7))
          clear c7
          exact absurd H (by simp)
    · replace c5 := Bool.eq_false_iff.mpr c5
      subst c5
      have H1 : (some false) = some true := by rw [if_neg (show ¬ (false = true) by decide)] at H; exact H
      clear H
      have H := H1
      clear H1
      exact absurd H (by simp)
  · rw [if_neg c4] at H
    have c4b0 : (t307.toList == ([0, 0, 0, 0, 0, 0, 0, 2] : List UInt8)) = false := beq_eq_false_iff_ne.mpr c4
    have c4b1 : (t307.toList != ([0, 0, 0, 0, 0, 0, 0, 2] : List UInt8)) = true := bne_iff_ne.mpr c4
    exact absurd H (by simp)

end Go.Proofs.Ytgccimhdbphenaa.F
