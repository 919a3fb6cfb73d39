/- Contracts of Go functions of the seat Ytgccimhdbphenaa: what a call comes to; no condition but those that each theorem names. -/
import Derived.Test.YtgccimhdbphenaaFPre
import Derived.Test.YtgccimhdbphenaaFpack
import Derived.Test.YtgccimhdbphenaaFref01
namespace Go.Proofs.Ytgccimhdbphenaa.F
open Go.RowKit Go.Proofs.YtgccimhdbphenaaW.PrintWords Go.Proofs.YtgccimhdbphenaaW.PrintLast Go.Proofs.YtgccimhdbphenaaW.PrintMore
attribute [local go_sem] max2_int min2_int max_two min_two max_three min_three max_four min_four   -- for this text's walks alone
set_option linter.unusedVariables false
set_option linter.unusedSimpArgs false

/-! ### weirkeeperlaw01_awake: function 15 -/
def weirkeeperlaw01_awake.f (k : Nat)  : Option (Bool) := (pack_Texts.f k (([(⟨#[97, 98]⟩ : ByteArray), (⟨#[]⟩ : ByteArray)] : List ByteArray))).bind fun bt126 => ((pack_Parts.f k bt126.1).bind fun bt128 => ((pack_Take.f k (⟨#[1, 2, 120]⟩ : ByteArray) 2).bind fun bt132 => ((pack_Num.f k 256 1).bind fun bt135 => ((pack_TakeText.f k (⟨#[0, 3, 97, 98]⟩ : ByteArray)).bind fun bt137 => (if bt126.1.toList = ([0, 2, 97, 98, 0, 0] : List UInt8) then (if bt126.2 = 0 then ((weirkeeperref01_Same.f k bt128.1 (([(⟨#[97, 98]⟩ : ByteArray), (⟨#[]⟩ : ByteArray)] : List ByteArray))).bind fun t143 => (if t143 = true then (if bt128.2 = 0 then (if bt132.1 = 258 then (if bt132.2.1.toList = ([120] : List UInt8) then (if bt132.2.2 = 0 then (if bt135.2 = 1 then (if bt137.2.2 = 2 then (some true) else (some false)) else (some false)) else (some false)) else (some false)) else (some false)) else (some false)) else (some false))) else (some false)) else (some false))))))
theorem weirkeeperlaw01_awake.mono : ∀ k, LeO (weirkeeperlaw01_awake.f k ) (weirkeeperlaw01_awake.f (k + 1) ) := by
  intro  k
  unfold weirkeeperlaw01_awake.f
  repeat' first
      | (with_reducible exact pack_Num.mono _ _ _)
      | (with_reducible exact pack_Parts.mono _ _)
      | (with_reducible exact pack_Take.mono _ _ _)
      | (with_reducible exact pack_TakeText.mono _ _)
      | (with_reducible exact pack_Texts.mono _ _)
      | (with_reducible exact weirkeeperref01_Same.mono _ _ _)
      | (with_reducible exact LeO.refl _)
      | (with_reducible exact LeO.none _)
      | (with_reducible refine LeO.ite ?_ ?_)
      | (with_reducible refine LeO.bind ?_ (fun _ => ?_))
      | exact pack_Num.mono _ _ _
      | exact pack_Parts.mono _ _
      | exact pack_Take.mono _ _ _
      | exact pack_TakeText.mono _ _
      | exact pack_Texts.mono _ _
      | exact weirkeeperref01_Same.mono _ _ _
      | exact LeO.none _
      | refine LeO.ite ?_ ?_
      | refine LeO.bind ?_ (fun _ => ?_)
set_option maxHeartbeats 8000000 in
set_option maxRecDepth 100000 in
theorem weirkeeperlaw01_awake.calls (k : Nat)  (w : World) (h : weirkeeperlaw01_awake.f k  = some true) :
    Calls Try.prog 15 #[] w fun e w' => e = .returned (.bool true) ∧ Below w.heap.size w w' := by
  have HB := Aside0.mk (Below.refl w.heap.size w)
  have H : ((pack_Texts.f k (([(⟨#[97, 98]⟩ : ByteArray), (⟨#[]⟩ : ByteArray)] : List ByteArray))).bind fun bt126 => ((pack_Parts.f k bt126.1).bind fun bt128 => ((pack_Take.f k (⟨#[1, 2, 120]⟩ : ByteArray) 2).bind fun bt132 => ((pack_Num.f k 256 1).bind fun bt135 => ((pack_TakeText.f k (⟨#[0, 3, 97, 98]⟩ : ByteArray)).bind fun bt137 => (if bt126.1.toList = ([0, 2, 97, 98, 0, 0] : List UInt8) then (if bt126.2 = 0 then ((weirkeeperref01_Same.f k bt128.1 (([(⟨#[97, 98]⟩ : ByteArray), (⟨#[]⟩ : ByteArray)] : List ByteArray))).bind fun t143 => (if t143 = true then (if bt128.2 = 0 then (if bt132.1 = 258 then (if bt132.2.1.toList = ([120] : List UInt8) then (if bt132.2.2 = 0 then (if bt135.2 = 1 then (if bt137.2.2 = 2 then (some true) else (some false)) else (some false)) else (some false)) else (some false)) else (some false)) else (some false)) else (some false))) else (some false)) else (some false))))))) = some true := h
  clear h
  obtain ⟨y123, hy123⟩ : ∃ y_ : List ByteArray, y_ = (([(⟨#[97, 98]⟩ : ByteArray), (⟨#[]⟩ : ByteArray)] : List ByteArray)) := ⟨_, rfl⟩
  replace H : ((pack_Texts.f k y123).bind fun bt126 => ((pack_Parts.f k bt126.1).bind fun bt128 => ((pack_Take.f k (⟨#[1, 2, 120]⟩ : ByteArray) 2).bind fun bt132 => ((pack_Num.f k 256 1).bind fun bt135 => ((pack_TakeText.f k (⟨#[0, 3, 97, 98]⟩ : ByteArray)).bind fun bt137 => (if bt126.1.toList = ([0, 2, 97, 98, 0, 0] : List UInt8) then (if bt126.2 = 0 then ((weirkeeperref01_Same.f k bt128.1 (([(⟨#[97, 98]⟩ : ByteArray), (⟨#[]⟩ : ByteArray)] : List ByteArray))).bind fun t143 => (if t143 = true then (if bt128.2 = 0 then (if bt132.1 = 258 then (if bt132.2.1.toList = ([120] : List UInt8) then (if bt132.2.2 = 0 then (if bt135.2 = 1 then (if bt137.2.2 = 2 then (some true) else (some false)) else (some false)) else (some false)) else (some false)) else (some false)) else (some false)) else (some false))) else (some false)) else (some false))))))) = some true := by first | (rw [hy123]; with_reducible exact H) | (have H2_ := (Option.bind_some _ _).symm.trans H; rw [hy123]; with_reducible exact H2_) | (have H2_ := (Option.bind_some _ _).symm.trans H; with_reducible exact H2_) | with_reducible exact H | (rw [hy123]; exact H) | exact H
  have Ny123 := Aside0.mk hy123
  clear hy123
  replace H := Option.bind_eq_some_iff.mp H
  obtain ⟨⟨t126, t127⟩, A10, H⟩ := H
  replace H : ((pack_Parts.f k t126).bind fun bt128 => ((pack_Take.f k (⟨#[1, 2, 120]⟩ : ByteArray) 2).bind fun bt132 => ((pack_Num.f k 256 1).bind fun bt135 => ((pack_TakeText.f k (⟨#[0, 3, 97, 98]⟩ : ByteArray)).bind fun bt137 => (if t126.toList = ([0, 2, 97, 98, 0, 0] : List UInt8) then (if t127 = 0 then ((weirkeeperref01_Same.f k bt128.1 (([(⟨#[97, 98]⟩ : ByteArray), (⟨#[]⟩ : ByteArray)] : List ByteArray))).bind fun t143 => (if t143 = true then (if bt128.2 = 0 then (if bt132.1 = 258 then (if bt132.2.1.toList = ([120] : List UInt8) then (if bt132.2.2 = 0 then (if bt135.2 = 1 then (if bt137.2.2 = 2 then (some true) else (some false)) else (some false)) else (some false)) else (some false)) else (some false)) else (some false)) else (some false))) else (some false)) else (some false)))))) = some true := H
  have A1 := Aside0.mk A10
  clear A10
  replace H := Option.bind_eq_some_iff.mp H
  obtain ⟨⟨t128, t129⟩, A20, H⟩ := H
  replace H : ((pack_Take.f k (⟨#[1, 2, 120]⟩ : ByteArray) 2).bind fun bt132 => ((pack_Num.f k 256 1).bind fun bt135 => ((pack_TakeText.f k (⟨#[0, 3, 97, 98]⟩ : ByteArray)).bind fun bt137 => (if t126.toList = ([0, 2, 97, 98, 0, 0] : List UInt8) then (if t127 = 0 then ((weirkeeperref01_Same.f k t128 (([(⟨#[97, 98]⟩ : ByteArray), (⟨#[]⟩ : ByteArray)] : List ByteArray))).bind fun t143 => (if t143 = true then (if t129 = 0 then (if bt132.1 = 258 then (if bt132.2.1.toList = ([120] : List UInt8) then (if bt132.2.2 = 0 then (if bt135.2 = 1 then (if bt137.2.2 = 2 then (some true) else (some false)) else (some false)) else (some false)) else (some false)) else (some false)) else (some false)) else (some false))) else (some false)) else (some false))))) = some true := H
  have A2 := Aside0.mk A20
  clear A20
  replace H := Option.bind_eq_some_iff.mp H
  obtain ⟨⟨t132, t133, t134⟩, A30, H⟩ := H
  replace H : ((pack_Num.f k 256 1).bind fun bt135 => ((pack_TakeText.f k (⟨#[0, 3, 97, 98]⟩ : ByteArray)).bind fun bt137 => (if t126.toList = ([0, 2, 97, 98, 0, 0] : List UInt8) then (if t127 = 0 then ((weirkeeperref01_Same.f k t128 (([(⟨#[97, 98]⟩ : ByteArray), (⟨#[]⟩ : ByteArray)] : List ByteArray))).bind fun t143 => (if t143 = true then (if t129 = 0 then (if t132 = 258 then (if t133.toList = ([120] : List UInt8) then (if t134 = 0 then (if bt135.2 = 1 then (if bt137.2.2 = 2 then (some true) else (some false)) else (some false)) else (some false)) else (some false)) else (some false)) else (some false)) else (some false))) else (some false)) else (some false)))) = some true := H
  have A3 := Aside0.mk A30
  clear A30
  replace H := Option.bind_eq_some_iff.mp H
  obtain ⟨⟨t135, t136⟩, A40, H⟩ := H
  replace H : ((pack_TakeText.f k (⟨#[0, 3, 97, 98]⟩ : ByteArray)).bind fun bt137 => (if t126.toList = ([0, 2, 97, 98, 0, 0] : List UInt8) then (if t127 = 0 then ((weirkeeperref01_Same.f k t128 (([(⟨#[97, 98]⟩ : ByteArray), (⟨#[]⟩ : ByteArray)] : List ByteArray))).bind fun t143 => (if t143 = true then (if t129 = 0 then (if t132 = 258 then (if t133.toList = ([120] : List UInt8) then (if t134 = 0 then (if t136 = 1 then (if bt137.2.2 = 2 then (some true) else (some false)) else (some false)) else (some false)) else (some false)) else (some false)) else (some false)) else (some false))) else (some false)) else (some false))) = some true := H
  have A4 := Aside0.mk A40
  clear A40
  replace H := Option.bind_eq_some_iff.mp H
  obtain ⟨⟨t137, t138, t139⟩, A50, H⟩ := H
  replace H : (if t126.toList = ([0, 2, 97, 98, 0, 0] : List UInt8) then (if t127 = 0 then ((weirkeeperref01_Same.f k t128 (([(⟨#[97, 98]⟩ : ByteArray), (⟨#[]⟩ : ByteArray)] : List ByteArray))).bind fun t143 => (if t143 = true then (if t129 = 0 then (if t132 = 258 then (if t133.toList = ([120] : List UInt8) then (if t134 = 0 then (if t136 = 1 then (if t139 = 2 then (some true) else (some false)) else (some false)) else (some false)) else (some false)) else (some false)) else (some false)) else (some false))) else (some false)) else (some false)) = some true := H
  have A5 := Aside0.mk A50
  clear A50
  by_cases c6 : t126.toList = ([0, 2, 97, 98, 0, 0] : List UInt8)
  · rw [if_pos c6] at H
    have c6b0 : (t126.toList == ([0, 2, 97, 98, 0, 0] : List UInt8)) = true := beq_iff_eq.mpr c6
    have c6b1 : (t126.toList != ([0, 2, 97, 98, 0, 0] : List UInt8)) = false := bne_eq_false_iff_eq.mpr c6
    clear c6
    by_cases c7 : t127 = 0
    · rw [if_pos c7] at H
      have c7b0 : (t127 == 0) = true := beq_iff_eq.mpr c7
      have c7b1 : (t127 != 0) = false := bne_eq_false_iff_eq.mpr c7
      clear c7
      obtain ⟨y140, hy140⟩ : ∃ y_ : List ByteArray, y_ = (([(⟨#[97, 98]⟩ : ByteArray), (⟨#[]⟩ : ByteArray)] : List ByteArray)) := ⟨_, rfl⟩
      replace H : ((weirkeeperref01_Same.f k t128 y140).bind fun t143 => (if t143 = true then (if t129 = 0 then (if t132 = 258 then (if t133.toList = ([120] : List UInt8) then (if t134 = 0 then (if t136 = 1 then (if t139 = 2 then (some true) else (some false)) else (some false)) else (some false)) else (some false)) else (some false)) else (some false)) else (some false))) = some true := by first | (rw [hy140]; with_reducible exact H) | (have H2_ := (Option.bind_some _ _).symm.trans H; rw [hy140]; with_reducible exact H2_) | (have H2_ := (Option.bind_some _ _).symm.trans H; with_reducible exact H2_) | with_reducible exact H | (rw [hy140]; exact H) | exact H
      have Ny140 := Aside0.mk hy140
      clear hy140
      replace H := Option.bind_eq_some_iff.mp H
      obtain ⟨t143, A80, H⟩ := H
      replace H : (if t143 = true then (if t129 = 0 then (if t132 = 258 then (if t133.toList = ([120] : List UInt8) then (if t134 = 0 then (if t136 = 1 then (if t139 = 2 then (some true) else (some false)) else (some false)) else (some false)) else (some false)) else (some false)) else (some false)) else (some false)) = some true := H
      have A8 := Aside0.mk A80
      clear A80
      by_cases c9 : t143 = true
      · subst c9
        have H1 : (if t129 = 0 then (if t132 = 258 then (if t133.toList = ([120] : List UInt8) then (if t134 = 0 then (if t136 = 1 then (if t139 = 2 then (some true) else (some false)) else (some false)) else (some false)) else (some false)) else (some false)) else (some false)) = some true := by rw [if_pos rfl] at H; exact H
        clear H
        have H := H1
        clear H1
        by_cases c10 : t129 = 0
        · rw [if_pos c10] at H
          have c10b0 : (t129 == 0) = true := beq_iff_eq.mpr c10
          have c10b1 : (t129 != 0) = false := bne_eq_false_iff_eq.mpr c10
          clear c10
          by_cases c11 : t132 = 258
          · rw [if_pos c11] at H
            have c11b0 : (t132 == 258) = true := beq_iff_eq.mpr c11
            have c11b1 : (t132 != 258) = false := bne_eq_false_iff_eq.mpr c11
            clear c11
            by_cases c12 : t133.toList = ([120] : List UInt8)
            · rw [if_pos c12] at H
              have c12b0 : (t133.toList == ([120] : List UInt8)) = true := beq_iff_eq.mpr c12
              have c12b1 : (t133.toList != ([120] : List UInt8)) = false := bne_eq_false_iff_eq.mpr c12
              clear c12
              by_cases c13 : t134 = 0
              · rw [if_pos c13] at H
                have c13b0 : (t134 == 0) = true := beq_iff_eq.mpr c13
                have c13b1 : (t134 != 0) = false := bne_eq_false_iff_eq.mpr c13
                clear c13
                by_cases c14 : t136 = 1
                · rw [if_pos c14] at H
                  have c14b0 : (t136 == 1) = true := beq_iff_eq.mpr c14
                  have c14b1 : (t136 != 1) = false := bne_eq_false_iff_eq.mpr c14
                  clear c14
                  by_cases c15 : t139 = 2
                  · rw [if_pos c15] at H
                    have c15b0 : (t139 == 2) = true := beq_iff_eq.mpr c15
                    have c15b1 : (t139 != 2) = false := bne_eq_false_iff_eq.mpr c15
                    clear c15
                    (have H9_ := Option.some.inj H; first | subst H9_ | clear H9_)
                    go_enter Try.func15, Try.ntmps15
                    go_wp2_with (first | ((with_reducible refine gate_dst (N := 14) rfl ?_); (try (refine gate_guard (by rfl) ?_; dsimp only)); refine Kd.R_lit Kd.string _ 9 ?hg (N := 14) ?hd (xs := ([(⟨#[97, 98]⟩ : ByteArray), (⟨#[]⟩ : ByteArray)] : List ByteArray)) (inner := [.string (⟨#[97, 98]⟩ : ByteArray), .string (⟨#[]⟩ : ByteArray)]) (ok := fun _ => True) (okp := fun _ => True) ?hr ?hp (fun _ hk => hk) trivial (Below.refl _ _) (Nat.le_refl _) (by simp) ?_; (case hd => rfl); (case hg => rfl); (case hr => first | (go_simp; done) | (go_simp; rfl)); (case hp => exact (Reps.one (show Kd.M Kd.string _ _ _ (⟨#[97, 98]⟩ : ByteArray) [.string (⟨#[97, 98]⟩ : ByteArray)] from rfl) (Reps.one (show Kd.M Kd.string _ _ _ (⟨#[]⟩ : ByteArray) [.string (⟨#[]⟩ : ByteArray)] from rfl) (Reps.none _ _)))); intro v124 w16 ho17 hb hg_ hnew_; clear hg_ hnew_; (first | rw [← Ny123.out] at ho17 | (simp only [Int.reduceToNat] at ho17; rw [← Ny123.out] at ho17)); have n0_ := Aside0.mk (Kd.R_lower ho17 (below_size (by repeat (first | (with_reducible first | exact HB.out | apply below_alloc | apply pw_below_drewN | apply below_drew1) | exact HB.out)))); have n1_ := Aside0.mk (below_step (by repeat (first | (with_reducible first | exact HB.out | apply below_alloc | apply pw_below_drewN | apply below_drew1) | exact HB.out)) hb); clear HB; have HO125 := n0_; have HB := n1_; clear n0_ n1_; clear hb ho17; obtain ⟨Ao18, co18, eo18⟩ := Kd.R_slice HO125.out; subst eo18) | ((with_reducible refine gate_callee (f := 20) rfl ?_); refine goesL_ (some 15) rfl rfl Try.func20 (by kernel_rfl) rfl #[.slice Ao18 y123.length co18] rfl (by (try simp only [List.map_toArray, List.map_cons, List.map_nil]); first | done | rfl | (simp only [List.length_drop, List.length_take]; rfl)) ?_; (with_reducible refine (pack_Texts.calls k _ _ y123 t126 t127 _ ?side1 ?side2 A1.out).mono ?_); (case side1 => repeat (first | exact (Kd.R_reads' HO125.out).2.2 | (with_reducible refine Kd.C_alloc ?_ _) | (with_reducible refine Kd.C_drewN ?_ _) | (with_reducible refine Kd.C_drew ?_))); (case side2 => exact (Kd.R_reads' HO125.out).2.1); rintro e w19 ⟨rfl, hb⟩; refine ⟨_, rfl, ?_⟩; have n0_ := Aside0.mk (Kd.R_below (by (with_reducible repeat (first | apply Kd.R_alloc | apply Kd.R_drewN | apply Kd.R_drew)); exact HO125.out) hb); have n1_ := Aside0.mk (below_step (by repeat (first | (with_reducible first | exact HB.out | apply below_alloc | apply pw_below_drewN | apply below_drew1) | exact HB.out)) hb); clear HO125; clear HB; have HO125 := n0_; have HB := n1_; clear n0_ n1_; (try clear hb); (try clear hb2); (try clear hk); (try clear hi)) | ((with_reducible refine gate_callee (f := 24) rfl ?_); refine goesL_ (some 20) rfl rfl Try.func24 (by kernel_rfl) rfl #[.string t126] rfl (by (try simp only [List.map_toArray, List.map_cons, List.map_nil]); first | done | rfl | (simp only [List.length_drop, List.length_take]; rfl)) ?_; (with_reducible refine (pack_Parts.calls k t126 t128 t129 _ A2.out).mono ?_); rintro e w20 ⟨v130, rfl, ho0, hb⟩; refine ⟨_, rfl, ?_⟩; have n0_ := Aside0.mk (Kd.R_elder' (by (with_reducible repeat (first | apply Kd.R_alloc | apply Kd.R_drewN | apply Kd.R_drew)); exact HO125.out) (Kd.R_base ho0) hb); have n1_ := Aside0.mk (Kd.R_lower (Kd.R_new' ho0 (Kd.R_lt (by (with_reducible repeat (first | apply Kd.R_alloc | apply Kd.R_drewN | apply Kd.R_drew)); exact HO125.out))) (below_size (by repeat (first | (with_reducible first | exact HB.out | apply below_alloc | apply pw_below_drewN | apply below_drew1) | exact HB.out)))); have n2_ := Aside0.mk (below_step (by repeat (first | (with_reducible first | exact HB.out | apply below_alloc | apply pw_below_drewN | apply below_drew1) | exact HB.out)) hb); clear HO125; clear HB; have HO125 := n0_; have HO131 := n1_; have HB := n2_; clear n0_ n1_ n2_; (try clear hb); (try clear hb2); (try clear hk); (try clear hi); (try clear ho0)) | ((with_reducible refine gate_callee (f := 18) rfl ?_); refine goesL_ (some 24) rfl rfl Try.func18 (by kernel_rfl) rfl #[.string (⟨#[1, 2, 120]⟩ : ByteArray), .int .i64 2] rfl (by (try simp only [List.map_toArray, List.map_cons, List.map_nil]); first | done | rfl | (simp only [List.length_drop, List.length_take]; rfl)) ?_; (with_reducible refine (pack_Take.calls k (⟨#[1, 2, 120]⟩ : ByteArray) 2 t132 t133 t134 _ A3.out).mono ?_); rintro e w' ⟨rfl, ⟨nd, rfl⟩⟩; refine ⟨_, rfl, ?_⟩) | ((with_reducible refine gate_callee (f := 16) rfl ?_); refine goesL_ (some 29) rfl rfl Try.func16 (by kernel_rfl) rfl #[.int .u64 256, .int .i64 1] rfl (by (try simp only [List.map_toArray, List.map_cons, List.map_nil]); first | done | rfl | (simp only [List.length_drop, List.length_take]; rfl)) ?_; (with_reducible refine (pack_Num.calls k 256 1 t135 t136 _ A4.out).mono ?_); rintro e w21 ⟨rfl, hb⟩; refine ⟨_, rfl, ?_⟩; have n0_ := Aside0.mk (Kd.R_below (by (with_reducible repeat (first | apply Kd.R_alloc | apply Kd.R_drewN | apply Kd.R_drew)); exact HO125.out) hb); have n1_ := Aside0.mk (Kd.R_below (by (with_reducible repeat (first | apply Kd.R_alloc | apply Kd.R_drewN | apply Kd.R_drew)); exact HO131.out) hb); have n2_ := Aside0.mk (below_step (by repeat (first | (with_reducible first | exact HB.out | apply below_alloc | apply pw_below_drewN | apply below_drew1) | exact HB.out)) hb); clear HO125; clear HO131; clear HB; have HO125 := n0_; have HO131 := n1_; have HB := n2_; clear n0_ n1_ n2_; (try clear hb); (try clear hb2); (try clear hk); (try clear hi)) | ((with_reducible refine gate_callee (f := 22) rfl ?_); refine goesL_ (some 33) rfl rfl Try.func22 (by kernel_rfl) rfl #[.string (⟨#[0, 3, 97, 98]⟩ : ByteArray)] rfl (by (try simp only [List.map_toArray, List.map_cons, List.map_nil]); first | done | rfl | (simp only [List.length_drop, List.length_take]; rfl)) ?_; (with_reducible refine (pack_TakeText.calls k (⟨#[0, 3, 97, 98]⟩ : ByteArray) t137 t138 t139 _ A5.out).mono ?_); rintro e w' ⟨rfl, ⟨nd, rfl⟩⟩; refine ⟨_, rfl, ?_⟩) | ((with_reducible refine gate_dst (N := 45) rfl ?_); (try (refine gate_guard (by rfl) ?_; dsimp only)); refine Kd.R_lit Kd.string _ 9 ?hg (N := 45) ?hd (xs := ([(⟨#[97, 98]⟩ : ByteArray), (⟨#[]⟩ : ByteArray)] : List ByteArray)) (inner := [.string (⟨#[97, 98]⟩ : ByteArray), .string (⟨#[]⟩ : ByteArray)]) (ok := fun _ => True) (okp := fun _ => True) ?hr ?hp (fun _ hk => hk) trivial (Below.refl _ _) (Nat.le_refl _) (by simp) ?_; (case hd => rfl); (case hg => rfl); (case hr => first | (go_simp; done) | (go_simp; rfl)); (case hp => exact (Reps.one (show Kd.M Kd.string _ _ _ (⟨#[97, 98]⟩ : ByteArray) [.string (⟨#[97, 98]⟩ : ByteArray)] from rfl) (Reps.one (show Kd.M Kd.string _ _ _ (⟨#[]⟩ : ByteArray) [.string (⟨#[]⟩ : ByteArray)] from rfl) (Reps.none _ _)))); intro v141 w22 ho23 hb hg_ hnew_; clear hg_ hnew_; (first | rw [← Ny140.out] at ho23 | (simp only [Int.reduceToNat] at ho23; rw [← Ny140.out] at ho23)); have n0_ := Aside0.mk (Kd.R_elder' (by (with_reducible repeat (first | apply Kd.R_alloc | apply Kd.R_drewN | apply Kd.R_drew)); exact HO125.out) (Kd.R_base ho23) hb); have n1_ := Aside0.mk (Kd.R_elder' (by (with_reducible repeat (first | apply Kd.R_alloc | apply Kd.R_drewN | apply Kd.R_drew)); exact HO131.out) (Kd.R_base ho23) hb); have n2_ := Aside0.mk (Kd.R_lower (Kd.R_new' (Kd.R_new' ho23 (Kd.R_lt (by (with_reducible repeat (first | apply Kd.R_alloc | apply Kd.R_drewN | apply Kd.R_drew)); exact HO125.out))) (Kd.R_lt (by (with_reducible repeat (first | apply Kd.R_alloc | apply Kd.R_drewN | apply Kd.R_drew)); exact HO131.out))) (below_size (by repeat (first | (with_reducible first | exact HB.out | apply below_alloc | apply pw_below_drewN | apply below_drew1) | exact HB.out)))); have n3_ := Aside0.mk (below_step (by repeat (first | (with_reducible first | exact HB.out | apply below_alloc | apply pw_below_drewN | apply below_drew1) | exact HB.out)) hb); clear HO125; clear HO131; clear HB; have HO125 := n0_; have HO131 := n1_; have HO142 := n2_; have HB := n3_; clear n0_ n1_ n2_ n3_; clear hb ho23; obtain ⟨Ao24, co24, eo24⟩ := Kd.R_slice HO131.out; subst eo24; obtain ⟨Ao25, co25, eo25⟩ := Kd.R_slice HO142.out; subst eo25) | (go_at_call 26; (with_reducible refine (weirkeeperref01_Same.calls k _ _ t128 _ _ y140 true _ ?side1 ?side2 ?side3 ?side4 A8.out).mono ?_); (case side1 => repeat (first | exact (Kd.R_reads' HO131.out).2.2 | (with_reducible refine Kd.C_alloc ?_ _) | (with_reducible refine Kd.C_drewN ?_ _) | (with_reducible refine Kd.C_drew ?_))); (case side2 => exact (Kd.R_reads' HO131.out).2.1); (case side3 => repeat (first | exact (Kd.R_reads' HO142.out).2.2 | (with_reducible refine Kd.C_alloc ?_ _) | (with_reducible refine Kd.C_drewN ?_ _) | (with_reducible refine Kd.C_drew ?_))); (case side4 => exact (Kd.R_reads' HO142.out).2.1); rintro e w' ⟨rfl, ⟨nd, rfl⟩⟩))
                    go_ret
                    exact ⟨by first | rfl | (simp [errW_none, errW_some] <;> rfl) | (simp [*, errW_none, errW_some] <;> rfl), by repeat (first | (with_reducible first | exact HB.out | apply below_alloc | apply pw_below_drewN | apply below_drew1) | exact HB.out)⟩
                  · rw [if_neg c15] at H
                    have c15b0 : (t139 == 2) = false := beq_eq_false_iff_ne.mpr c15
                    have c15b1 : (t139 != 2) = true := bne_iff_ne.mpr c15
                    exact absurd H (by simp)
                · rw [if_neg c14] at H
                  have c14b0 : (t136 == 1) = false := beq_eq_false_iff_ne.mpr c14
                  have c14b1 : (t136 != 1) = true := bne_iff_ne.mpr c14
                  exact absurd H (by simp)
              · rw [if_neg c13] at H
                have c13b0 : (t134 == 0) = false := beq_eq_false_iff_ne.mpr c13
                have c13b1 : (t134 != 0) = true := bne_iff_ne.mpr c13
                exact absurd H (by simp)
            · rw [if_neg c12] at H
              have c12b0 : (t133.toList == ([120] : List UInt8)) = false := beq_eq_false_iff_ne.mpr c12
              have c12b1 : (t133.toList != ([120] : List UInt8)) = true := bne_iff_ne.mpr c12
              exact absurd H (by simp)
          · rw [if_neg c11] at H
            have c11b0 : (t132 == 258) = false := beq_eq_false_iff_ne.mpr c11
            have c11b1 : (t132 != 258) = true := bne_iff_ne.mpr c11
            exact absurd H (by simp)
        · rw [if_neg c10] at H
          have c10b0 : (t129 == 0) = false := beq_eq_false_iff_ne.mpr c10
          have c10b1 : (t129 != 0) = true := bne_iff_ne.mpr c10
          exact absurd H (by simp)
      · replace c9 := Bool.eq_false_iff.mpr c9
        subst c9
        have H1 : (some false) = some true := by rw [if_neg (show ¬ (false = true) by decide)] at H; exact H
        clear H
        have H := H1
        clear H1
        exact absurd H (by simp)
    · rw [if_neg c7] at H
      have c7b0 : (t127 == 0) = false := beq_eq_false_iff_ne.mpr c7
      have c7b1 : (t127 != 0) = true := bne_iff_ne.mpr c7
      exact absurd H (by simp)
  · rw [if_neg c6] at H
    have c6b0 : (t126.toList == ([0, 2, 97, 98, 0, 0] : List UInt8)) = false := beq_eq_false_iff_ne.mpr c6
    have c6b1 : (t126.toList != ([0, 2, 97, 98, 0, 0] : List UInt8)) = true := bne_iff_ne.mpr c6
    exact absurd H (by simp)

end Go.Proofs.Ytgccimhdbphenaa.F
