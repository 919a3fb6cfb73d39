/- Contracts of Go functions of the seat Ytpkapldkmleppaa: what a call comes to; no condition but those that each theorem names. -/
import Derived.Test.YtpkapldkmleppaaFPre
import Derived.Test.YtpkapldkmleppaaFdiskN
import Derived.Test.YtpkapldkmleppaaFjournalx2
import Derived.Test.YtpkapldkmleppaaFjournalx1
import Derived.Test.YtpkapldkmleppaaFlaw08awake
import Derived.Test.YtpkapldkmleppaaFref01
namespace Go.Proofs.Ytpkapldkmleppaa.F
open Go.RowKit Go.Proofs.YtpkapldkmleppaaW.PrintWords Go.Proofs.YtpkapldkmleppaaW.PrintLast Go.Proofs.YtpkapldkmleppaaW.PrintMore
attribute [local go_sem] max2_int min2_int max_two min_two max_three min_three max_four min_four   -- for this text's walks alone
set_option linter.unusedVariables false
set_option linter.unusedSimpArgs false

attribute [local go_sem] fieldD25_0 fieldD25_1
/-! ### weirkeeperlaw08_JournalAnew: function 13 -/
mutual
def weirkeeperlaw08_JournalAnew.j0 : Nat → Int → List ByteArray → List ByteArray → Bool → Option (Bool)
  | 0, _, _, _, _ => none
  | k + 1, x0, x1, x2, x34 => if x34 = true then ((weirkeeperlaw08_awake.f k).bind fun t542 => (some t542)) else ((some (([] : List ByteArray) : List ByteArray)).bind fun y543 => (if y543.length + x1.length < 8796093022208 then ((some (y543 ++ x1 : List ByteArray)).bind fun y546 => (if y546.length + x2.length < 8796093022208 then ((some (y546 ++ x2 : List ByteArray)).bind fun y549 => (weirkeeperlaw08_JournalAnew.l0 k x0 x1 x2 y549 (y549.length : Int) 0)) else (none))) else (none)))
def weirkeeperlaw08_JournalAnew.l0 : Nat → Int → List ByteArray → List ByteArray → List ByteArray → Int → Int → Option (Bool)
  | 0, _, _, _, _, _, _ => none
  | k + 1, x0, x1, x2, x40, x41, x42 => if x42 < x41 then (if 0 ≤ x42 then (if x42 < (x40.length : Int) then (if ((rdOf ByteArray.empty x40 x42).size : Int) > 300 then ((weirkeeperlaw08_awake.f k).bind fun t553 => (some t553)) else (weirkeeperlaw08_JournalAnew.l0 k x0 x1 x2 x40 x41 (wrap64 (x42 + 1)))) else (none)) else (none)) else ((disk_New.f 130).bind fun bt554 => ((journal_Append.f k bt554.1 bt554.2.1 (wrap64 (1 + (wrap64 (Int.tmod x0 2147483645)))) 0 x1).bind fun bt562 => ((journal_Append.f k bt562.1 bt562.2.1 (wrap64 ((wrap64 (1 + (wrap64 (Int.tmod x0 2147483645)))) + 1)) 0 x2).bind fun bt570 => (if bt554.2.2 = 0 then (if bt562.2.2.2 = 0 then (weirkeeperlaw08_JournalAnew.j2 k x2 (wrap64 (1 + (wrap64 (Int.tmod x0 2147483645)))) bt554.2.2 bt562.2.2.2 bt570.2.2.1 bt570.2.2.2 (bt570.2.2.2 != 0) bt570.1 bt570.2.1) else (weirkeeperlaw08_JournalAnew.j2 k x2 (wrap64 (1 + (wrap64 (Int.tmod x0 2147483645)))) bt554.2.2 bt562.2.2.2 bt570.2.2.1 bt570.2.2.2 true bt570.1 bt570.2.1)) else (weirkeeperlaw08_JournalAnew.j2 k x2 (wrap64 (1 + (wrap64 (Int.tmod x0 2147483645)))) bt554.2.2 bt562.2.2.2 bt570.2.2.1 bt570.2.2.2 true bt570.1 bt570.2.1)))))
def weirkeeperlaw08_JournalAnew.j2 : Nat → List ByteArray → Int → Int → Int → Int → Int → Bool → List ByteArray → List (S76) → Option (Bool)
  | 0, _, _, _, _, _, _, _, _, _ => none
  | k + 1, x2, x9, x11, x13, x14, x15, x85, x562000, x562001 => if x85 = true then (if x11 = 0 then (if x13 = 6 then ((weirkeeperlaw08_awake.f k).bind fun t578 => (some t578)) else (if x15 = 6 then ((weirkeeperlaw08_awake.f k).bind fun t579 => (some t579)) else (some false))) else (some false)) else ((journal_Texts.f k x562000 x562001 (wrap64 (x9 + 1))).bind fun bt580 => ((journal_Texts.f k x562000 x562001 x9).bind fun bt585 => (if bt580.2.2 = 0 then (if bt585.2.2 = 0 then (if bt580.2.1 = x14 then ((weirkeeperref01_Same.f k bt580.1 x2).bind fun t590 => (if t590 = true then (if (bt585.1.length : Int) = 0 then (if bt585.2.1 = 0 then ((weirkeeperlaw08_awake.f k).bind fun t591 => (some t591)) else (some false)) else (some false)) else (some false))) else (some false)) else (some false)) else (some false))))
end
def weirkeeperlaw08_JournalAnew.f (k : Nat) (a0 : Int) (l1 : List ByteArray) (l2 : List ByteArray) : Option (Bool) := if (l1.length : Int) > 10 then (weirkeeperlaw08_JournalAnew.j0 k a0 l1 l2 true) else (if (l2.length : Int) > 10 then (weirkeeperlaw08_JournalAnew.j0 k a0 l1 l2 true) else (weirkeeperlaw08_JournalAnew.j0 k a0 l1 l2 ((l2.length : Int) == 0)))
theorem weirkeeperlaw08_JournalAnew.mono_l : ∀ k, (∀ y0 y1 y2 y3, LeO (weirkeeperlaw08_JournalAnew.j0 k y0 y1 y2 y3) (weirkeeperlaw08_JournalAnew.j0 (k + 1) y0 y1 y2 y3)) ∧ (∀ y0 y1 y2 y3 y4 y5, LeO (weirkeeperlaw08_JournalAnew.l0 k y0 y1 y2 y3 y4 y5) (weirkeeperlaw08_JournalAnew.l0 (k + 1) y0 y1 y2 y3 y4 y5)) ∧ (∀ y0 y1 y2 y3 y4 y5 y6 y7 y8, LeO (weirkeeperlaw08_JournalAnew.j2 k y0 y1 y2 y3 y4 y5 y6 y7 y8) (weirkeeperlaw08_JournalAnew.j2 (k + 1) y0 y1 y2 y3 y4 y5 y6 y7 y8))
  | 0 => ⟨fun _ _ _ _ r h => by simp [weirkeeperlaw08_JournalAnew.j0] at h, fun _ _ _ _ _ _ r h => by simp [weirkeeperlaw08_JournalAnew.l0] at h, fun _ _ _ _ _ _ _ _ _ r h => by simp [weirkeeperlaw08_JournalAnew.j2] at h⟩
  | k + 1 => by
    obtain ⟨ih0, ih1, ih2⟩ := weirkeeperlaw08_JournalAnew.mono_l k
    refine ⟨?_, ?_, ?_⟩
    · intro y0 y1 y2 y3
      unfold weirkeeperlaw08_JournalAnew.j0
      repeat' first
      | (with_reducible exact ih0 _ _ _ _)
      | (with_reducible exact ih1 _ _ _ _ _ _)
      | (with_reducible exact ih2 _ _ _ _ _ _ _ _ _)
      | (with_reducible exact journal_Append.mono _ _ _ _ _ _)
      | (with_reducible exact journal_Texts.mono _ _ _ _)
      | (with_reducible exact weirkeeperlaw08_awake.mono _)
      | (with_reducible exact weirkeeperref01_Same.mono _ _ _)
      | (with_reducible exact LeO.refl _)
      | (with_reducible exact LeO.none _)
      | (with_reducible refine LeO.ite ?_ ?_)
      | (with_reducible refine LeO.bind ?_ (fun _ => ?_))
      | exact ih0 _ _ _ _
      | exact ih1 _ _ _ _ _ _
      | exact ih2 _ _ _ _ _ _ _ _ _
      | exact journal_Append.mono _ _ _ _ _ _
      | exact journal_Texts.mono _ _ _ _
      | exact weirkeeperlaw08_awake.mono _
      | exact weirkeeperref01_Same.mono _ _ _
      | exact LeO.none _
      | refine LeO.ite ?_ ?_
      | refine LeO.bind ?_ (fun _ => ?_)
    · intro y0 y1 y2 y3 y4 y5
      unfold weirkeeperlaw08_JournalAnew.l0
      repeat' first
      | (with_reducible exact ih0 _ _ _ _)
      | (with_reducible exact ih1 _ _ _ _ _ _)
      | (with_reducible exact ih2 _ _ _ _ _ _ _ _ _)
      | (with_reducible exact journal_Append.mono _ _ _ _ _ _)
      | (with_reducible exact journal_Texts.mono _ _ _ _)
      | (with_reducible exact weirkeeperlaw08_awake.mono _)
      | (with_reducible exact weirkeeperref01_Same.mono _ _ _)
      | (with_reducible exact LeO.refl _)
      | (with_reducible exact LeO.none _)
      | (with_reducible refine LeO.ite ?_ ?_)
      | (with_reducible refine LeO.bind ?_ (fun _ => ?_))
      | exact ih0 _ _ _ _
      | exact ih1 _ _ _ _ _ _
      | exact ih2 _ _ _ _ _ _ _ _ _
      | exact journal_Append.mono _ _ _ _ _ _
      | exact journal_Texts.mono _ _ _ _
      | exact weirkeeperlaw08_awake.mono _
      | exact weirkeeperref01_Same.mono _ _ _
      | exact LeO.none _
      | refine LeO.ite ?_ ?_
      | refine LeO.bind ?_ (fun _ => ?_)
    · intro y0 y1 y2 y3 y4 y5 y6 y7 y8
      unfold weirkeeperlaw08_JournalAnew.j2
      repeat' first
      | (with_reducible exact ih0 _ _ _ _)
      | (with_reducible exact ih1 _ _ _ _ _ _)
      | (with_reducible exact ih2 _ _ _ _ _ _ _ _ _)
      | (with_reducible exact journal_Append.mono _ _ _ _ _ _)
      | (with_reducible exact journal_Texts.mono _ _ _ _)
      | (with_reducible exact weirkeeperlaw08_awake.mono _)
      | (with_reducible exact weirkeeperref01_Same.mono _ _ _)
      | (with_reducible exact LeO.refl _)
      | (with_reducible exact LeO.none _)
      | (with_reducible refine LeO.ite ?_ ?_)
      | (with_reducible refine LeO.bind ?_ (fun _ => ?_))
      | exact ih0 _ _ _ _
      | exact ih1 _ _ _ _ _ _
      | exact ih2 _ _ _ _ _ _ _ _ _
      | exact journal_Append.mono _ _ _ _ _ _
      | exact journal_Texts.mono _ _ _ _
      | exact weirkeeperlaw08_awake.mono _
      | exact weirkeeperref01_Same.mono _ _ _
      | exact LeO.none _
      | refine LeO.ite ?_ ?_
      | refine LeO.bind ?_ (fun _ => ?_)
theorem weirkeeperlaw08_JournalAnew.mono : ∀ a0 a1 a2 k, LeO (weirkeeperlaw08_JournalAnew.f k a0 a1 a2) (weirkeeperlaw08_JournalAnew.f (k + 1) a0 a1 a2) := by
  intro a0 a1 a2 k
  obtain ⟨ih0, ih1, ih2⟩ := weirkeeperlaw08_JournalAnew.mono_l k
  unfold weirkeeperlaw08_JournalAnew.f
  repeat' first
      | (with_reducible exact ih0 _ _ _ _)
      | (with_reducible exact ih1 _ _ _ _ _ _)
      | (with_reducible exact ih2 _ _ _ _ _ _ _ _ _)
      | (with_reducible exact journal_Append.mono _ _ _ _ _ _)
      | (with_reducible exact journal_Texts.mono _ _ _ _)
      | (with_reducible exact weirkeeperlaw08_awake.mono _)
      | (with_reducible exact weirkeeperref01_Same.mono _ _ _)
      | (with_reducible exact LeO.refl _)
      | (with_reducible exact LeO.none _)
      | (with_reducible refine LeO.ite ?_ ?_)
      | (with_reducible refine LeO.bind ?_ (fun _ => ?_))
      | exact ih0 _ _ _ _
      | exact ih1 _ _ _ _ _ _
      | exact ih2 _ _ _ _ _ _ _ _ _
      | exact journal_Append.mono _ _ _ _ _ _
      | exact journal_Texts.mono _ _ _ _
      | exact weirkeeperlaw08_awake.mono _
      | exact weirkeeperref01_Same.mono _ _ _
      | exact LeO.none _
      | refine LeO.ite ?_ ?_
      | refine LeO.bind ?_ (fun _ => ?_)
set_option maxHeartbeats 8000000 in
set_option maxRecDepth 100000 in
theorem weirkeeperlaw08_JournalAnew.calls (k : Nat) (a0 : Int) (A1 : Option Addr) (c1 : Nat) (l1 : List ByteArray) (A2 : Option Addr) (c2 : Nat) (l2 : List ByteArray) (w : World) (hr1 : Kd.C Kd.string w A1 l1.length l1) (hc1 : l1.length ≤ c1) (hr2 : Kd.C Kd.string w A2 l2.length l2) (hc2 : l2.length ≤ c2) (h : weirkeeperlaw08_JournalAnew.f k a0 l1 l2 = some true) :
    Calls Try.prog 13 #[.int .u32 a0, .slice A1 l1.length c1, .slice A2 l2.length c2] w fun e w' => e = .returned (.bool true) ∧ Below w.heap.size w w' := by
  have hu25 := Try.underlying25
  have HR1 := Aside0.mk hr1
  have HC1 := Aside0.mk hc1
  clear hr1 hc1
  have HR2 := Aside0.mk hr2
  have HC2 := Aside0.mk hc2
  clear hr2 hc2
  have HB := Aside0.mk (Below.refl w.heap.size w)
  have H : (if (l1.length : Int) > 10 then (weirkeeperlaw08_JournalAnew.j0 k a0 l1 l2 true) else (if (l2.length : Int) > 10 then (weirkeeperlaw08_JournalAnew.j0 k a0 l1 l2 true) else (weirkeeperlaw08_JournalAnew.j0 k a0 l1 l2 ((l2.length : Int) == 0)))) = some true := h
  clear h
  have HC4 := Aside0.mk H
  clear H
  go_enter Try.func13, Try.ntmps13
  go_upto_region 1 with (fail)
  go_cut [34] (fun v34 wc => ∃ (kq : Nat) (x34_3 : Bool), v34 = .bool x34_3 ∧ Aside0 (weirkeeperlaw08_JournalAnew.j0 kq a0 l1 l2 x34_3 = some true) ∧ Aside0 (kq ≤ k) ∧ Aside0 (Below w.heap.size w wc))
  case first =>
    have H := HC4.out
    clear HC4
    by_cases c5 : (l1.length : Int) > 10
    · rw [if_pos c5] at H
      have c5b0 : decide (10 < (l1.length : Int)) = true := decide_eq_true c5
      have c5b1 : decide (10 < l1.length) = true := decide_eq_true (by omega)
      clear c5
      (first | rw [c5b0] | (simp only [i64_w, i32_w]; rw [c5b0]) | skip)
      have H' := Aside0.mk H
      clear H
      go_wp2
      go_meet
      case rel => exact ⟨_, (true), (by first | rfl | (simp; done) | (simp [*]; done)), H', ⟨by first | omega | exact Nat.le_refl _⟩, ⟨by repeat (first | (with_reducible first | exact HB.out | apply below_alloc | apply pw_below_drewN | apply below_drew1) | exact HB.out)⟩⟩
    · rw [if_neg c5] at H
      have c5b0 : decide (10 < (l1.length : Int)) = false := decide_eq_false c5
      have c5b1 : decide (10 < l1.length) = false := decide_eq_false (by omega)
      clear c5
      (first | rw [c5b0] | (simp only [i64_w, i32_w]; rw [c5b0]) | skip)
      by_cases c6 : (l2.length : Int) > 10
      · rw [if_pos c6] at H
        have c6b0 : decide (10 < (l2.length : Int)) = true := decide_eq_true c6
        have c6b1 : decide (10 < l2.length) = true := decide_eq_true (by omega)
        clear c6
        have H' := Aside0.mk H
        clear H
        go_wp2
        go_meet
        case rel => exact ⟨_, (true), (by first | rfl | (simp; done) | (simp [*]; done)), H', ⟨by first | omega | exact Nat.le_refl _⟩, ⟨by repeat (first | (with_reducible first | exact HB.out | apply below_alloc | apply pw_below_drewN | apply below_drew1) | exact HB.out)⟩⟩
      · rw [if_neg c6] at H
        have c6b0 : decide (10 < (l2.length : Int)) = false := decide_eq_false c6
        have c6b1 : decide (10 < l2.length) = false := decide_eq_false (by omega)
        clear c6
        have H' := Aside0.mk H
        clear H
        go_wp2
        go_meet
        case rel => exact ⟨_, (((l2.length : Int) == 0)), (by first | rfl | (simp; done) | (simp [*]; done)), H', ⟨by first | omega | exact Nat.le_refl _⟩, ⟨by repeat (first | (with_reducible first | exact HB.out | apply below_alloc | apply pw_below_drewN | apply below_drew1) | exact HB.out)⟩⟩
  case rest =>
    clear HC4
    try clear c1
    try clear c2
    try clear p2
    try clear c5
    try clear c5b0
    try clear c5b1
    try clear c6
    try clear c6b0
    try clear c6b1
    obtain ⟨kq, x34_3, rfl, HA, HJ3, HB⟩ := hcut
    cases kq with
    | zero => exact absurd HA.out (by simp [weirkeeperlaw08_JournalAnew.j0])
    | succ kj3 =>
      have H := HA.out
      clear HA
      simp only [weirkeeperlaw08_JournalAnew.j0] at H
      by_cases c7 : x34_3 = true
      · subst c7
        have H1 : ((weirkeeperlaw08_awake.f kj3).bind fun t542 => (some t542)) = some true := by rw [if_pos rfl] at H; exact H
        clear H
        have H := H1
        clear H1
        replace H := Option.bind_eq_some_iff.mp H
        obtain ⟨t542, A80, H⟩ := H
        replace H : (some t542) = some true := H
        have A8 := Aside0.mk A80
        clear A80
        (have H9_ := Option.some.inj H; first | subst H9_ | (have h9_ := Aside0.mk H9_; clear H9_))
        go_wp2_with (first | ((with_reducible refine gate_callee (f := 27) rfl ?_); refine goesL_ (some 35) rfl rfl Try.func27 (by kernel_rfl) rfl #[] rfl (by (try simp only [List.map_toArray, List.map_cons, List.map_nil]); first | done | rfl | (simp only [List.length_drop, List.length_take]; rfl)) ?_; (with_reducible refine (weirkeeperlaw08_awake.calls kj3 _ A8.out).mono ?_); rintro e w9 ⟨rfl, hb⟩; refine ⟨_, rfl, ?_⟩; have n0_ := Aside0.mk (below_step (by repeat (first | (with_reducible first | exact HB.out | apply below_alloc | apply pw_below_drewN | apply below_drew1) | exact HB.out)) hb); clear HB; have HB := n0_; clear n0_; (try clear hb); (try clear hb2); (try clear hk); (try clear hi)))
        go_ret
        exact ⟨by first | rfl | (simp only [h9_.out]; done) | (have h8_ := h9_.out; simp [h8_]; done) | (simp [errW_none, errW_some] <;> rfl) | (simp [*, errW_none, errW_some] <;> rfl), by repeat (first | (with_reducible first | exact HB.out | apply below_alloc | apply pw_below_drewN | apply below_drew1) | exact HB.out)⟩
      · replace c7 := Bool.eq_false_iff.mpr c7
        subst c7
        have H1 : ((some (([] : List ByteArray) : List ByteArray)).bind fun y543 => (if y543.length + l1.length < 8796093022208 then ((some (y543 ++ l1 : List ByteArray)).bind fun y546 => (if y546.length + l2.length < 8796093022208 then ((some (y546 ++ l2 : List ByteArray)).bind fun y549 => (weirkeeperlaw08_JournalAnew.l0 kj3 a0 l1 l2 y549 (y549.length : Int) 0)) else (none))) else (none))) = some true := by rw [if_neg (show ¬ (false = true) by decide)] at H; exact H
        clear H
        have H := H1
        clear H1
        obtain ⟨y543, hy543⟩ : ∃ y_ : List ByteArray, y_ = (([] : List ByteArray)) := ⟨_, rfl⟩
        replace H : (if y543.length + l1.length < 8796093022208 then ((some (y543 ++ l1 : List ByteArray)).bind fun y546 => (if y546.length + l2.length < 8796093022208 then ((some (y546 ++ l2 : List ByteArray)).bind fun y549 => (weirkeeperlaw08_JournalAnew.l0 kj3 a0 l1 l2 y549 (y549.length : Int) 0)) else (none))) else (none)) = some true := by first | (rw [hy543]; with_reducible exact H) | (have H2_ := (Option.bind_some _ _).symm.trans H; rw [hy543]; with_reducible exact H2_) | (have H2_ := (Option.bind_some _ _).symm.trans H; with_reducible exact H2_) | with_reducible exact H | (rw [hy543]; exact H) | exact H
        have Ny543 := Aside0.mk hy543
        clear hy543
        by_cases c10 : y543.length + l1.length < 8796093022208
        · rw [if_pos c10] at H
          have LMc10 := Aside0.mk c10
          clear c10
          obtain ⟨y546, hy546⟩ : ∃ y_ : List ByteArray, y_ = (y543 ++ l1) := ⟨_, rfl⟩
          replace H : (if y546.length + l2.length < 8796093022208 then ((some (y546 ++ l2 : List ByteArray)).bind fun y549 => (weirkeeperlaw08_JournalAnew.l0 kj3 a0 l1 l2 y549 (y549.length : Int) 0)) else (none)) = some true := by first | (rw [hy546]; with_reducible exact H) | (have H2_ := (Option.bind_some _ _).symm.trans H; rw [hy546]; with_reducible exact H2_) | (have H2_ := (Option.bind_some _ _).symm.trans H; with_reducible exact H2_) | with_reducible exact H | (rw [hy546]; exact H) | exact H
          have Ny546 := Aside0.mk hy546
          clear hy546
          by_cases c11 : y546.length + l2.length < 8796093022208
          · rw [if_pos c11] at H
            have LMc11 := Aside0.mk c11
            clear c11
            obtain ⟨y549, hy549⟩ : ∃ y_ : List ByteArray, y_ = (y546 ++ l2) := ⟨_, rfl⟩
            replace H : (weirkeeperlaw08_JournalAnew.l0 kj3 a0 l1 l2 y549 (y549.length : Int) 0) = some true := by first | (rw [hy549]; with_reducible exact H) | (have H2_ := (Option.bind_some _ _).symm.trans H; rw [hy549]; with_reducible exact H2_) | (have H2_ := (Option.bind_some _ _).symm.trans H; with_reducible exact H2_) | with_reducible exact H | (rw [hy549]; exact H) | exact H
            have Ny549 := Aside0.mk hy549
            clear hy549
            have H' := Aside0.mk H
            clear H
            go_wp2_with (first | ((with_reducible refine gate_dst (N := 36) rfl ?_); (try (refine gate_guard (by rfl) ?_; dsimp only)); refine Kd.R_lit Kd.string _ 9 ?hg (N := 36) ?hd (xs := ([] : List ByteArray)) (inner := []) (ok := fun _ => True) (okp := fun _ => True) ?hr ?hp (fun _ hk => hk) trivial (Below.refl _ _) (Nat.le_refl _) (by simp) ?_; (case hd => rfl); (case hg => rfl); (case hr => first | (go_simp; done) | (go_simp; rfl)); (case hp => exact (Reps.none _ _)); intro v544 w12 ho13 hb hg_ hnew_; clear hg_ hnew_; (first | rw [← Ny543.out] at ho13 | (simp only [Int.reduceToNat] at ho13; rw [← Ny543.out] at ho13)); have n0_ := Aside0.mk (Kd.R_lower ho13 (below_size (by repeat (first | (with_reducible first | exact HB.out | apply below_alloc | apply pw_below_drewN | apply below_drew1) | exact HB.out)))); have n1_ := Aside0.mk (below_step (by repeat (first | (with_reducible first | exact HB.out | apply below_alloc | apply pw_below_drewN | apply below_drew1) | exact HB.out)) hb); clear HB; have HO545 := n0_; have HB := n1_; clear n0_ n1_; clear hb ho13) | ((with_reducible refine gate_builtin (b := .append) (xs := #[.tmp 36, .tmp 37]) rfl ?_); (try (refine gate_guard (by rfl) ?_; dsimp only)); at_builtin; refine Kd.R_append_rows Kd.string (w0 := w) w.heap.size rfl (.tmp 36) (.tmp 37) 22 9 (.string ⟨#[]⟩) 16 rfl Try.underlying22 info9 rfl (by decide) (by omega) v544 y543 l1 _ _ _ (fun _ => True) (fun _ => False) rfl rfl ?aO ?aR (fun _ _ h => h) (fun _ h => h.elim) ?aF ?aB ?aS ?aL ?_; (case aR => repeat (first | exact (Kd.C_below HR1.out HB.out) | (with_reducible refine Kd.C_alloc ?_ _) | (with_reducible refine Kd.C_drewN ?_ _) | (with_reducible refine Kd.C_drew ?_))); (case aB => exact (by repeat (first | (with_reducible first | exact HB.out | apply below_alloc | apply pw_below_drewN | apply below_drew1) | exact HB.out))); (case aF => exact (fun _ _ => trivial)); (case aO => exact (by (with_reducible repeat (first | apply Kd.R_alloc | apply Kd.R_drewN | apply Kd.R_drew)); exact HO545.out)); (case aS => exact (below_size (by repeat (first | (with_reducible first | exact HB.out | apply below_alloc | apply pw_below_drewN | apply below_drew1) | exact HB.out)))); (case aL => have := LMc10.out; omega); intro v547 w14 ho hb hg hat; rw [← Ny546.out] at ho; have n0_ := Aside0.mk (hb); have n1_ := Aside0.mk (ho); clear HB; clear HO545; have HB := n0_; have HO548 := n1_; clear n0_ n1_; clear ho hb hg hat) | ((with_reducible refine gate_builtin (b := .append) (xs := #[.tmp 38, .tmp 39]) rfl ?_); (try (refine gate_guard (by rfl) ?_; dsimp only)); at_builtin; refine Kd.R_append_rows Kd.string (w0 := w) w.heap.size rfl (.tmp 38) (.tmp 39) 22 9 (.string ⟨#[]⟩) 16 rfl Try.underlying22 info9 rfl (by decide) (by omega) v547 y546 l2 _ _ _ (fun _ => True) (fun _ => False) rfl rfl ?aO ?aR (fun _ _ h => h) (fun _ h => h.elim) ?aF ?aB ?aS ?aL ?_; (case aR => repeat (first | exact (Kd.C_below HR2.out HB.out) | (with_reducible refine Kd.C_alloc ?_ _) | (with_reducible refine Kd.C_drewN ?_ _) | (with_reducible refine Kd.C_drew ?_))); (case aB => exact (by repeat (first | (with_reducible first | exact HB.out | apply below_alloc | apply pw_below_drewN | apply below_drew1) | exact HB.out))); (case aF => exact (fun _ _ => trivial)); (case aO => exact (by (with_reducible repeat (first | apply Kd.R_alloc | apply Kd.R_drewN | apply Kd.R_drew)); exact HO548.out)); (case aS => exact (below_size (by repeat (first | (with_reducible first | exact HB.out | apply below_alloc | apply pw_below_drewN | apply below_drew1) | exact HB.out)))); (case aL => have := LMc11.out; omega); intro v550 w15 ho hb hg hat; rw [← Ny549.out] at ho; have n0_ := Aside0.mk (hb); have n1_ := Aside0.mk (ho); clear HB; clear HO548; have HB := n0_; have HO551 := n1_; clear n0_ n1_; clear ho hb hg hat; obtain ⟨Ao16, co16, eo16⟩ := Kd.R_slice HO551.out; subst eo16))
            go_loopg [42] kj3 (fun kq v42 w' => ∃ (x42_2 : Int), v42 = .int .i64 x42_2 ∧ Aside0 (weirkeeperlaw08_JournalAnew.l0 kq a0 l1 l2 y549 (y549.length : Int) x42_2 = some true) ∧ Aside0 (kq ≤ kj3) ∧ Aside0 (Kd.R Kd.string 9 w' w.heap.size (fun _ => True) (.slice Ao16 y549.length co16) y549) ∧ Aside0 (Below w.heap.size w w'))
            case atStart => exact ⟨(0), (by first | rfl | (simp; done) | (simp [*]; done)), H', ⟨Nat.le_refl _⟩, ⟨by (with_reducible repeat (first | apply Kd.R_alloc | apply Kd.R_drewN | apply Kd.R_drew)); exact HO551.out⟩, ⟨by repeat (first | (with_reducible first | exact HB.out | apply below_alloc | apply pw_below_drewN | apply below_drew1) | exact HB.out)⟩⟩
            case round =>
              clear H'
              try clear c1
              try clear c2
              try clear p2
              try clear c5
              try clear c5b0
              try clear c5b1
              try clear c6
              try clear c6b0
              try clear c6b1
              try clear c7
              try clear c10
              try clear c11
              try clear c13
              try clear p2
              obtain ⟨x42_2, rfl, HA, HK2, HO_40, HB⟩ := hrel
              cases gk with
              | zero => exact absurd HA.out (by simp [weirkeeperlaw08_JournalAnew.l0])
              | succ k2 =>
                have H := HA.out
                clear HA
                simp only [weirkeeperlaw08_JournalAnew.l0] at H
                by_cases c17 : x42_2 < (y549.length : Int)
                · rw [if_pos c17] at H
                  have c17b0 : decide (x42_2 < (y549.length : Int)) = true := decide_eq_true c17
                  clear c17
                  by_cases c18 : 0 ≤ x42_2
                  · rw [if_pos c18] at H
                    have c18b0 : decide (0 ≤ x42_2) = true := decide_eq_true c18
                    clear c18
                    by_cases c19 : x42_2 < (y549.length : Int)
                    · rw [if_pos c19] at H
                      have c19b0 : decide (x42_2 < (y549.length : Int)) = true := decide_eq_true c19
                      clear c19
                      by_cases c20 : ((rdOf ByteArray.empty y549 x42_2).size : Int) > 300
                      · rw [if_pos c20] at H
                        have c20b0 : decide (300 < ((rdOf ByteArray.empty y549 x42_2).size : Int)) = true := decide_eq_true c20
                        have c20b1 : decide (300 < (rdOf ByteArray.empty y549 x42_2).size) = true := decide_eq_true (by omega)
                        clear c20
                        replace H := Option.bind_eq_some_iff.mp H
                        obtain ⟨t553, A210, H⟩ := H
                        replace H : (some t553) = some true := H
                        have A21 := Aside0.mk A210
                        clear A210
                        (have H9_ := Option.some.inj H; first | subst H9_ | (have h9_ := Aside0.mk H9_; clear H9_))
                        have p552 : 0 ≤ (x42_2 : Int) := of_decide_eq_true (by first | (with_reducible assumption) | assumption)
                        have q552 : x42_2 < (y549.length : Int) := of_decide_eq_true (by first | (with_reducible assumption) | assumption)
                        obtain ⟨ad552, e552, hx552_0⟩ := Kd.at_string (Kd.R_reads' HO_40.out).2.2 x42_2 p552 q552
                        cases e552
                        replace p552 := eq_true p552
                        replace q552 := eq_true q552
                        go_wp2_with (first | ((with_reducible refine gate_callee (f := 27) rfl ?_); refine goesL_ (some 49) rfl rfl Try.func27 (by kernel_rfl) rfl #[] rfl (by (try simp only [List.map_toArray, List.map_cons, List.map_nil]); first | done | rfl | (simp only [List.length_drop, List.length_take]; rfl)) ?_; (with_reducible refine (weirkeeperlaw08_awake.calls k2 _ A21.out).mono ?_); rintro e w22 ⟨rfl, hb⟩; refine ⟨_, rfl, ?_⟩; have n0_ := Aside0.mk (Kd.R_below (by (with_reducible repeat (first | apply Kd.R_alloc | apply Kd.R_drewN | apply Kd.R_drew)); exact HO_40.out) hb); have n1_ := Aside0.mk (below_step (by repeat (first | (with_reducible first | exact HB.out | apply below_alloc | apply pw_below_drewN | apply below_drew1) | exact HB.out)) hb); clear HO_40; clear HB; have HO_40 := n0_; have HB := n1_; clear n0_ n1_; (try clear hb); (try clear hb2); (try clear hk); (try clear hi)))
                        go_ret
                        exact ⟨by first | rfl | (simp only [h9_.out]; done) | (have h8_ := h9_.out; simp [h8_]; done) | (simp [errW_none, errW_some] <;> rfl) | (simp [*, errW_none, errW_some] <;> rfl), by repeat (first | (with_reducible first | exact HB.out | apply below_alloc | apply pw_below_drewN | apply below_drew1) | exact HB.out)⟩
                      · rw [if_neg c20] at H
                        have c20b0 : decide (300 < ((rdOf ByteArray.empty y549 x42_2).size : Int)) = false := decide_eq_false c20
                        have c20b1 : decide (300 < (rdOf ByteArray.empty y549 x42_2).size) = false := decide_eq_false (by omega)
                        clear c20
                        have H' := Aside0.mk H
                        clear H
                        have p552 : 0 ≤ (x42_2 : Int) := of_decide_eq_true (by first | (with_reducible assumption) | assumption)
                        have q552 : x42_2 < (y549.length : Int) := of_decide_eq_true (by first | (with_reducible assumption) | assumption)
                        obtain ⟨ad552, e552, hx552_0⟩ := Kd.at_string (Kd.R_reads' HO_40.out).2.2 x42_2 p552 q552
                        cases e552
                        replace p552 := eq_true p552
                        replace q552 := eq_true q552
                        go_wp2
                        go_roundg k2
                        case measure => have := HJ3.out; have := HK2.out; omega
                        case rel => exact ⟨(wrap64 (x42_2 + 1)), (by first | rfl | (simp; done) | (simp [*]; done)), H', ⟨by have := HJ3.out; have := HK2.out; omega⟩, ⟨by (with_reducible repeat (first | apply Kd.R_alloc | apply Kd.R_drewN | apply Kd.R_drew)); exact HO_40.out⟩, ⟨by repeat (first | (with_reducible first | exact HB.out | apply below_alloc | apply pw_below_drewN | apply below_drew1) | exact HB.out)⟩⟩
                    · rw [if_neg c19] at H
                      exact absurd H (by simp)
                  · rw [if_neg c18] at H
                    exact absurd H (by simp)
                · rw [if_neg c17] at H
                  have c17b0 : decide (x42_2 < (y549.length : Int)) = false := decide_eq_false c17
                  clear c17
                  replace H := Option.bind_eq_some_iff.mp H
                  obtain ⟨⟨t554, t557, t560⟩, A230, H⟩ := H
                  replace H : ((journal_Append.f k2 t554 t557 (wrap64 (1 + (wrap64 (Int.tmod a0 2147483645)))) 0 l1).bind fun bt562 => ((journal_Append.f k2 bt562.1 bt562.2.1 (wrap64 ((wrap64 (1 + (wrap64 (Int.tmod a0 2147483645)))) + 1)) 0 l2).bind fun bt570 => (if t560 = 0 then (if bt562.2.2.2 = 0 then (weirkeeperlaw08_JournalAnew.j2 k2 l2 (wrap64 (1 + (wrap64 (Int.tmod a0 2147483645)))) t560 bt562.2.2.2 bt570.2.2.1 bt570.2.2.2 (bt570.2.2.2 != 0) bt570.1 bt570.2.1) else (weirkeeperlaw08_JournalAnew.j2 k2 l2 (wrap64 (1 + (wrap64 (Int.tmod a0 2147483645)))) t560 bt562.2.2.2 bt570.2.2.1 bt570.2.2.2 true bt570.1 bt570.2.1)) else (weirkeeperlaw08_JournalAnew.j2 k2 l2 (wrap64 (1 + (wrap64 (Int.tmod a0 2147483645)))) t560 bt562.2.2.2 bt570.2.2.1 bt570.2.2.2 true bt570.1 bt570.2.1)))) = some true := H
                  have A23 := Aside0.mk A230
                  clear A230
                  replace H := Option.bind_eq_some_iff.mp H
                  obtain ⟨⟨t562, t565, t568, t569⟩, A240, H⟩ := H
                  replace H : ((journal_Append.f k2 t562 t565 (wrap64 ((wrap64 (1 + (wrap64 (Int.tmod a0 2147483645)))) + 1)) 0 l2).bind fun bt570 => (if t560 = 0 then (if t569 = 0 then (weirkeeperlaw08_JournalAnew.j2 k2 l2 (wrap64 (1 + (wrap64 (Int.tmod a0 2147483645)))) t560 t569 bt570.2.2.1 bt570.2.2.2 (bt570.2.2.2 != 0) bt570.1 bt570.2.1) else (weirkeeperlaw08_JournalAnew.j2 k2 l2 (wrap64 (1 + (wrap64 (Int.tmod a0 2147483645)))) t560 t569 bt570.2.2.1 bt570.2.2.2 true bt570.1 bt570.2.1)) else (weirkeeperlaw08_JournalAnew.j2 k2 l2 (wrap64 (1 + (wrap64 (Int.tmod a0 2147483645)))) t560 t569 bt570.2.2.1 bt570.2.2.2 true bt570.1 bt570.2.1))) = some true := H
                  have A24 := Aside0.mk A240
                  clear A240
                  replace H := Option.bind_eq_some_iff.mp H
                  obtain ⟨⟨t570, t573, t576, t577⟩, A250, H⟩ := H
                  replace H : (if t560 = 0 then (if t569 = 0 then (weirkeeperlaw08_JournalAnew.j2 k2 l2 (wrap64 (1 + (wrap64 (Int.tmod a0 2147483645)))) t560 t569 t576 t577 (t577 != 0) t570 t573) else (weirkeeperlaw08_JournalAnew.j2 k2 l2 (wrap64 (1 + (wrap64 (Int.tmod a0 2147483645)))) t560 t569 t576 t577 true t570 t573)) else (weirkeeperlaw08_JournalAnew.j2 k2 l2 (wrap64 (1 + (wrap64 (Int.tmod a0 2147483645)))) t560 t569 t576 t577 true t570 t573)) = some true := H
                  have A25 := Aside0.mk A250
                  clear A250
                  have HC26 := Aside0.mk H
                  clear H
                  go_upto_region 13 with (first | ((with_reducible refine gate_callee (f := 24) rfl ?_); refine goesL_ (some 56) rfl rfl Try.func24 (by kernel_rfl) rfl #[.int .i64 130] rfl (by (try simp only [List.map_toArray, List.map_cons, List.map_nil]); first | done | rfl | (simp only [List.length_drop, List.length_take]; rfl)) ?_; (with_reducible refine (disk_New.calls 130 t554 t557 t560 _ A23.out).mono ?_); rintro e w27 ⟨v555, v558, rfl, ho0, ho1, hb⟩; refine ⟨_, rfl, ?_⟩; have n0_ := Aside0.mk (Kd.R_elder' (by (with_reducible repeat (first | apply Kd.R_alloc | apply Kd.R_drewN | apply Kd.R_drew)); exact HO_40.out) (Kd.R_base ho0) hb); have n1_ := Aside0.mk (Kd.R_lower (Kd.R_new' ho0 (Kd.R_lt (by (with_reducible repeat (first | apply Kd.R_alloc | apply Kd.R_drewN | apply Kd.R_drew)); exact HO_40.out))) (below_size (by repeat (first | (with_reducible first | exact HB.out | apply below_alloc | apply pw_below_drewN | apply below_drew1) | exact HB.out)))); have n2_ := Aside0.mk (Kd.R_lower ho1 (below_size (by repeat (first | (with_reducible first | exact HB.out | apply below_alloc | apply pw_below_drewN | apply below_drew1) | exact HB.out)))); have n3_ := Aside0.mk (below_step (by repeat (first | (with_reducible first | exact HB.out | apply below_alloc | apply pw_below_drewN | apply below_drew1) | exact HB.out)) hb); clear HO_40; clear HB; have HO_40 := n0_; have HO556 := n1_; have HO559 := n2_; have HB := n3_; clear n0_ n1_ n2_ n3_; (try clear hb); (try clear hb2); (try clear hk); (try clear hi); (try clear ho0); (try clear ho1)) | ((with_reducible refine gate_dst (N := 10) rfl ?_); (try (refine gate_guard (by rfl) ?_; dsimp only)); refine box_event ?hg (N := 10) ?hd (cs := #[.slice none 0 0, .slice none 0 0]) (t := 25) ?hr ?_; (case hd => rfl); (case hg => rfl); (case hr => first | (go_simp; done) | (go_simp; rfl)); intro gb561 hg w28 hbox hb; have n0_ := Aside0.mk (Kd.R_below (by (with_reducible repeat (first | apply Kd.R_alloc | apply Kd.R_drewN | apply Kd.R_drew)); exact HO_40.out) hb); have n1_ := Aside0.mk (Kd.R_below (by (with_reducible repeat (first | apply Kd.R_alloc | apply Kd.R_drewN | apply Kd.R_drew)); exact HO556.out) hb); have n2_ := Aside0.mk (Kd.R_below (by (with_reducible repeat (first | apply Kd.R_alloc | apply Kd.R_drewN | apply Kd.R_drew)); exact HO559.out) hb); have n3_ := Aside0.mk (below_step (by repeat (first | (with_reducible first | exact HB.out | apply below_alloc | apply pw_below_drewN | apply below_drew1) | exact HB.out)) hb); have n4_ := Aside0.mk (hbox); have n5_ := Aside0.mk ((by rw [hg]; exact (below_size (by repeat (first | (with_reducible first | exact HB.out | apply below_alloc | apply pw_below_drewN | apply below_drew1) | exact HB.out))) : w.heap.size ≤ gb561)); have n6_ := Aside0.mk ((by rw [hg]; exact (below_size (by repeat (first | (with_reducible first | exact HB.out | apply below_alloc | apply pw_below_drewN | apply below_drew1) | exact HB.out))) : w.heap.size ≤ gb561)); clear HO_40; clear HO556; clear HO559; clear HB; have HO_40 := n0_; have HO556 := n1_; have HO559 := n2_; have HB := n3_; have BK561 := n4_; have GW561 := n5_; have GE561 := n6_; clear n0_ n1_ n2_ n3_ n4_ n5_ n6_; clear hb hbox hg; obtain ⟨Ao29, co29, eo29⟩ := Kd.R_slice HO556.out; subst eo29; have hcz30_0 : w28.cell? ⟨gb561, 0, none⟩ = some (.slice none 0 0) := (blk_cell BK561.out 0).trans rfl; have hcz30_1 : w28.cell? ⟨gb561, 1, none⟩ = some (.slice none 0 0) := (blk_cell BK561.out 1).trans rfl; have hfz30_0 := blk_frozen BK561.out 0; have hfz30_1 := blk_frozen BK561.out 1; obtain ⟨Ao31, co31, eo31⟩ := Kd.R_slice HO559.out; subst eo31) | ((with_reducible refine gate_store (t := 25) (p := 10) rfl ?_); refine store_event (t := 25) (p := 10) (v := ?vo_w32) (w1 := ((w28.setCell ⟨gb561, 0, none⟩ (.slice Ao29 t554.length co29)).setCell ⟨gb561, 1, none⟩ (.slice Ao31 t557.length co31))) ?hg ?ho ?hn ?hr ?_; (case ho => rfl); (case hg => rfl); (case hn => rfl); (case hr => first | (go_simp; done) | (go_simp; rfl)); intro w32 hw; have n0_ : Aside0 (Kd.R Kd.string 9 w32 w.heap.size (fun k_ => some k_ ≠ (.slice Ao29 t554.length co29 : Value).ownBlock) (.slice Ao16 y549.length co16) y549) := ⟨(by rw [hw]; exact (by (with_reducible repeat (first | apply Kd.R_alloc | apply Kd.R_drewN | apply Kd.R_drew)); exact Kd.R_mono (Kd.R_far (p := ⟨gb561, 1, none⟩) (Kd.R_far (p := ⟨gb561, 0, none⟩) (Kd.R_types HO_40.out BK561.out (by decide)) (fun _ hk => hk.2) (.slice Ao29 t554.length co29)) (fun _ hk => hk.2) (.slice Ao31 t557.length co31)) (fun _ hk => hk.1.2)))⟩; have n1_ : Aside0 (Kd.R Kd.string 9 w32 w.heap.size (fun k_ => some k_ ≠ (.slice Ao16 y549.length co16 : Value).ownBlock) (.slice Ao29 t554.length co29) t554) := ⟨(by rw [hw]; exact (by (with_reducible repeat (first | apply Kd.R_alloc | apply Kd.R_drewN | apply Kd.R_drew)); exact Kd.R_mono (Kd.R_far (p := ⟨gb561, 1, none⟩) (Kd.R_far (p := ⟨gb561, 0, none⟩) (Kd.R_types HO556.out BK561.out (by decide)) (fun _ hk => hk.2) (.slice Ao29 t554.length co29)) (fun _ hk => hk.2) (.slice Ao31 t557.length co31)) (fun _ hk => hk.1.2)))⟩; have n2_ : Aside0 (Kd.R k76 76 w32 w.heap.size (fun _ => True) (.slice Ao31 t557.length co31) t557) := ⟨(by rw [hw]; exact (by (with_reducible repeat (first | apply Kd.R_alloc | apply Kd.R_drewN | apply Kd.R_drew)); exact Kd.R_mono (Kd.R_far (p := ⟨gb561, 1, none⟩) (Kd.R_far (p := ⟨gb561, 0, none⟩) (Kd.R_types HO559.out BK561.out (by decide)) (fun _ hk => hk.2) (.slice Ao29 t554.length co29)) (fun _ hk => hk.2) (.slice Ao31 t557.length co31)) (fun _ hk => trivial)))⟩; have n3_ : Aside0 (w32.heap[gb561]? = some (.cells #[.slice Ao29 t554.length co29, .slice Ao31 t557.length co31] 25 (0, 0))) := ⟨(by rw [hw]; exact (by (with_reducible repeat (first | refine blk_drewN ?_ _ | refine blk_drew ?_ | refine blk_alloc ?_ _)); refine blk_put (cs := #[.slice Ao29 t554.length co29, .slice none 0 0]) ?_ 1 _ rfl; (with_reducible repeat (first | refine blk_drewN ?_ _ | refine blk_drew ?_ | refine blk_alloc ?_ _)); refine blk_put (cs := #[.slice none 0 0, .slice none 0 0]) ?_ 0 _ rfl; (with_reducible repeat (first | refine blk_drewN ?_ _ | refine blk_drew ?_ | refine blk_alloc ?_ _)); exact BK561.out))⟩; have n4_ : Aside0 (Below w.heap.size w w32) := ⟨(by rw [hw]; exact (by repeat (first | (with_reducible first | exact HB.out | apply below_alloc | apply pw_below_drewN | apply below_drew1 | refine below_set ?_ GE561.out) | exact HB.out)))⟩; clear hw; clear HO_40; clear HO556; clear HO559; clear BK561; clear HB; have HO_40 := n0_; have HO556 := n1_; have HO559 := n2_; have BK561 := n3_; have HB := n4_; clear n0_ n1_ n2_ n3_ n4_; have hcz33_0 : w32.cell? ⟨gb561, 0, none⟩ = some (.slice Ao29 t554.length co29) := (blk_cell BK561.out 0).trans rfl; have hcz33_1 : w32.cell? ⟨gb561, 1, none⟩ = some (.slice Ao31 t557.length co31) := (blk_cell BK561.out 1).trans rfl; have hfz33_0 := blk_frozen BK561.out 0; have hfz33_1 := blk_frozen BK561.out 1) | ((with_reducible refine gate_callee (f := 37) rfl ?_); refine goesL_ (some 63) rfl rfl Try.func37 (by kernel_rfl) rfl #[.agg #[.slice Ao29 t554.length co29, .slice Ao31 t557.length co31], .int .i64 (wrap64 (1 + (wrap64 (Int.tmod a0 2147483645)))), .int .i64 0, .slice A1 l1.length c1] rfl (by (try simp only [List.map_toArray, List.map_cons, List.map_nil]); first | done | rfl | (simp only [List.length_drop, List.length_take]; rfl)) ?_; (with_reducible refine (journal_Append.calls k2 (fun k_ => some k_ = (.slice Ao29 t554.length co29 : Value).ownBlock) (.slice Ao29 t554.length co29) t554 (fun k_ => some k_ = (.slice Ao31 t557.length co31 : Value).ownBlock) (.slice Ao31 t557.length co31) t557 (wrap64 (1 + (wrap64 (Int.tmod a0 2147483645)))) 0 _ _ l1 t562 t565 t568 t569 w _ ?side1 ?side2 ?side3 ?side4 ?side5 A24.out).mono ?_); (case side1 => repeat (first | (with_reducible first | exact HB.out | apply below_alloc | apply pw_below_drewN | apply below_drew1 | refine below_set ?_ GE561.out) | exact HB.out)); (case side2 => exact Kd.R_tight rfl HO556.out); (case side3 => exact Kd.R_tight rfl HO559.out); (case side4 => exact Kd.C_kept_came Kd.heap_string HR1.out (by repeat (first | (with_reducible first | exact HB.out | apply below_alloc | apply pw_below_drewN | apply below_drew1 | refine below_set ?_ GE561.out) | exact HB.out)) (fun k_ hs_ => Or.elim hs_ (fun e_ => (fun e_ => Kd.R_base HO556.out k_ e_.symm) e_) (fun e_ => (fun e_ => Kd.R_base HO559.out k_ e_.symm) e_))); (case side5 => exact HC1.out); rintro e w34 ⟨v563, v566, rfl, ho0, ho1, hb, hkp⟩; refine ⟨_, rfl, ?_⟩; have n0_ := Aside0.mk (Kd.R_mono (ok' := fun k_ => some k_ ≠ (v563 : Value).ownBlock) (Kd.R_keptB ((Kd.R_apart' HO_40.out (Kd.R_typed HO559.out) (by decide))) hkp (fun k_ hk_ hs_ => Or.elim hs_ (fun e_ => (hk_.1) e_) (fun e_ => (hk_.2) e_))) (fun k_ hk_ => fun e_ => Or.elim (ho0.1 k_ e_.symm) (fun hs_ => hk_.2.1 hs_) (fun hn_ => Nat.not_le.2 hk_.2.2 hn_))); have n1_ := Aside0.mk (blk_kept (by (with_reducible repeat (first | refine blk_drewN ?_ _ | refine blk_drew ?_ | refine blk_alloc ?_ _)); exact BK561.out) hkp (fun hs_ => Or.elim hs_ (fun e_ => (fun e_ => (Kd.R_ne HO556.out BK561.out (by decide)) e_) e_) (fun e_ => (fun e_ => (Kd.R_ne HO559.out BK561.out (by decide)) e_) e_))); have n2_ := Aside0.mk (Kd.R_mono (ok' := fun k_ => some k_ ≠ (.slice Ao16 y549.length co16 : Value).ownBlock) ho0 (fun k_ hk_ => Or.elim hk_ (fun hs_ => Or.elim hs_ (fun hs_ => fun e_ => ((((Kd.R_apart' HO_40.out (Kd.R_typed HO559.out) (by decide))).1 k_ e_.symm).1) hs_) (fun hs_ => fun e_ => ((((Kd.R_apart' HO_40.out (Kd.R_typed HO559.out) (by decide))).1 k_ e_.symm).2) hs_)) (fun hn_ => (Kd.fresh' (Kd.R_lt (by (with_reducible repeat (first | apply Kd.R_alloc | apply Kd.R_drewN | apply Kd.R_drew)); exact HO_40.out)) k_ hn_)))); have n3_ := Aside0.mk (Kd.R_mono (ok' := fun k_ => True) ho1 (fun k_ hk_ => trivial)); have n4_ := Aside0.mk (hb); clear HO_40; clear BK561; clear HB; clear HO556; clear HO559; have HO_40 := n0_; have BK561 := n1_; have HO564 := n2_; have HO567 := n3_; have HB := n4_; clear n0_ n1_ n2_ n3_ n4_; (try clear hb); (try clear hkp); (try clear ho0); (try clear ho1); obtain ⟨Ao35, co35, eo35⟩ := Kd.R_slice HO564.out; subst eo35; have hcz36_0 : w34.cell? ⟨gb561, 0, none⟩ = some (.slice Ao29 t554.length co29) := (blk_cell BK561.out 0).trans rfl; have hcz36_1 : w34.cell? ⟨gb561, 1, none⟩ = some (.slice Ao31 t557.length co31) := (blk_cell BK561.out 1).trans rfl; have hfz36_0 := blk_frozen BK561.out 0; have hfz36_1 := blk_frozen BK561.out 1; obtain ⟨Ao37, co37, eo37⟩ := Kd.R_slice HO567.out; subst eo37) | ((with_reducible refine gate_store (t := 25) (p := 10) rfl ?_); refine store_event (t := 25) (p := 10) (v := ?vo_w38) (w1 := ((w34.setCell ⟨gb561, 0, none⟩ (.slice Ao35 t562.length co35)).setCell ⟨gb561, 1, none⟩ (.slice Ao37 t565.length co37))) ?hg ?ho ?hn ?hr ?_; (case ho => rfl); (case hg => rfl); (case hn => rfl); (case hr => first | (go_simp; done) | (go_simp; rfl)); intro w38 hw; have n0_ : Aside0 (Kd.R Kd.string 9 w38 w.heap.size (fun k_ => some k_ ≠ (.slice Ao35 t562.length co35 : Value).ownBlock) (.slice Ao16 y549.length co16) y549) := ⟨(by rw [hw]; exact (by (with_reducible repeat (first | apply Kd.R_alloc | apply Kd.R_drewN | apply Kd.R_drew)); exact Kd.R_mono (Kd.R_far (p := ⟨gb561, 1, none⟩) (Kd.R_far (p := ⟨gb561, 0, none⟩) (Kd.R_types HO_40.out BK561.out (by decide)) (fun _ hk => hk.2) (.slice Ao35 t562.length co35)) (fun _ hk => hk.2) (.slice Ao37 t565.length co37)) (fun _ hk => hk.1)))⟩; have n1_ : Aside0 (Kd.R Kd.string 9 w38 w.heap.size (fun k_ => some k_ ≠ (.slice Ao16 y549.length co16 : Value).ownBlock) (.slice Ao35 t562.length co35) t562) := ⟨(by rw [hw]; exact (by (with_reducible repeat (first | apply Kd.R_alloc | apply Kd.R_drewN | apply Kd.R_drew)); exact Kd.R_mono (Kd.R_far (p := ⟨gb561, 1, none⟩) (Kd.R_far (p := ⟨gb561, 0, none⟩) (Kd.R_types HO564.out BK561.out (by decide)) (fun _ hk => hk.2) (.slice Ao35 t562.length co35)) (fun _ hk => hk.2) (.slice Ao37 t565.length co37)) (fun _ hk => hk.1)))⟩; have n2_ : Aside0 (Kd.R k76 76 w38 w.heap.size (fun _ => True) (.slice Ao37 t565.length co37) t565) := ⟨(by rw [hw]; exact (by (with_reducible repeat (first | apply Kd.R_alloc | apply Kd.R_drewN | apply Kd.R_drew)); exact Kd.R_mono (Kd.R_far (p := ⟨gb561, 1, none⟩) (Kd.R_far (p := ⟨gb561, 0, none⟩) (Kd.R_types HO567.out BK561.out (by decide)) (fun _ hk => hk.2) (.slice Ao35 t562.length co35)) (fun _ hk => hk.2) (.slice Ao37 t565.length co37)) (fun _ hk => trivial)))⟩; have n3_ : Aside0 (w38.heap[gb561]? = some (.cells #[.slice Ao35 t562.length co35, .slice Ao37 t565.length co37] 25 (0, 0))) := ⟨(by rw [hw]; exact (by (with_reducible repeat (first | refine blk_drewN ?_ _ | refine blk_drew ?_ | refine blk_alloc ?_ _)); refine blk_put (cs := #[.slice Ao35 t562.length co35, .slice Ao31 t557.length co31]) ?_ 1 _ rfl; (with_reducible repeat (first | refine blk_drewN ?_ _ | refine blk_drew ?_ | refine blk_alloc ?_ _)); refine blk_put (cs := #[.slice Ao29 t554.length co29, .slice Ao31 t557.length co31]) ?_ 0 _ rfl; (with_reducible repeat (first | refine blk_drewN ?_ _ | refine blk_drew ?_ | refine blk_alloc ?_ _)); exact BK561.out))⟩; have n4_ : Aside0 (Below w.heap.size w w38) := ⟨(by rw [hw]; exact (by repeat (first | (with_reducible first | exact HB.out | apply below_alloc | apply pw_below_drewN | apply below_drew1 | refine below_set ?_ GE561.out) | exact HB.out)))⟩; clear hw; clear HO_40; clear HO564; clear HO567; clear BK561; clear HB; have HO_40 := n0_; have HO564 := n1_; have HO567 := n2_; have BK561 := n3_; have HB := n4_; clear n0_ n1_ n2_ n3_ n4_; have hcz39_0 : w38.cell? ⟨gb561, 0, none⟩ = some (.slice Ao35 t562.length co35) := (blk_cell BK561.out 0).trans rfl; have hcz39_1 : w38.cell? ⟨gb561, 1, none⟩ = some (.slice Ao37 t565.length co37) := (blk_cell BK561.out 1).trans rfl; have hfz39_0 := blk_frozen BK561.out 0; have hfz39_1 := blk_frozen BK561.out 1) | ((with_reducible refine gate_callee (f := 37) rfl ?_); refine goesL_ (some 72) rfl rfl Try.func37 (by kernel_rfl) rfl #[.agg #[.slice Ao35 t562.length co35, .slice Ao37 t565.length co37], .int .i64 (wrap64 ((wrap64 (1 + (wrap64 (Int.tmod a0 2147483645)))) + 1)), .int .i64 0, .slice A2 l2.length c2] rfl (by (try simp only [List.map_toArray, List.map_cons, List.map_nil]); first | done | rfl | (simp only [List.length_drop, List.length_take]; rfl)) ?_; (with_reducible refine (journal_Append.calls k2 (fun k_ => some k_ = (.slice Ao35 t562.length co35 : Value).ownBlock) (.slice Ao35 t562.length co35) t562 (fun k_ => some k_ = (.slice Ao37 t565.length co37 : Value).ownBlock) (.slice Ao37 t565.length co37) t565 (wrap64 ((wrap64 (1 + (wrap64 (Int.tmod a0 2147483645)))) + 1)) 0 _ _ l2 t570 t573 t576 t577 w _ ?side1 ?side2 ?side3 ?side4 ?side5 A25.out).mono ?_); (case side1 => repeat (first | (with_reducible first | exact HB.out | apply below_alloc | apply pw_below_drewN | apply below_drew1 | refine below_set ?_ GE561.out) | exact HB.out)); (case side2 => exact Kd.R_tight rfl HO564.out); (case side3 => exact Kd.R_tight rfl HO567.out); (case side4 => exact Kd.C_kept_came Kd.heap_string HR2.out (by repeat (first | (with_reducible first | exact HB.out | apply below_alloc | apply pw_below_drewN | apply below_drew1 | refine below_set ?_ GE561.out) | exact HB.out)) (fun k_ hs_ => Or.elim hs_ (fun e_ => (fun e_ => Kd.R_base HO564.out k_ e_.symm) e_) (fun e_ => (fun e_ => Kd.R_base HO567.out k_ e_.symm) e_))); (case side5 => exact HC2.out); rintro e w40 ⟨v571, v574, rfl, ho0, ho1, hb, hkp⟩; refine ⟨_, rfl, ?_⟩; have n0_ := Aside0.mk (Kd.R_mono (ok' := fun k_ => some k_ ≠ (v571 : Value).ownBlock) (Kd.R_keptB ((Kd.R_apart' HO_40.out (Kd.R_typed HO567.out) (by decide))) hkp (fun k_ hk_ hs_ => Or.elim hs_ (fun e_ => (hk_.1) e_) (fun e_ => (hk_.2) e_))) (fun k_ hk_ => fun e_ => Or.elim (ho0.1 k_ e_.symm) (fun hs_ => hk_.2.1 hs_) (fun hn_ => Nat.not_le.2 hk_.2.2 hn_))); have n1_ := Aside0.mk (blk_kept (by (with_reducible repeat (first | refine blk_drewN ?_ _ | refine blk_drew ?_ | refine blk_alloc ?_ _)); exact BK561.out) hkp (fun hs_ => Or.elim hs_ (fun e_ => (fun e_ => (Kd.R_ne HO564.out BK561.out (by decide)) e_) e_) (fun e_ => (fun e_ => (Kd.R_ne HO567.out BK561.out (by decide)) e_) e_))); have n2_ := Aside0.mk (Kd.R_mono (ok' := fun k_ => some k_ ≠ (.slice Ao16 y549.length co16 : Value).ownBlock) ho0 (fun k_ hk_ => Or.elim hk_ (fun hs_ => Or.elim hs_ (fun hs_ => fun e_ => ((((Kd.R_apart' HO_40.out (Kd.R_typed HO567.out) (by decide))).1 k_ e_.symm).1) hs_) (fun hs_ => fun e_ => ((((Kd.R_apart' HO_40.out (Kd.R_typed HO567.out) (by decide))).1 k_ e_.symm).2) hs_)) (fun hn_ => (Kd.fresh' (Kd.R_lt (by (with_reducible repeat (first | apply Kd.R_alloc | apply Kd.R_drewN | apply Kd.R_drew)); exact HO_40.out)) k_ hn_)))); have n3_ := Aside0.mk (Kd.R_mono (ok' := fun k_ => True) ho1 (fun k_ hk_ => trivial)); have n4_ := Aside0.mk (hb); clear HO_40; clear BK561; clear HB; clear HO564; clear HO567; have HO_40 := n0_; have BK561 := n1_; have HO572 := n2_; have HO575 := n3_; have HB := n4_; clear n0_ n1_ n2_ n3_ n4_; (try clear hb); (try clear hkp); (try clear ho0); (try clear ho1); obtain ⟨Ao41, co41, eo41⟩ := Kd.R_slice HO572.out; subst eo41; have hcz42_0 : w40.cell? ⟨gb561, 0, none⟩ = some (.slice Ao35 t562.length co35) := (blk_cell BK561.out 0).trans rfl; have hcz42_1 : w40.cell? ⟨gb561, 1, none⟩ = some (.slice Ao37 t565.length co37) := (blk_cell BK561.out 1).trans rfl; have hfz42_0 := blk_frozen BK561.out 0; have hfz42_1 := blk_frozen BK561.out 1; obtain ⟨Ao43, co43, eo43⟩ := Kd.R_slice HO575.out; subst eo43))
                  (try simp only [Act.put, List.setIfInBounds_toArray, List.set_cons_zero, List.set_cons_succ])
                  go_cut [85] (fun v85 wc => ∃ (kq : Nat) (x85_25 : Bool), v85 = .bool x85_25 ∧ Aside0 (weirkeeperlaw08_JournalAnew.j2 kq l2 (wrap64 (1 + (wrap64 (Int.tmod a0 2147483645)))) t560 t569 t576 t577 x85_25 t570 t573 = some true) ∧ Aside0 (kq ≤ k2) ∧ Aside0 (Kd.R Kd.string 9 wc w.heap.size (fun _ => True) (.slice Ao41 t570.length co41) t570) ∧ Aside0 (Kd.R k76 76 wc w.heap.size (fun _ => True) (.slice Ao43 t573.length co43) t573) ∧ Aside0 (wc.heap[gb561]? = some (.cells #[(.slice Ao41 t570.length co41), (.slice Ao43 t573.length co43)] 25 (0, 0))) ∧ Aside0 (Below w.heap.size w wc))
                  case first =>
                    have H := HC26.out
                    clear HC26
                    by_cases c44 : t560 = 0
                    · rw [if_pos c44] at H
                      have c44b0 : (t560 == 0) = true := beq_iff_eq.mpr c44
                      have c44b1 : (t560 != 0) = false := bne_eq_false_iff_eq.mpr c44
                      clear c44
                      (first | rw [c44b0] | (simp only [i64_w, i32_w]; rw [c44b0]) | skip)
                      by_cases c45 : t569 = 0
                      · rw [if_pos c45] at H
                        have c45b0 : (t569 == 0) = true := beq_iff_eq.mpr c45
                        have c45b1 : (t569 != 0) = false := bne_eq_false_iff_eq.mpr c45
                        clear c45
                        have H' := Aside0.mk H
                        clear H
                        go_wp2
                        go_meet
                        case rel => exact ⟨_, ((t577 != 0)), (by first | rfl | (simp; done) | (simp [*]; done)), H', ⟨by have := HJ3.out; have := HK2.out; first | omega | exact Nat.le_refl _⟩, ⟨by (with_reducible repeat (first | apply Kd.R_alloc | apply Kd.R_drewN | apply Kd.R_drew)); exact Kd.R_mono (Kd.R_far (p := ⟨gb561, 1, none⟩) (Kd.R_far (p := ⟨gb561, 0, none⟩) (Kd.R_types HO572.out BK561.out (by decide)) (fun _ hk => hk.2) (.slice Ao41 t570.length co41)) (fun _ hk => hk.2) (.slice Ao43 t573.length co43)) (fun _ hk => trivial)⟩, ⟨by (with_reducible repeat (first | apply Kd.R_alloc | apply Kd.R_drewN | apply Kd.R_drew)); exact Kd.R_mono (Kd.R_far (p := ⟨gb561, 1, none⟩) (Kd.R_far (p := ⟨gb561, 0, none⟩) (Kd.R_types HO575.out BK561.out (by decide)) (fun _ hk => hk.2) (.slice Ao41 t570.length co41)) (fun _ hk => hk.2) (.slice Ao43 t573.length co43)) (fun _ hk => trivial)⟩, ⟨by (with_reducible repeat (first | refine blk_drewN ?_ _ | refine blk_drew ?_ | refine blk_alloc ?_ _)); refine blk_put (cs := #[.slice Ao41 t570.length co41, .slice Ao37 t565.length co37]) ?_ 1 _ rfl; (with_reducible repeat (first | refine blk_drewN ?_ _ | refine blk_drew ?_ | refine blk_alloc ?_ _)); refine blk_put (cs := #[.slice Ao35 t562.length co35, .slice Ao37 t565.length co37]) ?_ 0 _ rfl; (with_reducible repeat (first | refine blk_drewN ?_ _ | refine blk_drew ?_ | refine blk_alloc ?_ _)); exact BK561.out⟩, ⟨by repeat (first | (with_reducible first | exact HB.out | apply below_alloc | apply pw_below_drewN | apply below_drew1 | refine below_set ?_ GE561.out) | exact HB.out)⟩⟩
                      · rw [if_neg c45] at H
                        have c45b0 : (t569 == 0) = false := beq_eq_false_iff_ne.mpr c45
                        have c45b1 : (t569 != 0) = true := bne_iff_ne.mpr c45
                        have H' := Aside0.mk H
                        clear H
                        go_wp2
                        go_meet
                        case rel => exact ⟨_, (true), (by first | rfl | (simp; done) | (simp [*]; done)), H', ⟨by have := HJ3.out; have := HK2.out; first | omega | exact Nat.le_refl _⟩, ⟨by (with_reducible repeat (first | apply Kd.R_alloc | apply Kd.R_drewN | apply Kd.R_drew)); exact Kd.R_mono (Kd.R_far (p := ⟨gb561, 1, none⟩) (Kd.R_far (p := ⟨gb561, 0, none⟩) (Kd.R_types HO572.out BK561.out (by decide)) (fun _ hk => hk.2) (.slice Ao41 t570.length co41)) (fun _ hk => hk.2) (.slice Ao43 t573.length co43)) (fun _ hk => trivial)⟩, ⟨by (with_reducible repeat (first | apply Kd.R_alloc | apply Kd.R_drewN | apply Kd.R_drew)); exact Kd.R_mono (Kd.R_far (p := ⟨gb561, 1, none⟩) (Kd.R_far (p := ⟨gb561, 0, none⟩) (Kd.R_types HO575.out BK561.out (by decide)) (fun _ hk => hk.2) (.slice Ao41 t570.length co41)) (fun _ hk => hk.2) (.slice Ao43 t573.length co43)) (fun _ hk => trivial)⟩, ⟨by (with_reducible repeat (first | refine blk_drewN ?_ _ | refine blk_drew ?_ | refine blk_alloc ?_ _)); refine blk_put (cs := #[.slice Ao41 t570.length co41, .slice Ao37 t565.length co37]) ?_ 1 _ rfl; (with_reducible repeat (first | refine blk_drewN ?_ _ | refine blk_drew ?_ | refine blk_alloc ?_ _)); refine blk_put (cs := #[.slice Ao35 t562.length co35, .slice Ao37 t565.length co37]) ?_ 0 _ rfl; (with_reducible repeat (first | refine blk_drewN ?_ _ | refine blk_drew ?_ | refine blk_alloc ?_ _)); exact BK561.out⟩, ⟨by repeat (first | (with_reducible first | exact HB.out | apply below_alloc | apply pw_below_drewN | apply below_drew1 | refine below_set ?_ GE561.out) | exact HB.out)⟩⟩
                    · rw [if_neg c44] at H
                      have c44b0 : (t560 == 0) = false := beq_eq_false_iff_ne.mpr c44
                      have c44b1 : (t560 != 0) = true := bne_iff_ne.mpr c44
                      (first | rw [c44b0] | (simp only [i64_w, i32_w]; rw [c44b0]) | skip)
                      have H' := Aside0.mk H
                      clear H
                      go_wp2
                      go_meet
                      case rel => exact ⟨_, (true), (by first | rfl | (simp; done) | (simp [*]; done)), H', ⟨by have := HJ3.out; have := HK2.out; first | omega | exact Nat.le_refl _⟩, ⟨by (with_reducible repeat (first | apply Kd.R_alloc | apply Kd.R_drewN | apply Kd.R_drew)); exact Kd.R_mono (Kd.R_far (p := ⟨gb561, 1, none⟩) (Kd.R_far (p := ⟨gb561, 0, none⟩) (Kd.R_types HO572.out BK561.out (by decide)) (fun _ hk => hk.2) (.slice Ao41 t570.length co41)) (fun _ hk => hk.2) (.slice Ao43 t573.length co43)) (fun _ hk => trivial)⟩, ⟨by (with_reducible repeat (first | apply Kd.R_alloc | apply Kd.R_drewN | apply Kd.R_drew)); exact Kd.R_mono (Kd.R_far (p := ⟨gb561, 1, none⟩) (Kd.R_far (p := ⟨gb561, 0, none⟩) (Kd.R_types HO575.out BK561.out (by decide)) (fun _ hk => hk.2) (.slice Ao41 t570.length co41)) (fun _ hk => hk.2) (.slice Ao43 t573.length co43)) (fun _ hk => trivial)⟩, ⟨by (with_reducible repeat (first | refine blk_drewN ?_ _ | refine blk_drew ?_ | refine blk_alloc ?_ _)); refine blk_put (cs := #[.slice Ao41 t570.length co41, .slice Ao37 t565.length co37]) ?_ 1 _ rfl; (with_reducible repeat (first | refine blk_drewN ?_ _ | refine blk_drew ?_ | refine blk_alloc ?_ _)); refine blk_put (cs := #[.slice Ao35 t562.length co35, .slice Ao37 t565.length co37]) ?_ 0 _ rfl; (with_reducible repeat (first | refine blk_drewN ?_ _ | refine blk_drew ?_ | refine blk_alloc ?_ _)); exact BK561.out⟩, ⟨by repeat (first | (with_reducible first | exact HB.out | apply below_alloc | apply pw_below_drewN | apply below_drew1 | refine below_set ?_ GE561.out) | exact HB.out)⟩⟩
                  case rest =>
                    clear HC26
                    try clear c1
                    try clear c2
                    try clear p2
                    try clear c3
                    try clear c4
                    try clear c5
                    try clear c5b0
                    try clear c5b1
                    try clear p5
                    try clear q5
                    try clear hx5
                    try clear c6
                    try clear c6b0
                    try clear c6b1
                    try clear p6
                    try clear c7
                    try clear c10
                    try clear c11
                    try clear c13
                    try clear c17
                    try clear c17b0
                    try clear c18
                    try clear c18b0
                    try clear c19
                    try clear c19b0
                    try clear c20
                    try clear c20b0
                    try clear c20b1
                    try clear c24
                    try clear c27
                    try clear c37
                    try clear c44
                    try clear c44b0
                    try clear c44b1
                    try clear c45
                    try clear c45b0
                    try clear c45b1
                    try clear hcz30_0
                    try clear hcz30_1
                    try clear hcz33_0
                    try clear hcz33_1
                    try clear hcz36_0
                    try clear hcz36_1
                    try clear hcz39_0
                    try clear hcz39_1
                    try clear hcz42_0
                    try clear hcz42_1
                    try clear hfz30_0
                    try clear hfz30_1
                    try clear hfz33_0
                    try clear hfz33_1
                    try clear hfz36_0
                    try clear hfz36_1
                    try clear hfz39_0
                    try clear hfz39_1
                    try clear hfz42_0
                    try clear hfz42_1
                    try clear hx552_0
                    try clear p2
                    try clear p552
                    try clear q552
                    obtain ⟨kq, x85_25, rfl, HA, HJ25, HO_562000, HO_562001, BK561, HB⟩ := hcut
                    cases kq with
                    | zero => exact absurd HA.out (by simp [weirkeeperlaw08_JournalAnew.j2])
                    | succ kj25 =>
                      have H := HA.out
                      clear HA
                      simp only [weirkeeperlaw08_JournalAnew.j2] at H
                      by_cases c46 : x85_25 = true
                      · subst c46
                        have H1 : (if t560 = 0 then (if t569 = 6 then ((weirkeeperlaw08_awake.f kj25).bind fun t578 => (some t578)) else (if t577 = 6 then ((weirkeeperlaw08_awake.f kj25).bind fun t579 => (some t579)) else (some false))) else (some false)) = some true := by rw [if_pos rfl] at H; exact H
                        clear H
                        have H := H1
                        clear H1
                        by_cases c47 : t560 = 0
                        · rw [if_pos c47] at H
                          have c47b0 : (t560 == 0) = true := beq_iff_eq.mpr c47
                          have c47b1 : (t560 != 0) = false := bne_eq_false_iff_eq.mpr c47
                          clear c47
                          by_cases c48 : t569 = 6
                          · rw [if_pos c48] at H
                            have c48b0 : (t569 == 6) = true := beq_iff_eq.mpr c48
                            have c48b1 : (t569 != 6) = false := bne_eq_false_iff_eq.mpr c48
                            clear c48
                            replace H := Option.bind_eq_some_iff.mp H
                            obtain ⟨t578, A490, H⟩ := H
                            replace H : (some t578) = some true := H
                            have A49 := Aside0.mk A490
                            clear A490
                            (have H9_ := Option.some.inj H; first | subst H9_ | (have h9_ := Aside0.mk H9_; clear H9_))
                            go_wp2_with (first | (go_at_call 27; (with_reducible refine (weirkeeperlaw08_awake.calls kj25 _ A49.out).mono ?_); rintro e w50 ⟨rfl, hb⟩; have n0_ := Aside0.mk (Kd.R_below (by (with_reducible repeat (first | apply Kd.R_alloc | apply Kd.R_drewN | apply Kd.R_drew)); exact HO_562000.out) hb); have n1_ := Aside0.mk (Kd.R_below (by (with_reducible repeat (first | apply Kd.R_alloc | apply Kd.R_drewN | apply Kd.R_drew)); exact HO_562001.out) hb); have n2_ := Aside0.mk (blk_below (g := gb561) (o := .cells #[.slice Ao41 t570.length co41, .slice Ao43 t573.length co43] 25 (0, 0)) (by (with_reducible repeat (first | refine blk_drewN ?_ _ | refine blk_drew ?_ | refine blk_alloc ?_ _)); exact BK561.out) hb); have n3_ := Aside0.mk (below_step (by repeat (first | (with_reducible first | exact HB.out | apply below_alloc | apply pw_below_drewN | apply below_drew1 | refine below_set ?_ GE561.out) | exact HB.out)) hb); clear HO_562000; clear HO_562001; clear BK561; clear HB; have HO_562000 := n0_; have HO_562001 := n1_; have BK561 := n2_; have HB := n3_; clear n0_ n1_ n2_ n3_; (try clear hb); (try clear hb2); (try clear hk); (try clear hi)))
                            go_ret
                            exact ⟨by first | rfl | (simp only [h9_.out]; done) | (have h8_ := h9_.out; simp [h8_]; done) | (simp [errW_none, errW_some] <;> rfl) | (simp [*, errW_none, errW_some] <;> rfl), by repeat (first | (with_reducible first | exact HB.out | apply below_alloc | apply pw_below_drewN | apply below_drew1 | refine below_set ?_ GE561.out) | exact HB.out)⟩
                          · rw [if_neg c48] at H
                            have c48b0 : (t569 == 6) = false := beq_eq_false_iff_ne.mpr c48
                            have c48b1 : (t569 != 6) = true := bne_iff_ne.mpr c48
                            by_cases c51 : t577 = 6
                            · rw [if_pos c51] at H
                              have c51b0 : (t577 == 6) = true := beq_iff_eq.mpr c51
                              have c51b1 : (t577 != 6) = false := bne_eq_false_iff_eq.mpr c51
                              clear c51
                              replace H := Option.bind_eq_some_iff.mp H
                              obtain ⟨t579, A520, H⟩ := H
                              replace H : (some t579) = some true := H
                              have A52 := Aside0.mk A520
                              clear A520
                              (have H9_ := Option.some.inj H; first | subst H9_ | (have h9_ := Aside0.mk H9_; clear H9_))
                              go_wp2_with (first | (go_at_call 27; (with_reducible refine (weirkeeperlaw08_awake.calls kj25 _ A52.out).mono ?_); rintro e w53 ⟨rfl, hb⟩; have n0_ := Aside0.mk (Kd.R_below (by (with_reducible repeat (first | apply Kd.R_alloc | apply Kd.R_drewN | apply Kd.R_drew)); exact HO_562000.out) hb); have n1_ := Aside0.mk (Kd.R_below (by (with_reducible repeat (first | apply Kd.R_alloc | apply Kd.R_drewN | apply Kd.R_drew)); exact HO_562001.out) hb); have n2_ := Aside0.mk (blk_below (g := gb561) (o := .cells #[.slice Ao41 t570.length co41, .slice Ao43 t573.length co43] 25 (0, 0)) (by (with_reducible repeat (first | refine blk_drewN ?_ _ | refine blk_drew ?_ | refine blk_alloc ?_ _)); exact BK561.out) hb); have n3_ := Aside0.mk (below_step (by repeat (first | (with_reducible first | exact HB.out | apply below_alloc | apply pw_below_drewN | apply below_drew1 | refine below_set ?_ GE561.out) | exact HB.out)) hb); clear HO_562000; clear HO_562001; clear BK561; clear HB; have HO_562000 := n0_; have HO_562001 := n1_; have BK561 := n2_; have HB := n3_; clear n0_ n1_ n2_ n3_; (try clear hb); (try clear hb2); (try clear hk); (try clear hi)))
                              go_ret
                              exact ⟨by first | rfl | (simp only [h9_.out]; done) | (have h8_ := h9_.out; simp [h8_]; done) | (simp [errW_none, errW_some] <;> rfl) | (simp [*, errW_none, errW_some] <;> rfl), by repeat (first | (with_reducible first | exact HB.out | apply below_alloc | apply pw_below_drewN | apply below_drew1 | refine below_set ?_ GE561.out) | exact HB.out)⟩
                            · rw [if_neg c51] at H
                              have c51b0 : (t577 == 6) = false := beq_eq_false_iff_ne.mpr c51
                              have c51b1 : (t577 != 6) = true := bne_iff_ne.mpr c51
                              exact absurd H (by simp)
                        · rw [if_neg c47] at H
                          have c47b0 : (t560 == 0) = false := beq_eq_false_iff_ne.mpr c47
                          have c47b1 : (t560 != 0) = true := bne_iff_ne.mpr c47
                          exact absurd H (by simp)
                      · replace c46 := Bool.eq_false_iff.mpr c46
                        subst c46
                        have H1 : ((journal_Texts.f kj25 t570 t573 (wrap64 ((wrap64 (1 + (wrap64 (Int.tmod a0 2147483645)))) + 1))).bind fun bt580 => ((journal_Texts.f kj25 t570 t573 (wrap64 (1 + (wrap64 (Int.tmod a0 2147483645))))).bind fun bt585 => (if bt580.2.2 = 0 then (if bt585.2.2 = 0 then (if bt580.2.1 = t576 then ((weirkeeperref01_Same.f kj25 bt580.1 l2).bind fun t590 => (if t590 = true then (if (bt585.1.length : Int) = 0 then (if bt585.2.1 = 0 then ((weirkeeperlaw08_awake.f kj25).bind fun t591 => (some t591)) else (some false)) else (some false)) else (some false))) else (some false)) else (some false)) else (some false)))) = some true := by rw [if_neg (show ¬ (false = true) by decide)] at H; exact H
                        clear H
                        have H := H1
                        clear H1
                        replace H := Option.bind_eq_some_iff.mp H
                        obtain ⟨⟨t580, t583, t584⟩, A540, H⟩ := H
                        replace H : ((journal_Texts.f kj25 t570 t573 (wrap64 (1 + (wrap64 (Int.tmod a0 2147483645))))).bind fun bt585 => (if t584 = 0 then (if bt585.2.2 = 0 then (if t583 = t576 then ((weirkeeperref01_Same.f kj25 t580 l2).bind fun t590 => (if t590 = true then (if (bt585.1.length : Int) = 0 then (if bt585.2.1 = 0 then ((weirkeeperlaw08_awake.f kj25).bind fun t591 => (some t591)) else (some false)) else (some false)) else (some false))) else (some false)) else (some false)) else (some false))) = some true := H
                        have A54 := Aside0.mk A540
                        clear A540
                        replace H := Option.bind_eq_some_iff.mp H
                        obtain ⟨⟨t585, t588, t589⟩, A550, H⟩ := H
                        replace H : (if t584 = 0 then (if t589 = 0 then (if t583 = t576 then ((weirkeeperref01_Same.f kj25 t580 l2).bind fun t590 => (if t590 = true then (if (t585.length : Int) = 0 then (if t588 = 0 then ((weirkeeperlaw08_awake.f kj25).bind fun t591 => (some t591)) else (some false)) else (some false)) else (some false))) else (some false)) else (some false)) else (some false)) = some true := H
                        have A55 := Aside0.mk A550
                        clear A550
                        by_cases c56 : t584 = 0
                        · rw [if_pos c56] at H
                          have c56b0 : (t584 == 0) = true := beq_iff_eq.mpr c56
                          have c56b1 : (t584 != 0) = false := bne_eq_false_iff_eq.mpr c56
                          clear c56
                          by_cases c57 : t589 = 0
                          · rw [if_pos c57] at H
                            have c57b0 : (t589 == 0) = true := beq_iff_eq.mpr c57
                            have c57b1 : (t589 != 0) = false := bne_eq_false_iff_eq.mpr c57
                            clear c57
                            by_cases c58 : t583 = t576
                            · rw [if_pos c58] at H
                              have c58b0 : (t583 == t576) = true := beq_iff_eq.mpr c58
                              have c58b1 : (t583 != t576) = false := bne_eq_false_iff_eq.mpr c58
                              clear c58
                              replace H := Option.bind_eq_some_iff.mp H
                              obtain ⟨t590, A590, H⟩ := H
                              replace H : (if t590 = true then (if (t585.length : Int) = 0 then (if t588 = 0 then ((weirkeeperlaw08_awake.f kj25).bind fun t591 => (some t591)) else (some false)) else (some false)) else (some false)) = some true := H
                              have A59 := Aside0.mk A590
                              clear A590
                              by_cases c60 : t590 = true
                              · subst c60
                                have H1 : (if (t585.length : Int) = 0 then (if t588 = 0 then ((weirkeeperlaw08_awake.f kj25).bind fun t591 => (some t591)) else (some false)) else (some false)) = some true := by rw [if_pos rfl] at H; exact H
                                clear H
                                have H := H1
                                clear H1
                                by_cases c61 : (t585.length : Int) = 0
                                · rw [if_pos c61] at H
                                  have c61b0 : ((t585.length : Int) == 0) = true := beq_iff_eq.mpr c61
                                  have c61b1 : ((t585.length : Int) != 0) = false := bne_eq_false_iff_eq.mpr c61
                                  clear c61
                                  by_cases c62 : t588 = 0
                                  · rw [if_pos c62] at H
                                    have c62b0 : (t588 == 0) = true := beq_iff_eq.mpr c62
                                    have c62b1 : (t588 != 0) = false := bne_eq_false_iff_eq.mpr c62
                                    clear c62
                                    replace H := Option.bind_eq_some_iff.mp H
                                    obtain ⟨t591, A630, H⟩ := H
                                    replace H : (some t591) = some true := H
                                    have A63 := Aside0.mk A630
                                    clear A630
                                    (have H9_ := Option.some.inj H; first | subst H9_ | (have h9_ := Aside0.mk H9_; clear H9_))
                                    have hcz64_0 : wc.cell? ⟨gb561, 0, none⟩ = some (.slice Ao41 t570.length co41) := (blk_cell BK561.out 0).trans rfl
                                    have hcz64_1 : wc.cell? ⟨gb561, 1, none⟩ = some (.slice Ao43 t573.length co43) := (blk_cell BK561.out 1).trans rfl
                                    have hfz64_0 := blk_frozen BK561.out 0
                                    have hfz64_1 := blk_frozen BK561.out 1
                                    go_wp2_with (first | ((with_reducible refine gate_callee (f := 35) rfl ?_); refine goesL_ (some 103) rfl rfl Try.func35 (by kernel_rfl) rfl #[.agg #[.slice Ao41 t570.length co41, .slice Ao43 t573.length co43], .int .i64 (wrap64 ((wrap64 (1 + (wrap64 (Int.tmod a0 2147483645)))) + 1))] rfl (by (try simp only [List.map_toArray, List.map_cons, List.map_nil]); first | done | rfl | (simp only [List.length_drop, List.length_take]; rfl)) ?_; (with_reducible refine (journal_Texts.calls kj25 _ _ t570 _ _ t573 (wrap64 ((wrap64 (1 + (wrap64 (Int.tmod a0 2147483645)))) + 1)) t580 t583 t584 _ ?side1 ?side2 ?side3 ?side4 A54.out).mono ?_); (case side1 => repeat (first | exact (Kd.R_reads' HO_562000.out).2.2 | (with_reducible refine Kd.C_alloc ?_ _) | (with_reducible refine Kd.C_drewN ?_ _) | (with_reducible refine Kd.C_drew ?_))); (case side2 => exact (Kd.R_reads' HO_562000.out).2.1); (case side3 => repeat (first | exact (Kd.R_reads' HO_562001.out).2.2 | (with_reducible refine Kd.C_alloc ?_ _) | (with_reducible refine Kd.C_drewN ?_ _) | (with_reducible refine Kd.C_drew ?_))); (case side4 => exact (Kd.R_reads' HO_562001.out).2.1); rintro e w65 ⟨v581, rfl, ho0, hb⟩; refine ⟨_, rfl, ?_⟩; have n0_ := Aside0.mk (Kd.R_elder' (by (with_reducible repeat (first | apply Kd.R_alloc | apply Kd.R_drewN | apply Kd.R_drew)); exact HO_562000.out) (Kd.R_base ho0) hb); have n1_ := Aside0.mk (Kd.R_below (by (with_reducible repeat (first | apply Kd.R_alloc | apply Kd.R_drewN | apply Kd.R_drew)); exact HO_562001.out) hb); have n2_ := Aside0.mk (Kd.R_lower (Kd.R_new' ho0 (Kd.R_lt (by (with_reducible repeat (first | apply Kd.R_alloc | apply Kd.R_drewN | apply Kd.R_drew)); exact HO_562000.out))) (below_size (by repeat (first | (with_reducible first | exact HB.out | apply below_alloc | apply pw_below_drewN | apply below_drew1 | refine below_set ?_ GE561.out) | exact HB.out)))); have n3_ := Aside0.mk (blk_below (g := gb561) (o := .cells #[.slice Ao41 t570.length co41, .slice Ao43 t573.length co43] 25 (0, 0)) (by (with_reducible repeat (first | refine blk_drewN ?_ _ | refine blk_drew ?_ | refine blk_alloc ?_ _)); exact BK561.out) hb); have n4_ := Aside0.mk (below_step (by repeat (first | (with_reducible first | exact HB.out | apply below_alloc | apply pw_below_drewN | apply below_drew1 | refine below_set ?_ GE561.out) | exact HB.out)) hb); clear HO_562000; clear HO_562001; clear BK561; clear HB; have HO_562000 := n0_; have HO_562001 := n1_; have HO582 := n2_; have BK561 := n3_; have HB := n4_; clear n0_ n1_ n2_ n3_ n4_; (try clear hb); (try clear hb2); (try clear hk); (try clear hi); (try clear ho0); have hcz66_0 : w65.cell? ⟨gb561, 0, none⟩ = some (.slice Ao41 t570.length co41) := (blk_cell BK561.out 0).trans rfl; have hcz66_1 : w65.cell? ⟨gb561, 1, none⟩ = some (.slice Ao43 t573.length co43) := (blk_cell BK561.out 1).trans rfl; have hfz66_0 := blk_frozen BK561.out 0; have hfz66_1 := blk_frozen BK561.out 1) | ((with_reducible refine gate_callee (f := 35) rfl ?_); refine goesL_ (some 110) rfl rfl Try.func35 (by kernel_rfl) rfl #[.agg #[.slice Ao41 t570.length co41, .slice Ao43 t573.length co43], .int .i64 (wrap64 (1 + (wrap64 (Int.tmod a0 2147483645))))] rfl (by (try simp only [List.map_toArray, List.map_cons, List.map_nil]); first | done | rfl | (simp only [List.length_drop, List.length_take]; rfl)) ?_; (with_reducible refine (journal_Texts.calls kj25 _ _ t570 _ _ t573 (wrap64 (1 + (wrap64 (Int.tmod a0 2147483645)))) t585 t588 t589 _ ?side1 ?side2 ?side3 ?side4 A55.out).mono ?_); (case side1 => repeat (first | exact (Kd.R_reads' HO_562000.out).2.2 | (with_reducible refine Kd.C_alloc ?_ _) | (with_reducible refine Kd.C_drewN ?_ _) | (with_reducible refine Kd.C_drew ?_))); (case side2 => exact (Kd.R_reads' HO_562000.out).2.1); (case side3 => repeat (first | exact (Kd.R_reads' HO_562001.out).2.2 | (with_reducible refine Kd.C_alloc ?_ _) | (with_reducible refine Kd.C_drewN ?_ _) | (with_reducible refine Kd.C_drew ?_))); (case side4 => exact (Kd.R_reads' HO_562001.out).2.1); rintro e w67 ⟨v586, rfl, ho0, hb⟩; refine ⟨_, rfl, ?_⟩; have n0_ := Aside0.mk (Kd.R_elder' (by (with_reducible repeat (first | apply Kd.R_alloc | apply Kd.R_drewN | apply Kd.R_drew)); exact HO_562000.out) (Kd.R_base ho0) hb); have n1_ := Aside0.mk (Kd.R_below (by (with_reducible repeat (first | apply Kd.R_alloc | apply Kd.R_drewN | apply Kd.R_drew)); exact HO_562001.out) hb); have n2_ := Aside0.mk (Kd.R_elder' (by (with_reducible repeat (first | apply Kd.R_alloc | apply Kd.R_drewN | apply Kd.R_drew)); exact HO582.out) (Kd.R_base ho0) hb); have n3_ := Aside0.mk (Kd.R_lower (Kd.R_new' (Kd.R_new' ho0 (Kd.R_lt (by (with_reducible repeat (first | apply Kd.R_alloc | apply Kd.R_drewN | apply Kd.R_drew)); exact HO_562000.out))) (Kd.R_lt (by (with_reducible repeat (first | apply Kd.R_alloc | apply Kd.R_drewN | apply Kd.R_drew)); exact HO582.out))) (below_size (by repeat (first | (with_reducible first | exact HB.out | apply below_alloc | apply pw_below_drewN | apply below_drew1 | refine below_set ?_ GE561.out) | exact HB.out)))); have n4_ := Aside0.mk (blk_below (g := gb561) (o := .cells #[.slice Ao41 t570.length co41, .slice Ao43 t573.length co43] 25 (0, 0)) (by (with_reducible repeat (first | refine blk_drewN ?_ _ | refine blk_drew ?_ | refine blk_alloc ?_ _)); exact BK561.out) hb); have n5_ := Aside0.mk (below_step (by repeat (first | (with_reducible first | exact HB.out | apply below_alloc | apply pw_below_drewN | apply below_drew1 | refine below_set ?_ GE561.out) | exact HB.out)) hb); clear HO_562000; clear HO_562001; clear HO582; clear BK561; clear HB; have HO_562000 := n0_; have HO_562001 := n1_; have HO582 := n2_; have HO587 := n3_; have BK561 := n4_; have HB := n5_; clear n0_ n1_ n2_ n3_ n4_ n5_; (try clear hb); (try clear hb2); (try clear hk); (try clear hi); (try clear ho0); obtain ⟨Ao68, co68, eo68⟩ := Kd.R_slice HO582.out; subst eo68) | (go_at_call 32; (with_reducible refine (weirkeeperref01_Same.calls kj25 _ _ t580 _ _ l2 true _ ?side1 ?side2 ?side3 ?side4 A59.out).mono ?_); (case side1 => repeat (first | exact (Kd.R_reads' HO582.out).2.2 | (with_reducible refine Kd.C_alloc ?_ _) | (with_reducible refine Kd.C_drewN ?_ _) | (with_reducible refine Kd.C_drew ?_))); (case side2 => exact (Kd.R_reads' HO582.out).2.1); (case side3 => repeat (first | exact (Kd.C_below HR2.out HB.out) | (with_reducible refine Kd.C_alloc ?_ _) | (with_reducible refine Kd.C_drewN ?_ _) | (with_reducible refine Kd.C_drew ?_))); (case side4 => exact HC2.out); rintro e w' ⟨rfl, ⟨nd, rfl⟩⟩; obtain ⟨Ao69, co69, eo69⟩ := Kd.R_slice HO587.out; subst eo69) | (go_at_call 27; (with_reducible refine (weirkeeperlaw08_awake.calls kj25 _ A63.out).mono ?_); rintro e w70 ⟨rfl, hb⟩; have n0_ := Aside0.mk (Kd.R_below (by (with_reducible repeat (first | apply Kd.R_alloc | apply Kd.R_drewN | apply Kd.R_drew)); exact HO_562000.out) hb); have n1_ := Aside0.mk (Kd.R_below (by (with_reducible repeat (first | apply Kd.R_alloc | apply Kd.R_drewN | apply Kd.R_drew)); exact HO_562001.out) hb); have n2_ := Aside0.mk (Kd.R_below (by (with_reducible repeat (first | apply Kd.R_alloc | apply Kd.R_drewN | apply Kd.R_drew)); exact HO582.out) hb); have n3_ := Aside0.mk (Kd.R_below (by (with_reducible repeat (first | apply Kd.R_alloc | apply Kd.R_drewN | apply Kd.R_drew)); exact HO587.out) hb); have n4_ := Aside0.mk (blk_below (g := gb561) (o := .cells #[.slice Ao41 t570.length co41, .slice Ao43 t573.length co43] 25 (0, 0)) (by (with_reducible repeat (first | refine blk_drewN ?_ _ | refine blk_drew ?_ | refine blk_alloc ?_ _)); exact BK561.out) hb); have n5_ := Aside0.mk (below_step (by repeat (first | (with_reducible first | exact HB.out | apply below_alloc | apply pw_below_drewN | apply below_drew1 | refine below_set ?_ GE561.out) | exact HB.out)) hb); clear HO_562000; clear HO_562001; clear HO582; clear HO587; clear BK561; clear HB; have HO_562000 := n0_; have HO_562001 := n1_; have HO582 := n2_; have HO587 := n3_; have BK561 := n4_; have HB := n5_; clear n0_ n1_ n2_ n3_ n4_ n5_; (try clear hb); (try clear hb2); (try clear hk); (try clear hi)))
                                    go_ret
                                    exact ⟨by first | rfl | (simp only [h9_.out]; done) | (have h8_ := h9_.out; simp [h8_]; done) | (simp [errW_none, errW_some] <;> rfl) | (simp [*, errW_none, errW_some] <;> rfl), by repeat (first | (with_reducible first | exact HB.out | apply below_alloc | apply pw_below_drewN | apply below_drew1 | refine below_set ?_ GE561.out) | exact HB.out)⟩
                                  · rw [if_neg c62] at H
                                    have c62b0 : (t588 == 0) = false := beq_eq_false_iff_ne.mpr c62
                                    have c62b1 : (t588 != 0) = true := bne_iff_ne.mpr c62
                                    exact absurd H (by simp)
                                · rw [if_neg c61] at H
                                  have c61b0 : ((t585.length : Int) == 0) = false := beq_eq_false_iff_ne.mpr c61
                                  have c61b1 : ((t585.length : Int) != 0) = true := bne_iff_ne.mpr c61
                                  have c61b2 : ¬ (t585 = []) := fun h_ => c61 (by rw [h_]; rfl)
                                  exact absurd H (by simp)
                              · replace c60 := Bool.eq_false_iff.mpr c60
                                subst c60
                                have H1 : (some false) = some true := by rw [if_neg (show ¬ (false = true) by decide)] at H; exact H
                                clear H
                                have H := H1
                                clear H1
                                exact absurd H (by simp)
                            · rw [if_neg c58] at H
                              have c58b0 : (t583 == t576) = false := beq_eq_false_iff_ne.mpr c58
                              have c58b1 : (t583 != t576) = true := bne_iff_ne.mpr c58
                              exact absurd H (by simp)
                          · rw [if_neg c57] at H
                            have c57b0 : (t589 == 0) = false := beq_eq_false_iff_ne.mpr c57
                            have c57b1 : (t589 != 0) = true := bne_iff_ne.mpr c57
                            exact absurd H (by simp)
                        · rw [if_neg c56] at H
                          have c56b0 : (t584 == 0) = false := beq_eq_false_iff_ne.mpr c56
                          have c56b1 : (t584 != 0) = true := bne_iff_ne.mpr c56
                          exact absurd H (by simp)
          · rw [if_neg c11] at H
            exact absurd H (by simp)
        · rw [if_neg c10] at H
          exact absurd H (by simp)

end Go.Proofs.Ytpkapldkmleppaa.F
