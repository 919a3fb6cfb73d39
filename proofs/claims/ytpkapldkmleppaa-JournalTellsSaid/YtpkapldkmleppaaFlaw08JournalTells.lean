/- Contracts of Go functions of the seat Ytpkapldkmleppaa: what a call comes to; no condition but those that each theorem names. -/
import Derived.Test.YtpkapldkmleppaaFPre
import Derived.Test.YtpkapldkmleppaaFjournalx2
import Derived.Test.YtpkapldkmleppaaFjournalx1
import Derived.Test.YtpkapldkmleppaaFlaw04Ref
import Derived.Test.YtpkapldkmleppaaFlaw08awake
import Derived.Test.YtpkapldkmleppaaFref01
import Derived.Test.YtpkapldkmleppaaFref04x0
import Derived.Test.YtpkapldkmleppaaFref08x2
import Derived.Test.YtpkapldkmleppaaFref08x1
namespace Go.Proofs.Ytpkapldkmleppaa.F
open Go.RowKit Go.Proofs.YtpkapldkmleppaaW.PrintWords Go.Proofs.YtpkapldkmleppaaW.PrintLast Go.Proofs.YtpkapldkmleppaaW.PrintMore
attribute [local go_sem] max2_int min2_int max_two min_two max_three min_three max_four min_four   -- for this text's walks alone
set_option linter.unusedVariables false
set_option linter.unusedSimpArgs false

attribute [local go_sem] fieldD25_0 fieldD25_1
/-! ### weirkeeperlaw08_JournalTells: function 9 -/
mutual
def weirkeeperlaw08_JournalTells.j0 : Nat → Int → Int → List ByteArray → Bool → List ByteArray → List (S76) → List ByteArray → List (S77) → Option (Bool)
  | 0, _, _, _, _, _, _, _, _ => none
  | k + 1, x1, x2, x3, x40, x578000, x578001, x585000, x585001 => if x40 = true then ((weirkeeperlaw08_awake.f k).bind fun t585 => (some t585)) else (weirkeeperlaw08_JournalTells.l0 k x1 x2 x3 x3 (x3.length : Int) 0 x578000 x578001 x585000 x585001)
def weirkeeperlaw08_JournalTells.l0 : Nat → Int → Int → List ByteArray → List ByteArray → Int → Int → List ByteArray → List (S76) → List ByteArray → List (S77) → Option (Bool)
  | 0, _, _, _, _, _, _, _, _, _, _ => none
  | k + 1, x1, x2, x3, x42, x43, x44, x578000, x578001, x585000, x585001 => if x44 < x43 then (if 0 ≤ x44 then (if x44 < (x42.length : Int) then (if ((rdOf ByteArray.empty x42 x44).size : Int) > 300 then ((weirkeeperlaw08_awake.f k).bind fun t587 => (some t587)) else (weirkeeperlaw08_JournalTells.l0 k x1 x2 x3 x42 x43 (wrap64 (x44 + 1)) x578000 x578001 x585000 x585001)) else (none)) else (none)) else ((journal_Texts.f k x578000 x578001 x1).bind fun bt588 => ((weirkeeperref08_Texts.f k x585000 x585001 x1).bind fun bt593 => ((journal_Append.f k x578000 x578001 x1 x2 x3).bind fun bt598 => ((weirkeeperref08_Append.f k x585000 x585001 x1 x2 x3).bind fun bt607 => ((weirkeeperref01_Same.f k bt588.1 bt593.1).bind fun t616 => (if t616 = true then (if bt588.2.1 = bt593.2.1 then (if bt588.2.2 = bt593.2.2 then ((weirkeeperlaw04_Ref.f k bt598.1 bt598.2.1).bind fun bt617 => ((weirkeeperref04_Same.f k bt617.1 bt617.2 bt607.1 bt607.2.1).bind fun t623 => (if t623 = true then (if bt598.2.2.1 = bt607.2.2.1 then (if bt598.2.2.2 = bt607.2.2.2 then ((weirkeeperlaw08_awake.f k).bind fun t624 => (some t624)) else (some false)) else (some false)) else (some false)))) else (some false)) else (some false)) else (some false)))))))
end
def weirkeeperlaw08_JournalTells.f (k : Nat) (l0_0 : List ByteArray) (l0_1 : List (S76)) (a1 : Int) (a2 : Int) (l3 : List ByteArray) : Option (Bool) := (weirkeeperlaw04_Ref.f k l0_0 l0_1).bind fun bt578 => (if (l0_0.length : Int) > 200 then (weirkeeperlaw08_JournalTells.j0 k a1 a2 l3 true l0_0 l0_1 bt578.1 bt578.2) else (if (l0_1.length : Int) > 100 then (weirkeeperlaw08_JournalTells.j0 k a1 a2 l3 true l0_0 l0_1 bt578.1 bt578.2) else (weirkeeperlaw08_JournalTells.j0 k a1 a2 l3 (decide ((l3.length : Int) > 10)) l0_0 l0_1 bt578.1 bt578.2)))
theorem weirkeeperlaw08_JournalTells.mono_l : ∀ k, (∀ y0 y1 y2 y3 y4 y5 y6 y7, LeO (weirkeeperlaw08_JournalTells.j0 k y0 y1 y2 y3 y4 y5 y6 y7) (weirkeeperlaw08_JournalTells.j0 (k + 1) y0 y1 y2 y3 y4 y5 y6 y7)) ∧ (∀ y0 y1 y2 y3 y4 y5 y6 y7 y8 y9, LeO (weirkeeperlaw08_JournalTells.l0 k y0 y1 y2 y3 y4 y5 y6 y7 y8 y9) (weirkeeperlaw08_JournalTells.l0 (k + 1) y0 y1 y2 y3 y4 y5 y6 y7 y8 y9))
  | 0 => ⟨fun _ _ _ _ _ _ _ _ r h => by simp [weirkeeperlaw08_JournalTells.j0] at h, fun _ _ _ _ _ _ _ _ _ _ r h => by simp [weirkeeperlaw08_JournalTells.l0] at h⟩
  | k + 1 => by
    obtain ⟨ih0, ih1⟩ := weirkeeperlaw08_JournalTells.mono_l k
    refine ⟨?_, ?_⟩
    · intro y0 y1 y2 y3 y4 y5 y6 y7
      unfold weirkeeperlaw08_JournalTells.j0
      repeat' first
      | (with_reducible exact ih0 _ _ _ _ _ _ _ _)
      | (with_reducible exact ih1 _ _ _ _ _ _ _ _ _ _)
      | (with_reducible exact journal_Append.mono _ _ _ _ _ _)
      | (with_reducible exact journal_Texts.mono _ _ _ _)
      | (with_reducible exact weirkeeperlaw04_Ref.mono _ _ _)
      | (with_reducible exact weirkeeperlaw08_awake.mono _)
      | (with_reducible exact weirkeeperref01_Same.mono _ _ _)
      | (with_reducible exact weirkeeperref04_Same.mono _ _ _ _ _)
      | (with_reducible exact weirkeeperref08_Append.mono _ _ _ _ _ _)
      | (with_reducible exact weirkeeperref08_Texts.mono _ _ _ _)
      | (with_reducible exact LeO.refl _)
      | (with_reducible exact LeO.none _)
      | (with_reducible refine LeO.ite ?_ ?_)
      | (with_reducible refine LeO.bind ?_ (fun _ => ?_))
      | exact ih0 _ _ _ _ _ _ _ _
      | exact ih1 _ _ _ _ _ _ _ _ _ _
      | exact journal_Append.mono _ _ _ _ _ _
      | exact journal_Texts.mono _ _ _ _
      | exact weirkeeperlaw04_Ref.mono _ _ _
      | exact weirkeeperlaw08_awake.mono _
      | exact weirkeeperref01_Same.mono _ _ _
      | exact weirkeeperref04_Same.mono _ _ _ _ _
      | exact weirkeeperref08_Append.mono _ _ _ _ _ _
      | exact weirkeeperref08_Texts.mono _ _ _ _
      | exact LeO.none _
      | refine LeO.ite ?_ ?_
      | refine LeO.bind ?_ (fun _ => ?_)
    · intro y0 y1 y2 y3 y4 y5 y6 y7 y8 y9
      unfold weirkeeperlaw08_JournalTells.l0
      repeat' first
      | (with_reducible exact ih0 _ _ _ _ _ _ _ _)
      | (with_reducible exact ih1 _ _ _ _ _ _ _ _ _ _)
      | (with_reducible exact journal_Append.mono _ _ _ _ _ _)
      | (with_reducible exact journal_Texts.mono _ _ _ _)
      | (with_reducible exact weirkeeperlaw04_Ref.mono _ _ _)
      | (with_reducible exact weirkeeperlaw08_awake.mono _)
      | (with_reducible exact weirkeeperref01_Same.mono _ _ _)
      | (with_reducible exact weirkeeperref04_Same.mono _ _ _ _ _)
      | (with_reducible exact weirkeeperref08_Append.mono _ _ _ _ _ _)
      | (with_reducible exact weirkeeperref08_Texts.mono _ _ _ _)
      | (with_reducible exact LeO.refl _)
      | (with_reducible exact LeO.none _)
      | (with_reducible refine LeO.ite ?_ ?_)
      | (with_reducible refine LeO.bind ?_ (fun _ => ?_))
      | exact ih0 _ _ _ _ _ _ _ _
      | exact ih1 _ _ _ _ _ _ _ _ _ _
      | exact journal_Append.mono _ _ _ _ _ _
      | exact journal_Texts.mono _ _ _ _
      | exact weirkeeperlaw04_Ref.mono _ _ _
      | exact weirkeeperlaw08_awake.mono _
      | exact weirkeeperref01_Same.mono _ _ _
      | exact weirkeeperref04_Same.mono _ _ _ _ _
      | exact weirkeeperref08_Append.mono _ _ _ _ _ _
      | exact weirkeeperref08_Texts.mono _ _ _ _
      | exact LeO.none _
      | refine LeO.ite ?_ ?_
      | refine LeO.bind ?_ (fun _ => ?_)
theorem weirkeeperlaw08_JournalTells.mono : ∀ a0 a1 a2 a3 a4 k, LeO (weirkeeperlaw08_JournalTells.f k a0 a1 a2 a3 a4) (weirkeeperlaw08_JournalTells.f (k + 1) a0 a1 a2 a3 a4) := by
  intro a0 a1 a2 a3 a4 k
  obtain ⟨ih0, ih1⟩ := weirkeeperlaw08_JournalTells.mono_l k
  unfold weirkeeperlaw08_JournalTells.f
  repeat' first
      | (with_reducible exact ih0 _ _ _ _ _ _ _ _)
      | (with_reducible exact ih1 _ _ _ _ _ _ _ _ _ _)
      | (with_reducible exact journal_Append.mono _ _ _ _ _ _)
      | (with_reducible exact journal_Texts.mono _ _ _ _)
      | (with_reducible exact weirkeeperlaw04_Ref.mono _ _ _)
      | (with_reducible exact weirkeeperlaw08_awake.mono _)
      | (with_reducible exact weirkeeperref01_Same.mono _ _ _)
      | (with_reducible exact weirkeeperref04_Same.mono _ _ _ _ _)
      | (with_reducible exact weirkeeperref08_Append.mono _ _ _ _ _ _)
      | (with_reducible exact weirkeeperref08_Texts.mono _ _ _ _)
      | (with_reducible exact LeO.refl _)
      | (with_reducible exact LeO.none _)
      | (with_reducible refine LeO.ite ?_ ?_)
      | (with_reducible refine LeO.bind ?_ (fun _ => ?_))
      | exact ih0 _ _ _ _ _ _ _ _
      | exact ih1 _ _ _ _ _ _ _ _ _ _
      | exact journal_Append.mono _ _ _ _ _ _
      | exact journal_Texts.mono _ _ _ _
      | exact weirkeeperlaw04_Ref.mono _ _ _
      | exact weirkeeperlaw08_awake.mono _
      | exact weirkeeperref01_Same.mono _ _ _
      | exact weirkeeperref04_Same.mono _ _ _ _ _
      | exact weirkeeperref08_Append.mono _ _ _ _ _ _
      | exact weirkeeperref08_Texts.mono _ _ _ _
      | exact LeO.none _
      | refine LeO.ite ?_ ?_
      | refine LeO.bind ?_ (fun _ => ?_)
def weirkeeperlaw08_JournalTells.T14 : Bool × List (List Nat × List Nat) := (true, [([], []), ([], []), ([0, 1], [0, 1]), ([2, 2], [2]), ([3], [3]), ([3], [3]), ([4, 5, 3], [3, 4, 5]), ([3, 6], [3, 6]), ([7, 3], [7]), ([8], [8]), ([8], [8]), ([9, 10, 8], [8, 9, 10]), ([8, 11], [8, 11]), ([12, 8], [12]), ([13], [13]), ([14, 13, 13], [13, 14]), ([13], [13]), ([15, 16, 15, 13], [13, 15, 16]), ([13, 17], [13, 17]), ([18, 17], [18]), ([19], [19]), ([19], [19]), ([20, 21, 19], [19, 20, 21]), ([19, 22], [19, 22]), ([23, 19], [23]), ([24], [24]), ([24], [24]), ([25, 26, 24], [24, 25, 26]), ([24, 27], [24, 27]), ([28, 24], [28]), ([29, 29], [29]), ([29, 30], [29, 30]), ([31, 30, 0, 1, 2, 3, 4, 5, 6, 7, 8, 9, 10, 11, 12, 13, 14, 15, 16, 17, 18, 19, 20, 21, 22, 23, 24, 25, 26, 27, 28, 29, 30, 31], [31])])
def weirkeeperlaw08_JournalTells.B14 : List Nat := [0, 0, 3, 7, 15, 15, 63, 127, 255, 511, 511, 2047, 4095, 8191, 16383, 32767, 16383, 131071, 262143, 524287, 1048575, 1048575, 4194303, 8388607, 16777215, 33554431, 33554431, 134217727, 268435455, 536870911, 1073741823, 2147483647, 4294967295]
theorem weirkeeperlaw08_JournalTells.tab14 : rtab .any (opsOf Try.f9 14) = weirkeeperlaw08_JournalTells.T14 := by kernel_rfl
theorem weirkeeperlaw08_JournalTells.bits14 : waitsOk weirkeeperlaw08_JournalTells.T14.2 weirkeeperlaw08_JournalTells.B14 = true := by kernel_rfl
set_option maxHeartbeats 8000000 in
set_option maxRecDepth 100000 in
theorem weirkeeperlaw08_JournalTells.calls (k : Nat) (A0_0 : Option Addr) (c0_0 : Nat) (l0_0 : List ByteArray) (A0_1 : Option Addr) (c0_1 : Nat) (l0_1 : List (S76)) (a1 : Int) (a2 : Int) (A3 : Option Addr) (c3 : Nat) (l3 : List ByteArray) (w : World) (hr0_0 : Kd.C Kd.string w A0_0 l0_0.length l0_0) (hc0_0 : l0_0.length ≤ c0_0) (hr0_1 : Kd.C k76 w A0_1 l0_1.length l0_1) (hc0_1 : l0_1.length ≤ c0_1) (hr3 : Kd.C Kd.string w A3 l3.length l3) (hc3 : l3.length ≤ c3) (h : weirkeeperlaw08_JournalTells.f k l0_0 l0_1 a1 a2 l3 = some true) :
    Calls Try.prog 9 #[.agg #[.slice A0_0 l0_0.length c0_0, .slice A0_1 l0_1.length c0_1], .int .i64 a1, .int .i64 a2, .slice A3 l3.length c3] w fun e w' => e = .returned (.bool true) ∧ Below w.heap.size w w' := by
  have hu25 := Try.underlying25
  have hu29 := Try.underlying29
  have HR0_0 := Aside0.mk hr0_0
  have HC0_0 := Aside0.mk hc0_0
  clear hr0_0 hc0_0
  have HR0_1 := Aside0.mk hr0_1
  have HC0_1 := Aside0.mk hc0_1
  clear hr0_1 hc0_1
  have HR3 := Aside0.mk hr3
  have HC3 := Aside0.mk hc3
  clear hr3 hc3
  have HB := Aside0.mk (Below.refl w.heap.size w)
  have H : ((weirkeeperlaw04_Ref.f k l0_0 l0_1).bind fun bt578 => (if (l0_0.length : Int) > 200 then (weirkeeperlaw08_JournalTells.j0 k a1 a2 l3 true l0_0 l0_1 bt578.1 bt578.2) else (if (l0_1.length : Int) > 100 then (weirkeeperlaw08_JournalTells.j0 k a1 a2 l3 true l0_0 l0_1 bt578.1 bt578.2) else (weirkeeperlaw08_JournalTells.j0 k a1 a2 l3 (decide ((l3.length : Int) > 10)) l0_0 l0_1 bt578.1 bt578.2)))) = some true := h
  clear h
  replace H := Option.bind_eq_some_iff.mp H
  obtain ⟨⟨t578, t581⟩, A50, H⟩ := H
  replace H : (if (l0_0.length : Int) > 200 then (weirkeeperlaw08_JournalTells.j0 k a1 a2 l3 true l0_0 l0_1 t578 t581) else (if (l0_1.length : Int) > 100 then (weirkeeperlaw08_JournalTells.j0 k a1 a2 l3 true l0_0 l0_1 t578 t581) else (weirkeeperlaw08_JournalTells.j0 k a1 a2 l3 (decide ((l3.length : Int) > 10)) l0_0 l0_1 t578 t581))) = some true := H
  have A5 := Aside0.mk A50
  clear A50
  have HC6 := Aside0.mk H
  clear H
  go_enter Try.func9, Try.ntmps9
  go_upto_region 2 with (first | ((with_reducible refine gate_dst (N := 4) rfl ?_); (try (refine gate_guard (by rfl) ?_; dsimp only)); refine box_event ?hg (N := 4) ?hd (cs := #[.slice A0_0 l0_0.length c0_0, .slice A0_1 l0_1.length c0_1]) (t := 25) ?hr ?_; (case hd => rfl); (case hg => rfl); (case hr => first | (go_simp; done) | (go_simp; rfl)); intro gb577 hg w7 hbox hb; have n0_ := Aside0.mk (below_step (by repeat (first | (with_reducible first | exact HB.out | apply below_alloc | apply pw_below_drewN | apply below_drew1) | exact HB.out)) hb); have n1_ := Aside0.mk (hbox); have n2_ := Aside0.mk ((by rw [hg]; exact (below_size (by repeat (first | (with_reducible first | exact HB.out | apply below_alloc | apply pw_below_drewN | apply below_drew1) | exact HB.out))) : w.heap.size ≤ gb577)); have n3_ := Aside0.mk ((by rw [hg]; exact (below_size (by repeat (first | (with_reducible first | exact HB.out | apply below_alloc | apply pw_below_drewN | apply below_drew1) | exact HB.out))) : w.heap.size ≤ gb577)); clear HB; have HB := n0_; have BK577 := n1_; have GW577 := n2_; have GE577 := n3_; clear n0_ n1_ n2_ n3_; clear hb hbox hg; have hcz8_0 : w7.cell? ⟨gb577, 0, none⟩ = some (.slice A0_0 l0_0.length c0_0) := (blk_cell BK577.out 0).trans rfl; have hcz8_1 : w7.cell? ⟨gb577, 1, none⟩ = some (.slice A0_1 l0_1.length c0_1) := (blk_cell BK577.out 1).trans rfl; have hfz8_0 := blk_frozen BK577.out 0; have hfz8_1 := blk_frozen BK577.out 1) | ((with_reducible refine gate_callee (f := 16) rfl ?_); refine goesL_ (some 25) rfl rfl Try.func16 (by kernel_rfl) rfl #[.agg #[.slice A0_0 l0_0.length c0_0, .slice A0_1 l0_1.length c0_1]] rfl (by (try simp only [List.map_toArray, List.map_cons, List.map_nil]); first | done | rfl | (simp only [List.length_drop, List.length_take]; rfl)) ?_; (with_reducible refine (weirkeeperlaw04_Ref.calls k (fun k_ => k_ < w.heap.size) _ _ l0_0 _ _ l0_1 t578 t581 _ ?side1 ?side2 ?side3 A5.out).mono ?_); (case side1 => exact Kd.V_mk HC0_0.out (Kd.F_below (Kd.C_F Kd.heap_string HR0_0.out) (by repeat (first | (with_reducible first | exact HB.out | apply below_alloc | apply pw_below_drewN | apply below_drew1 | refine below_set ?_ GE577.out) | exact HB.out)))); (case side2 => repeat (first | exact (Kd.C_below HR0_1.out HB.out) | (with_reducible refine Kd.C_alloc ?_ _) | (with_reducible refine Kd.C_drewN ?_ _) | (with_reducible refine Kd.C_drew ?_))); (case side3 => exact HC0_1.out); rintro e w9 ⟨v579, v582, rfl, ho0, ho1, hb⟩; refine ⟨_, rfl, ?_⟩; have n0_ := Aside0.mk (Kd.V_lower (Kd.V_mono (ok' := fun k_ => some k_ ≠ (v582 : Value).ownBlock ∧ k_ ≠ gb577) ho0 (fun k_ hk_ => ⟨hk_.2, Or.elim hk_.1 (fun hs_ => fun e_ => Nat.not_le.2 hs_ (by rw [e_]; exact GW577.out)) (fun hn_ => (Kd.freshB (g := gb577) (o := .cells #[.slice A0_0 l0_0.length c0_0, .slice A0_1 l0_1.length c0_1] 25 (0, 0)) (by (with_reducible repeat (first | refine blk_drewN ?_ _ | refine blk_drew ?_ | refine blk_alloc ?_ _)); exact BK577.out) k_ hn_))⟩)) (below_size (by repeat (first | (with_reducible first | exact HB.out | apply below_alloc | apply pw_below_drewN | apply below_drew1 | refine below_set ?_ GE577.out) | exact HB.out)))); have n1_ := Aside0.mk (Kd.R_lower (Kd.R_mono (ok' := fun k_ => True) ho1 (fun _ hk_ => trivial)) (below_size (by repeat (first | (with_reducible first | exact HB.out | apply below_alloc | apply pw_below_drewN | apply below_drew1 | refine below_set ?_ GE577.out) | exact HB.out)))); have n2_ := Aside0.mk (blk_below (g := gb577) (o := .cells #[.slice A0_0 l0_0.length c0_0, .slice A0_1 l0_1.length c0_1] 25 (0, 0)) (by (with_reducible repeat (first | refine blk_drewN ?_ _ | refine blk_drew ?_ | refine blk_alloc ?_ _)); exact BK577.out) hb); have n3_ := Aside0.mk (below_step (by repeat (first | (with_reducible first | exact HB.out | apply below_alloc | apply pw_below_drewN | apply below_drew1 | refine below_set ?_ GE577.out) | exact HB.out)) hb); clear BK577; clear HB; have HO580 := n0_; have HO583 := n1_; have BK577 := n2_; have HB := n3_; clear n0_ n1_ n2_ n3_; (try clear hb); (try clear hb2); (try clear hk); (try clear hi); (try clear ho0); (try clear ho1)) | ((with_reducible refine gate_dst (N := 9) rfl ?_); (try (refine gate_guard (by rfl) ?_; dsimp only)); refine box_event ?hg (N := 9) ?hd (cs := #[.slice none 0 0, .slice none 0 0]) (t := 29) ?hr ?_; (case hd => rfl); (case hg => rfl); (case hr => first | (go_simp; done) | (go_simp; rfl)); intro gb584 hg w10 hbox hb; have n0_ := Aside0.mk (Kd.V_below (Kd.V_elderB (by (with_reducible repeat (first | apply Kd.V_alloc | apply Kd.V_drewN | apply Kd.V_drew)); exact HO580.out) gb584 (Nat.le_of_eq hg.symm)) hb); have n1_ := Aside0.mk (Kd.R_below (by (with_reducible repeat (first | apply Kd.R_alloc | apply Kd.R_drewN | apply Kd.R_drew)); exact HO583.out) hb); have n2_ := Aside0.mk (blk_below (g := gb577) (o := .cells #[.slice A0_0 l0_0.length c0_0, .slice A0_1 l0_1.length c0_1] 25 (0, 0)) (by (with_reducible repeat (first | refine blk_drewN ?_ _ | refine blk_drew ?_ | refine blk_alloc ?_ _)); exact BK577.out) hb); have n3_ := Aside0.mk (below_step (by repeat (first | (with_reducible first | exact HB.out | apply below_alloc | apply pw_below_drewN | apply below_drew1 | refine below_set ?_ GE577.out) | exact HB.out)) hb); have n4_ := Aside0.mk (hbox); have n5_ := Aside0.mk ((by rw [hg]; exact (below_size (by repeat (first | (with_reducible first | exact HB.out | apply below_alloc | apply pw_below_drewN | apply below_drew1 | refine below_set ?_ GE577.out) | exact HB.out))) : w.heap.size ≤ gb584)); have n6_ := Aside0.mk ((by rw [hg]; exact (below_size (by repeat (first | (with_reducible first | exact HB.out | apply below_alloc | apply pw_below_drewN | apply below_drew1 | refine below_set ?_ GE577.out) | exact HB.out))) : w.heap.size ≤ gb584)); have n7_ := Aside0.mk ((by rw [hg]; exact Nat.ne_of_lt (blk_lt (g := gb577) (o := .cells #[.slice A0_0 l0_0.length c0_0, .slice A0_1 l0_1.length c0_1] 25 (0, 0)) (by (with_reducible repeat (first | refine blk_drewN ?_ _ | refine blk_drew ?_ | refine blk_alloc ?_ _)); exact BK577.out)) : gb577 ≠ gb584)); have n8_ := Aside0.mk ((by rw [hg]; exact Nat.ne_of_gt (blk_lt (g := gb577) (o := .cells #[.slice A0_0 l0_0.length c0_0, .slice A0_1 l0_1.length c0_1] 25 (0, 0)) (by (with_reducible repeat (first | refine blk_drewN ?_ _ | refine blk_drew ?_ | refine blk_alloc ?_ _)); exact BK577.out)) : gb584 ≠ gb577)); clear HO580; clear HO583; clear BK577; clear HB; have HO580 := n0_; have HO583 := n1_; have BK577 := n2_; have HB := n3_; have BK584 := n4_; have GW584 := n5_; have GE584 := n6_; have NB577_584 := n7_; have NB584_577 := n8_; clear n0_ n1_ n2_ n3_ n4_ n5_ n6_ n7_ n8_; clear hb hbox hg; obtain ⟨Ao11, co11, eo11⟩ := Kd.V_slice HO580.out; subst eo11; have hnb12 := NB584_577.out; have hnc12 := NB577_584.out; have hcz13_0 : w10.cell? ⟨gb584, 0, none⟩ = some (.slice none 0 0) := (blk_cell BK584.out 0).trans rfl; have hcz13_1 : w10.cell? ⟨gb584, 1, none⟩ = some (.slice none 0 0) := (blk_cell BK584.out 1).trans rfl; have hfz13_0 := blk_frozen BK584.out 0; have hfz13_1 := blk_frozen BK584.out 1; obtain ⟨Ao14, co14, eo14⟩ := Kd.R_slice HO583.out; subst eo14))
  (try simp only [Act.put, List.setIfInBounds_toArray, List.set_cons_zero, List.set_cons_succ])
  go_cut [40] (fun v40 wc => ∃ (kq : Nat) (x40_5 : Bool), v40 = .bool x40_5 ∧ Aside0 (weirkeeperlaw08_JournalTells.j0 kq a1 a2 l3 x40_5 l0_0 l0_1 t578 t581 = some true) ∧ Aside0 (kq ≤ k) ∧ Aside0 (Kd.V Kd.string 9 wc w.heap.size (fun k_ => some k_ ≠ ((.slice Ao14 t581.length co14) : Value).ownBlock ∧ k_ ≠ gb577 ∧ k_ ≠ gb584) (.slice Ao11 t578.length co11) t578) ∧ Aside0 (Kd.R k77 77 wc w.heap.size (fun _ => True) (.slice Ao14 t581.length co14) t581) ∧ Aside0 (wc.heap[gb577]? = some (.cells #[(.slice A0_0 l0_0.length c0_0), (.slice A0_1 l0_1.length c0_1)] 25 (0, 0))) ∧ Aside0 (wc.heap[gb584]? = some (.cells #[(.slice Ao11 t578.length co11), (.slice Ao14 t581.length co14)] 29 (0, 0))) ∧ Aside0 (Below w.heap.size w wc))
  case first =>
    have H := HC6.out
    clear HC6
    by_cases c15 : (l0_0.length : Int) > 200
    · rw [if_pos c15] at H
      have c15b0 : decide (200 < (l0_0.length : Int)) = true := decide_eq_true c15
      have c15b1 : decide (200 < l0_0.length) = true := decide_eq_true (by omega)
      clear c15
      (first | rw [c15b0] | (simp only [i64_w, i32_w]; rw [c15b0]) | skip)
      have H' := Aside0.mk H
      clear H
      have hnb16 := NB577_584.out
      have hnc16 := NB584_577.out
      have hcz17_0 : w10.cell? ⟨gb577, 0, none⟩ = some (.slice A0_0 l0_0.length c0_0) := (blk_cell BK577.out 0).trans rfl
      have hcz17_1 : w10.cell? ⟨gb577, 1, none⟩ = some (.slice A0_1 l0_1.length c0_1) := (blk_cell BK577.out 1).trans rfl
      have hfz17_0 := blk_frozen BK577.out 0
      have hfz17_1 := blk_frozen BK577.out 1
      go_wp2
      go_meet
      case rel => exact ⟨_, (true), (by first | rfl | (simp; done) | (simp [*]; done)), H', ⟨by first | omega | exact Nat.le_refl _⟩, ⟨by (with_reducible repeat (first | apply Kd.V_alloc | apply Kd.V_drewN | apply Kd.V_drew)); exact Kd.V_mono (Kd.V_far (p := ⟨gb584, 1, none⟩) (Kd.V_far (p := ⟨gb584, 0, none⟩) (Kd.V_mono HO580.out (fun k_ hk => (⟨hk, hk.2⟩ : _ ∧ k_ ≠ gb584))) (fun _ hk => hk.2) (.slice Ao11 t578.length co11)) (fun _ hk => hk.2) (.slice Ao14 t581.length co14)) (fun _ hk => ⟨hk.1.1.1, ⟨hk.1.1.2, hk.1.2⟩⟩)⟩, ⟨by (with_reducible repeat (first | apply Kd.R_alloc | apply Kd.R_drewN | apply Kd.R_drew)); exact Kd.R_mono (Kd.R_far (p := ⟨gb584, 1, none⟩) (Kd.R_far (p := ⟨gb584, 0, none⟩) (Kd.R_types HO583.out BK584.out (by decide)) (fun _ hk => hk.2) (.slice Ao11 t578.length co11)) (fun _ hk => hk.2) (.slice Ao14 t581.length co14)) (fun _ hk => trivial)⟩, ⟨by (with_reducible repeat (first | refine blk_drewN ?_ _ | refine blk_drew ?_ | refine blk_alloc ?_ _)); refine blk_far ?_ NB577_584.out _; (with_reducible repeat (first | refine blk_drewN ?_ _ | refine blk_drew ?_ | refine blk_alloc ?_ _)); refine blk_far ?_ NB577_584.out _; (with_reducible repeat (first | refine blk_drewN ?_ _ | refine blk_drew ?_ | refine blk_alloc ?_ _)); exact BK577.out⟩, ⟨by (with_reducible repeat (first | refine blk_drewN ?_ _ | refine blk_drew ?_ | refine blk_alloc ?_ _)); refine blk_put (cs := #[.slice Ao11 t578.length co11, .slice none 0 0]) ?_ 1 _ rfl; (with_reducible repeat (first | refine blk_drewN ?_ _ | refine blk_drew ?_ | refine blk_alloc ?_ _)); refine blk_put (cs := #[.slice none 0 0, .slice none 0 0]) ?_ 0 _ rfl; (with_reducible repeat (first | refine blk_drewN ?_ _ | refine blk_drew ?_ | refine blk_alloc ?_ _)); exact BK584.out⟩, ⟨by repeat (first | (with_reducible first | exact HB.out | apply below_alloc | apply pw_below_drewN | apply below_drew1 | refine below_set ?_ GE577.out | refine below_set ?_ GE584.out) | exact HB.out)⟩⟩
    · rw [if_neg c15] at H
      have c15b0 : decide (200 < (l0_0.length : Int)) = false := decide_eq_false c15
      have c15b1 : decide (200 < l0_0.length) = false := decide_eq_false (by omega)
      clear c15
      (first | rw [c15b0] | (simp only [i64_w, i32_w]; rw [c15b0]) | skip)
      by_cases c18 : (l0_1.length : Int) > 100
      · rw [if_pos c18] at H
        have c18b0 : decide (100 < (l0_1.length : Int)) = true := decide_eq_true c18
        have c18b1 : decide (100 < l0_1.length) = true := decide_eq_true (by omega)
        clear c18
        have H' := Aside0.mk H
        clear H
        have hnb19 := NB577_584.out
        have hnc19 := NB584_577.out
        have hcz20_0 : w10.cell? ⟨gb577, 0, none⟩ = some (.slice A0_0 l0_0.length c0_0) := (blk_cell BK577.out 0).trans rfl
        have hcz20_1 : w10.cell? ⟨gb577, 1, none⟩ = some (.slice A0_1 l0_1.length c0_1) := (blk_cell BK577.out 1).trans rfl
        have hfz20_0 := blk_frozen BK577.out 0
        have hfz20_1 := blk_frozen BK577.out 1
        go_wp2
        go_meet
        case rel => exact ⟨_, (true), (by first | rfl | (simp; done) | (simp [*]; done)), H', ⟨by first | omega | exact Nat.le_refl _⟩, ⟨by (with_reducible repeat (first | apply Kd.V_alloc | apply Kd.V_drewN | apply Kd.V_drew)); exact Kd.V_mono (Kd.V_far (p := ⟨gb584, 1, none⟩) (Kd.V_far (p := ⟨gb584, 0, none⟩) (Kd.V_mono HO580.out (fun k_ hk => (⟨hk, hk.2⟩ : _ ∧ k_ ≠ gb584))) (fun _ hk => hk.2) (.slice Ao11 t578.length co11)) (fun _ hk => hk.2) (.slice Ao14 t581.length co14)) (fun _ hk => ⟨hk.1.1.1, ⟨hk.1.1.2, hk.1.2⟩⟩)⟩, ⟨by (with_reducible repeat (first | apply Kd.R_alloc | apply Kd.R_drewN | apply Kd.R_drew)); exact Kd.R_mono (Kd.R_far (p := ⟨gb584, 1, none⟩) (Kd.R_far (p := ⟨gb584, 0, none⟩) (Kd.R_types HO583.out BK584.out (by decide)) (fun _ hk => hk.2) (.slice Ao11 t578.length co11)) (fun _ hk => hk.2) (.slice Ao14 t581.length co14)) (fun _ hk => trivial)⟩, ⟨by (with_reducible repeat (first | refine blk_drewN ?_ _ | refine blk_drew ?_ | refine blk_alloc ?_ _)); refine blk_far ?_ NB577_584.out _; (with_reducible repeat (first | refine blk_drewN ?_ _ | refine blk_drew ?_ | refine blk_alloc ?_ _)); refine blk_far ?_ NB577_584.out _; (with_reducible repeat (first | refine blk_drewN ?_ _ | refine blk_drew ?_ | refine blk_alloc ?_ _)); exact BK577.out⟩, ⟨by (with_reducible repeat (first | refine blk_drewN ?_ _ | refine blk_drew ?_ | refine blk_alloc ?_ _)); refine blk_put (cs := #[.slice Ao11 t578.length co11, .slice none 0 0]) ?_ 1 _ rfl; (with_reducible repeat (first | refine blk_drewN ?_ _ | refine blk_drew ?_ | refine blk_alloc ?_ _)); refine blk_put (cs := #[.slice none 0 0, .slice none 0 0]) ?_ 0 _ rfl; (with_reducible repeat (first | refine blk_drewN ?_ _ | refine blk_drew ?_ | refine blk_alloc ?_ _)); exact BK584.out⟩, ⟨by repeat (first | (with_reducible first | exact HB.out | apply below_alloc | apply pw_below_drewN | apply below_drew1 | refine below_set ?_ GE577.out | refine below_set ?_ GE584.out) | exact HB.out)⟩⟩
      · rw [if_neg c18] at H
        have c18b0 : decide (100 < (l0_1.length : Int)) = false := decide_eq_false c18
        have c18b1 : decide (100 < l0_1.length) = false := decide_eq_false (by omega)
        clear c18
        have H' := Aside0.mk H
        clear H
        have hnb21 := NB577_584.out
        have hnc21 := NB584_577.out
        have hcz22_0 : w10.cell? ⟨gb577, 0, none⟩ = some (.slice A0_0 l0_0.length c0_0) := (blk_cell BK577.out 0).trans rfl
        have hcz22_1 : w10.cell? ⟨gb577, 1, none⟩ = some (.slice A0_1 l0_1.length c0_1) := (blk_cell BK577.out 1).trans rfl
        have hfz22_0 := blk_frozen BK577.out 0
        have hfz22_1 := blk_frozen BK577.out 1
        go_wp2
        go_meet
        case rel => exact ⟨_, (decide ((l3.length : Int) > 10)), (by first | rfl | (simp; done) | (simp [*]; done)), H', ⟨by first | omega | exact Nat.le_refl _⟩, ⟨by (with_reducible repeat (first | apply Kd.V_alloc | apply Kd.V_drewN | apply Kd.V_drew)); exact Kd.V_mono (Kd.V_far (p := ⟨gb584, 1, none⟩) (Kd.V_far (p := ⟨gb584, 0, none⟩) (Kd.V_mono HO580.out (fun k_ hk => (⟨hk, hk.2⟩ : _ ∧ k_ ≠ gb584))) (fun _ hk => hk.2) (.slice Ao11 t578.length co11)) (fun _ hk => hk.2) (.slice Ao14 t581.length co14)) (fun _ hk => ⟨hk.1.1.1, ⟨hk.1.1.2, hk.1.2⟩⟩)⟩, ⟨by (with_reducible repeat (first | apply Kd.R_alloc | apply Kd.R_drewN | apply Kd.R_drew)); exact Kd.R_mono (Kd.R_far (p := ⟨gb584, 1, none⟩) (Kd.R_far (p := ⟨gb584, 0, none⟩) (Kd.R_types HO583.out BK584.out (by decide)) (fun _ hk => hk.2) (.slice Ao11 t578.length co11)) (fun _ hk => hk.2) (.slice Ao14 t581.length co14)) (fun _ hk => trivial)⟩, ⟨by (with_reducible repeat (first | refine blk_drewN ?_ _ | refine blk_drew ?_ | refine blk_alloc ?_ _)); refine blk_far ?_ NB577_584.out _; (with_reducible repeat (first | refine blk_drewN ?_ _ | refine blk_drew ?_ | refine blk_alloc ?_ _)); refine blk_far ?_ NB577_584.out _; (with_reducible repeat (first | refine blk_drewN ?_ _ | refine blk_drew ?_ | refine blk_alloc ?_ _)); exact BK577.out⟩, ⟨by (with_reducible repeat (first | refine blk_drewN ?_ _ | refine blk_drew ?_ | refine blk_alloc ?_ _)); refine blk_put (cs := #[.slice Ao11 t578.length co11, .slice none 0 0]) ?_ 1 _ rfl; (with_reducible repeat (first | refine blk_drewN ?_ _ | refine blk_drew ?_ | refine blk_alloc ?_ _)); refine blk_put (cs := #[.slice none 0 0, .slice none 0 0]) ?_ 0 _ rfl; (with_reducible repeat (first | refine blk_drewN ?_ _ | refine blk_drew ?_ | refine blk_alloc ?_ _)); exact BK584.out⟩, ⟨by repeat (first | (with_reducible first | exact HB.out | apply below_alloc | apply pw_below_drewN | apply below_drew1 | refine below_set ?_ GE577.out | refine below_set ?_ GE584.out) | exact HB.out)⟩⟩
  case rest =>
    clear HC6
    try clear c1
    try clear c2
    try clear p2
    try clear c3
    try clear c9
    try clear c12
    try clear c15
    try clear c15b0
    try clear c15b1
    try clear c16
    try clear c18
    try clear c18b0
    try clear c18b1
    try clear c19
    try clear c21
    try clear hcz13_0
    try clear hcz13_1
    try clear hcz17_0
    try clear hcz17_1
    try clear hcz20_0
    try clear hcz20_1
    try clear hcz22_0
    try clear hcz22_1
    try clear hcz8_0
    try clear hcz8_1
    try clear hfz13_0
    try clear hfz13_1
    try clear hfz17_0
    try clear hfz17_1
    try clear hfz20_0
    try clear hfz20_1
    try clear hfz22_0
    try clear hfz22_1
    try clear hfz8_0
    try clear hfz8_1
    obtain ⟨kq, x40_5, rfl, HA, HJ5, HO_585000, HO_585001, BK577, BK584, HB⟩ := hcut
    cases kq with
    | zero => exact absurd HA.out (by simp [weirkeeperlaw08_JournalTells.j0])
    | succ kj5 =>
      have H := HA.out
      clear HA
      simp only [weirkeeperlaw08_JournalTells.j0] at H
      by_cases c23 : x40_5 = true
      · subst c23
        have H1 : ((weirkeeperlaw08_awake.f kj5).bind fun t585 => (some t585)) = some true := by rw [if_pos rfl] at H; exact H
        clear H
        have H := H1
        clear H1
        replace H := Option.bind_eq_some_iff.mp H
        obtain ⟨t585, A240, H⟩ := H
        replace H : (some t585) = some true := H
        have A24 := Aside0.mk A240
        clear A240
        (have H9_ := Option.some.inj H; first | subst H9_ | (have h9_ := Aside0.mk H9_; clear H9_))
        go_wp2_with (first | ((with_reducible refine gate_callee (f := 27) rfl ?_); refine goesL_ (some 41) rfl rfl Try.func27 (by kernel_rfl) rfl #[] rfl (by (try simp only [List.map_toArray, List.map_cons, List.map_nil]); first | done | rfl | (simp only [List.length_drop, List.length_take]; rfl)) ?_; (with_reducible refine (weirkeeperlaw08_awake.calls kj5 _ A24.out).mono ?_); rintro e w25 ⟨rfl, hb⟩; refine ⟨_, rfl, ?_⟩; have n0_ := Aside0.mk (Kd.V_below (by (with_reducible repeat (first | apply Kd.V_alloc | apply Kd.V_drewN | apply Kd.V_drew)); exact HO_585000.out) hb); have n1_ := Aside0.mk (Kd.R_below (by (with_reducible repeat (first | apply Kd.R_alloc | apply Kd.R_drewN | apply Kd.R_drew)); exact HO_585001.out) hb); have n2_ := Aside0.mk (blk_below (g := gb577) (o := .cells #[.slice A0_0 l0_0.length c0_0, .slice A0_1 l0_1.length c0_1] 25 (0, 0)) (by (with_reducible repeat (first | refine blk_drewN ?_ _ | refine blk_drew ?_ | refine blk_alloc ?_ _)); exact BK577.out) hb); have n3_ := Aside0.mk (blk_below (g := gb584) (o := .cells #[.slice Ao11 t578.length co11, .slice Ao14 t581.length co14] 29 (0, 0)) (by (with_reducible repeat (first | refine blk_drewN ?_ _ | refine blk_drew ?_ | refine blk_alloc ?_ _)); exact BK584.out) hb); have n4_ := Aside0.mk (below_step (by repeat (first | (with_reducible first | exact HB.out | apply below_alloc | apply pw_below_drewN | apply below_drew1 | refine below_set ?_ GE577.out | refine below_set ?_ GE584.out) | exact HB.out)) hb); clear HO_585000; clear HO_585001; clear BK577; clear BK584; clear HB; have HO_585000 := n0_; have HO_585001 := n1_; have BK577 := n2_; have BK584 := n3_; have HB := n4_; clear n0_ n1_ n2_ n3_ n4_; (try clear hb); (try clear hb2); (try clear hk); (try clear hi)))
        go_ret
        exact ⟨by first | rfl | (simp only [h9_.out]; done) | (have h8_ := h9_.out; simp [h8_]; done) | (simp [errW_none, errW_some] <;> rfl) | (simp [*, errW_none, errW_some] <;> rfl), by repeat (first | (with_reducible first | exact HB.out | apply below_alloc | apply pw_below_drewN | apply below_drew1 | refine below_set ?_ GE577.out | refine below_set ?_ GE584.out) | exact HB.out)⟩
      · replace c23 := Bool.eq_false_iff.mpr c23
        subst c23
        have H1 : (weirkeeperlaw08_JournalTells.l0 kj5 a1 a2 l3 l3 (l3.length : Int) 0 l0_0 l0_1 t578 t581) = some true := by rw [if_neg (show ¬ (false = true) by decide)] at H; exact H
        clear H
        have H := H1
        clear H1
        have H' := Aside0.mk H
        clear H
        go_wp2
        go_loopg [44] kj5 (fun kq v44 w' => ∃ (x44_2 : Int), v44 = .int .i64 x44_2 ∧ Aside0 (weirkeeperlaw08_JournalTells.l0 kq a1 a2 l3 l3 (l3.length : Int) x44_2 l0_0 l0_1 t578 t581 = some true) ∧ Aside0 (kq ≤ kj5) ∧ Aside0 (Kd.V Kd.string 9 w' w.heap.size (fun k_ => some k_ ≠ ((.slice Ao14 t581.length co14) : Value).ownBlock ∧ k_ ≠ gb577 ∧ k_ ≠ gb584) (.slice Ao11 t578.length co11) t578) ∧ Aside0 (Kd.R k77 77 w' w.heap.size (fun _ => True) (.slice Ao14 t581.length co14) t581) ∧ Aside0 (w'.heap[gb577]? = some (.cells #[(.slice A0_0 l0_0.length c0_0), (.slice A0_1 l0_1.length c0_1)] 25 (0, 0))) ∧ Aside0 (w'.heap[gb584]? = some (.cells #[(.slice Ao11 t578.length co11), (.slice Ao14 t581.length co14)] 29 (0, 0))) ∧ Aside0 (Below w.heap.size w w'))
        case atStart => exact ⟨(0), (by first | rfl | (simp; done) | (simp [*]; done)), H', ⟨Nat.le_refl _⟩, ⟨by (with_reducible repeat (first | apply Kd.V_alloc | apply Kd.V_drewN | apply Kd.V_drew)); exact HO_585000.out⟩, ⟨by (with_reducible repeat (first | apply Kd.R_alloc | apply Kd.R_drewN | apply Kd.R_drew)); exact HO_585001.out⟩, ⟨by (with_reducible repeat (first | refine blk_drewN ?_ _ | refine blk_drew ?_ | refine blk_alloc ?_ _)); exact BK577.out⟩, ⟨by (with_reducible repeat (first | refine blk_drewN ?_ _ | refine blk_drew ?_ | refine blk_alloc ?_ _)); exact BK584.out⟩, ⟨by repeat (first | (with_reducible first | exact HB.out | apply below_alloc | apply pw_below_drewN | apply below_drew1 | refine below_set ?_ GE577.out | refine below_set ?_ GE584.out) | exact HB.out)⟩⟩
        case round =>
          clear H'
          try clear c1
          try clear c2
          try clear p2
          try clear c3
          try clear c9
          try clear c12
          try clear c15
          try clear c15b0
          try clear c15b1
          try clear c16
          try clear c18
          try clear c18b0
          try clear c18b1
          try clear c19
          try clear c21
          try clear c23
          try clear hcz13_0
          try clear hcz13_1
          try clear hcz17_0
          try clear hcz17_1
          try clear hcz20_0
          try clear hcz20_1
          try clear hcz22_0
          try clear hcz22_1
          try clear hcz8_0
          try clear hcz8_1
          try clear hfz13_0
          try clear hfz13_1
          try clear hfz17_0
          try clear hfz17_1
          try clear hfz20_0
          try clear hfz20_1
          try clear hfz22_0
          try clear hfz22_1
          try clear hfz8_0
          try clear hfz8_1
          try clear p2
          obtain ⟨x44_2, rfl, HA, HK2, HO_585000, HO_585001, BK577, BK584, HB⟩ := hrel
          cases gk with
          | zero => exact absurd HA.out (by simp [weirkeeperlaw08_JournalTells.l0])
          | succ k2 =>
            have H := HA.out
            clear HA
            simp only [weirkeeperlaw08_JournalTells.l0] at H
            by_cases c26 : x44_2 < (l3.length : Int)
            · rw [if_pos c26] at H
              have c26b0 : decide (x44_2 < (l3.length : Int)) = true := decide_eq_true c26
              clear c26
              by_cases c27 : 0 ≤ x44_2
              · rw [if_pos c27] at H
                have c27b0 : decide (0 ≤ x44_2) = true := decide_eq_true c27
                clear c27
                by_cases c28 : x44_2 < (l3.length : Int)
                · rw [if_pos c28] at H
                  have c28b0 : decide (x44_2 < (l3.length : Int)) = true := decide_eq_true c28
                  clear c28
                  by_cases c29 : ((rdOf ByteArray.empty l3 x44_2).size : Int) > 300
                  · rw [if_pos c29] at H
                    have c29b0 : decide (300 < ((rdOf ByteArray.empty l3 x44_2).size : Int)) = true := decide_eq_true c29
                    have c29b1 : decide (300 < (rdOf ByteArray.empty l3 x44_2).size) = true := decide_eq_true (by omega)
                    clear c29
                    replace H := Option.bind_eq_some_iff.mp H
                    obtain ⟨t587, A300, H⟩ := H
                    replace H : (some t587) = some true := H
                    have A30 := Aside0.mk A300
                    clear A300
                    (have H9_ := Option.some.inj H; first | subst H9_ | (have h9_ := Aside0.mk H9_; clear H9_))
                    have p586 : 0 ≤ (x44_2 : Int) := of_decide_eq_true (by first | (with_reducible assumption) | assumption)
                    have q586 : x44_2 < (l3.length : Int) := of_decide_eq_true (by first | (with_reducible assumption) | assumption)
                    obtain ⟨ad586, e586, hx586_0⟩ := Kd.at_string HR3.out x44_2 p586 q586
                    cases e586
                    replace hx586_0 := (HB.out.cell (World.block_lt_of_cell? w _ hx586_0)).trans hx586_0
                    replace p586 := eq_true p586
                    replace q586 := eq_true q586
                    go_wp2_with (first | ((with_reducible refine gate_callee (f := 27) rfl ?_); refine goesL_ (some 51) rfl rfl Try.func27 (by kernel_rfl) rfl #[] rfl (by (try simp only [List.map_toArray, List.map_cons, List.map_nil]); first | done | rfl | (simp only [List.length_drop, List.length_take]; rfl)) ?_; (with_reducible refine (weirkeeperlaw08_awake.calls k2 _ A30.out).mono ?_); rintro e w31 ⟨rfl, hb⟩; refine ⟨_, rfl, ?_⟩; have n0_ := Aside0.mk (Kd.V_below (by (with_reducible repeat (first | apply Kd.V_alloc | apply Kd.V_drewN | apply Kd.V_drew)); exact HO_585000.out) hb); have n1_ := Aside0.mk (Kd.R_below (by (with_reducible repeat (first | apply Kd.R_alloc | apply Kd.R_drewN | apply Kd.R_drew)); exact HO_585001.out) hb); have n2_ := Aside0.mk (blk_below (g := gb577) (o := .cells #[.slice A0_0 l0_0.length c0_0, .slice A0_1 l0_1.length c0_1] 25 (0, 0)) (by (with_reducible repeat (first | refine blk_drewN ?_ _ | refine blk_drew ?_ | refine blk_alloc ?_ _)); exact BK577.out) hb); have n3_ := Aside0.mk (blk_below (g := gb584) (o := .cells #[.slice Ao11 t578.length co11, .slice Ao14 t581.length co14] 29 (0, 0)) (by (with_reducible repeat (first | refine blk_drewN ?_ _ | refine blk_drew ?_ | refine blk_alloc ?_ _)); exact BK584.out) hb); have n4_ := Aside0.mk (below_step (by repeat (first | (with_reducible first | exact HB.out | apply below_alloc | apply pw_below_drewN | apply below_drew1 | refine below_set ?_ GE577.out | refine below_set ?_ GE584.out) | exact HB.out)) hb); clear HO_585000; clear HO_585001; clear BK577; clear BK584; clear HB; have HO_585000 := n0_; have HO_585001 := n1_; have BK577 := n2_; have BK584 := n3_; have HB := n4_; clear n0_ n1_ n2_ n3_ n4_; (try clear hb); (try clear hb2); (try clear hk); (try clear hi)))
                    go_ret
                    exact ⟨by first | rfl | (simp only [h9_.out]; done) | (have h8_ := h9_.out; simp [h8_]; done) | (simp [errW_none, errW_some] <;> rfl) | (simp [*, errW_none, errW_some] <;> rfl), by repeat (first | (with_reducible first | exact HB.out | apply below_alloc | apply pw_below_drewN | apply below_drew1 | refine below_set ?_ GE577.out | refine below_set ?_ GE584.out) | exact HB.out)⟩
                  · rw [if_neg c29] at H
                    have c29b0 : decide (300 < ((rdOf ByteArray.empty l3 x44_2).size : Int)) = false := decide_eq_false c29
                    have c29b1 : decide (300 < (rdOf ByteArray.empty l3 x44_2).size) = false := decide_eq_false (by omega)
                    clear c29
                    have H' := Aside0.mk H
                    clear H
                    have p586 : 0 ≤ (x44_2 : Int) := of_decide_eq_true (by first | (with_reducible assumption) | assumption)
                    have q586 : x44_2 < (l3.length : Int) := of_decide_eq_true (by first | (with_reducible assumption) | assumption)
                    obtain ⟨ad586, e586, hx586_0⟩ := Kd.at_string HR3.out x44_2 p586 q586
                    cases e586
                    replace hx586_0 := (HB.out.cell (World.block_lt_of_cell? w _ hx586_0)).trans hx586_0
                    replace p586 := eq_true p586
                    replace q586 := eq_true q586
                    go_wp2
                    go_roundg k2
                    case measure => have := HJ5.out; have := HK2.out; omega
                    case rel => exact ⟨(wrap64 (x44_2 + 1)), (by first | rfl | (simp; done) | (simp [*]; done)), H', ⟨by have := HJ5.out; have := HK2.out; omega⟩, ⟨by (with_reducible repeat (first | apply Kd.V_alloc | apply Kd.V_drewN | apply Kd.V_drew)); exact HO_585000.out⟩, ⟨by (with_reducible repeat (first | apply Kd.R_alloc | apply Kd.R_drewN | apply Kd.R_drew)); exact HO_585001.out⟩, ⟨by (with_reducible repeat (first | refine blk_drewN ?_ _ | refine blk_drew ?_ | refine blk_alloc ?_ _)); exact BK577.out⟩, ⟨by (with_reducible repeat (first | refine blk_drewN ?_ _ | refine blk_drew ?_ | refine blk_alloc ?_ _)); exact BK584.out⟩, ⟨by repeat (first | (with_reducible first | exact HB.out | apply below_alloc | apply pw_below_drewN | apply below_drew1 | refine below_set ?_ GE577.out | refine below_set ?_ GE584.out) | exact HB.out)⟩⟩
                · rw [if_neg c28] at H
                  exact absurd H (by simp)
              · rw [if_neg c27] at H
                exact absurd H (by simp)
            · rw [if_neg c26] at H
              have c26b0 : decide (x44_2 < (l3.length : Int)) = false := decide_eq_false c26
              clear c26
              replace H := Option.bind_eq_some_iff.mp H
              obtain ⟨⟨t588, t591, t592⟩, A320, H⟩ := H
              replace H : ((weirkeeperref08_Texts.f k2 t578 t581 a1).bind fun bt593 => ((journal_Append.f k2 l0_0 l0_1 a1 a2 l3).bind fun bt598 => ((weirkeeperref08_Append.f k2 t578 t581 a1 a2 l3).bind fun bt607 => ((weirkeeperref01_Same.f k2 t588 bt593.1).bind fun t616 => (if t616 = true then (if t591 = bt593.2.1 then (if t592 = bt593.2.2 then ((weirkeeperlaw04_Ref.f k2 bt598.1 bt598.2.1).bind fun bt617 => ((weirkeeperref04_Same.f k2 bt617.1 bt617.2 bt607.1 bt607.2.1).bind fun t623 => (if t623 = true then (if bt598.2.2.1 = bt607.2.2.1 then (if bt598.2.2.2 = bt607.2.2.2 then ((weirkeeperlaw08_awake.f k2).bind fun t624 => (some t624)) else (some false)) else (some false)) else (some false)))) else (some false)) else (some false)) else (some false)))))) = some true := H
              have A32 := Aside0.mk A320
              clear A320
              replace H := Option.bind_eq_some_iff.mp H
              obtain ⟨⟨t593, t596, t597⟩, A330, H⟩ := H
              replace H : ((journal_Append.f k2 l0_0 l0_1 a1 a2 l3).bind fun bt598 => ((weirkeeperref08_Append.f k2 t578 t581 a1 a2 l3).bind fun bt607 => ((weirkeeperref01_Same.f k2 t588 t593).bind fun t616 => (if t616 = true then (if t591 = t596 then (if t592 = t597 then ((weirkeeperlaw04_Ref.f k2 bt598.1 bt598.2.1).bind fun bt617 => ((weirkeeperref04_Same.f k2 bt617.1 bt617.2 bt607.1 bt607.2.1).bind fun t623 => (if t623 = true then (if bt598.2.2.1 = bt607.2.2.1 then (if bt598.2.2.2 = bt607.2.2.2 then ((weirkeeperlaw08_awake.f k2).bind fun t624 => (some t624)) else (some false)) else (some false)) else (some false)))) else (some false)) else (some false)) else (some false))))) = some true := H
              have A33 := Aside0.mk A330
              clear A330
              replace H := Option.bind_eq_some_iff.mp H
              obtain ⟨⟨t598, t601, t604, t605⟩, A340, H⟩ := H
              replace H : ((weirkeeperref08_Append.f k2 t578 t581 a1 a2 l3).bind fun bt607 => ((weirkeeperref01_Same.f k2 t588 t593).bind fun t616 => (if t616 = true then (if t591 = t596 then (if t592 = t597 then ((weirkeeperlaw04_Ref.f k2 t598 t601).bind fun bt617 => ((weirkeeperref04_Same.f k2 bt617.1 bt617.2 bt607.1 bt607.2.1).bind fun t623 => (if t623 = true then (if t604 = bt607.2.2.1 then (if t605 = bt607.2.2.2 then ((weirkeeperlaw08_awake.f k2).bind fun t624 => (some t624)) else (some false)) else (some false)) else (some false)))) else (some false)) else (some false)) else (some false)))) = some true := H
              have A34 := Aside0.mk A340
              clear A340
              replace H := Option.bind_eq_some_iff.mp H
              obtain ⟨⟨t607, t610, t613, t614⟩, A350, H⟩ := H
              replace H : ((weirkeeperref01_Same.f k2 t588 t593).bind fun t616 => (if t616 = true then (if t591 = t596 then (if t592 = t597 then ((weirkeeperlaw04_Ref.f k2 t598 t601).bind fun bt617 => ((weirkeeperref04_Same.f k2 bt617.1 bt617.2 t607 t610).bind fun t623 => (if t623 = true then (if t604 = t613 then (if t605 = t614 then ((weirkeeperlaw08_awake.f k2).bind fun t624 => (some t624)) else (some false)) else (some false)) else (some false)))) else (some false)) else (some false)) else (some false))) = some true := H
              have A35 := Aside0.mk A350
              clear A350
              replace H := Option.bind_eq_some_iff.mp H
              obtain ⟨t616, A360, H⟩ := H
              replace H : (if t616 = true then (if t591 = t596 then (if t592 = t597 then ((weirkeeperlaw04_Ref.f k2 t598 t601).bind fun bt617 => ((weirkeeperref04_Same.f k2 bt617.1 bt617.2 t607 t610).bind fun t623 => (if t623 = true then (if t604 = t613 then (if t605 = t614 then ((weirkeeperlaw08_awake.f k2).bind fun t624 => (some t624)) else (some false)) else (some false)) else (some false)))) else (some false)) else (some false)) else (some false)) = some true := H
              have A36 := Aside0.mk A360
              clear A360
              by_cases c37 : t616 = true
              · subst c37
                have H1 : (if t591 = t596 then (if t592 = t597 then ((weirkeeperlaw04_Ref.f k2 t598 t601).bind fun bt617 => ((weirkeeperref04_Same.f k2 bt617.1 bt617.2 t607 t610).bind fun t623 => (if t623 = true then (if t604 = t613 then (if t605 = t614 then ((weirkeeperlaw08_awake.f k2).bind fun t624 => (some t624)) else (some false)) else (some false)) else (some false)))) else (some false)) else (some false)) = some true := by rw [if_pos rfl] at H; exact H
                clear H
                have H := H1
                clear H1
                by_cases c38 : t591 = t596
                · rw [if_pos c38] at H
                  have c38b0 : (t591 == t596) = true := beq_iff_eq.mpr c38
                  have c38b1 : (t591 != t596) = false := bne_eq_false_iff_eq.mpr c38
                  clear c38
                  by_cases c39 : t592 = t597
                  · rw [if_pos c39] at H
                    have c39b0 : (t592 == t597) = true := beq_iff_eq.mpr c39
                    have c39b1 : (t592 != t597) = false := bne_eq_false_iff_eq.mpr c39
                    clear c39
                    replace H := Option.bind_eq_some_iff.mp H
                    obtain ⟨⟨t617, t620⟩, A400, H⟩ := H
                    replace H : ((weirkeeperref04_Same.f k2 t617 t620 t607 t610).bind fun t623 => (if t623 = true then (if t604 = t613 then (if t605 = t614 then ((weirkeeperlaw08_awake.f k2).bind fun t624 => (some t624)) else (some false)) else (some false)) else (some false))) = some true := H
                    have A40 := Aside0.mk A400
                    clear A400
                    replace H := Option.bind_eq_some_iff.mp H
                    obtain ⟨t623, A410, H⟩ := H
                    replace H : (if t623 = true then (if t604 = t613 then (if t605 = t614 then ((weirkeeperlaw08_awake.f k2).bind fun t624 => (some t624)) else (some false)) else (some false)) else (some false)) = some true := H
                    have A41 := Aside0.mk A410
                    clear A410
                    by_cases c42 : t623 = true
                    · subst c42
                      have H1 : (if t604 = t613 then (if t605 = t614 then ((weirkeeperlaw08_awake.f k2).bind fun t624 => (some t624)) else (some false)) else (some false)) = some true := by rw [if_pos rfl] at H; exact H
                      clear H
                      have H := H1
                      clear H1
                      by_cases c43 : t604 = t613
                      · rw [if_pos c43] at H
                        have c43b0 : (t604 == t613) = true := beq_iff_eq.mpr c43
                        have c43b1 : (t604 != t613) = false := bne_eq_false_iff_eq.mpr c43
                        clear c43
                        by_cases c44 : t605 = t614
                        · rw [if_pos c44] at H
                          have c44b0 : (t605 == t614) = true := beq_iff_eq.mpr c44
                          have c44b1 : (t605 != t614) = false := bne_eq_false_iff_eq.mpr c44
                          clear c44
                          replace H := Option.bind_eq_some_iff.mp H
                          obtain ⟨t624, A450, H⟩ := H
                          replace H : (some t624) = some true := H
                          have A45 := Aside0.mk A450
                          clear A450
                          (have H9_ := Option.some.inj H; first | subst H9_ | (have h9_ := Aside0.mk H9_; clear H9_))
                          have hnb46 := NB577_584.out
                          have hnc46 := NB584_577.out
                          have hcz47_0 : wr.cell? ⟨gb577, 0, none⟩ = some (.slice A0_0 l0_0.length c0_0) := (blk_cell BK577.out 0).trans rfl
                          have hcz47_1 : wr.cell? ⟨gb577, 1, none⟩ = some (.slice A0_1 l0_1.length c0_1) := (blk_cell BK577.out 1).trans rfl
                          have hfz47_0 := blk_frozen BK577.out 0
                          have hfz47_1 := blk_frozen BK577.out 1
                          try go_wp2_with (first | ((with_reducible refine gate_callee (f := 35) rfl ?_); refine goesL_ (some 56) rfl rfl Try.func35 (by kernel_rfl) rfl #[.agg #[.slice A0_0 l0_0.length c0_0, .slice A0_1 l0_1.length c0_1], .int .i64 a1] rfl (by (try simp only [List.map_toArray, List.map_cons, List.map_nil]); first | done | rfl | (simp only [List.length_drop, List.length_take]; rfl)) ?_; (with_reducible refine (journal_Texts.calls k2 _ _ l0_0 _ _ l0_1 a1 t588 t591 t592 _ ?side1 ?side2 ?side3 ?side4 A32.out).mono ?_); (case side1 => repeat (first | exact (Kd.C_below HR0_0.out HB.out) | (with_reducible refine Kd.C_alloc ?_ _) | (with_reducible refine Kd.C_drewN ?_ _) | (with_reducible refine Kd.C_drew ?_))); (case side2 => exact HC0_0.out); (case side3 => repeat (first | exact (Kd.C_below HR0_1.out HB.out) | (with_reducible refine Kd.C_alloc ?_ _) | (with_reducible refine Kd.C_drewN ?_ _) | (with_reducible refine Kd.C_drew ?_))); (case side4 => exact HC0_1.out); rintro e w48 ⟨v589, rfl, ho0, hb⟩; refine ⟨_, rfl, ?_⟩; have n0_ := Aside0.mk (Kd.V_elder' (by (with_reducible repeat (first | apply Kd.V_alloc | apply Kd.V_drewN | apply Kd.V_drew)); exact HO_585000.out) (Kd.R_base ho0) hb); have n1_ := Aside0.mk (Kd.R_below (by (with_reducible repeat (first | apply Kd.R_alloc | apply Kd.R_drewN | apply Kd.R_drew)); exact HO_585001.out) hb); have n2_ := Aside0.mk (Kd.R_lower ho0 (below_size (by repeat (first | (with_reducible first | exact HB.out | apply below_alloc | apply pw_below_drewN | apply below_drew1 | refine below_set ?_ GE577.out | refine below_set ?_ GE584.out) | exact HB.out)))); have n3_ := Aside0.mk (blk_below (g := gb577) (o := .cells #[.slice A0_0 l0_0.length c0_0, .slice A0_1 l0_1.length c0_1] 25 (0, 0)) (by (with_reducible repeat (first | refine blk_drewN ?_ _ | refine blk_drew ?_ | refine blk_alloc ?_ _)); exact BK577.out) hb); have n4_ := Aside0.mk (blk_below (g := gb584) (o := .cells #[.slice Ao11 t578.length co11, .slice Ao14 t581.length co14] 29 (0, 0)) (by (with_reducible repeat (first | refine blk_drewN ?_ _ | refine blk_drew ?_ | refine blk_alloc ?_ _)); exact BK584.out) hb); have n5_ := Aside0.mk (below_step (by repeat (first | (with_reducible first | exact HB.out | apply below_alloc | apply pw_below_drewN | apply below_drew1 | refine below_set ?_ GE577.out | refine below_set ?_ GE584.out) | exact HB.out)) hb); clear HO_585000; clear HO_585001; clear BK577; clear BK584; clear HB; have HO_585000 := n0_; have HO_585001 := n1_; have HO590 := n2_; have BK577 := n3_; have BK584 := n4_; have HB := n5_; clear n0_ n1_ n2_ n3_ n4_ n5_; (try clear hb); (try clear hb2); (try clear hk); (try clear hi); (try clear ho0); have hcz49_0 : w48.cell? ⟨gb584, 0, none⟩ = some (.slice Ao11 t578.length co11) := (blk_cell BK584.out 0).trans rfl; have hcz49_1 : w48.cell? ⟨gb584, 1, none⟩ = some (.slice Ao14 t581.length co14) := (blk_cell BK584.out 1).trans rfl; have hfz49_0 := blk_frozen BK584.out 0; have hfz49_1 := blk_frozen BK584.out 1) | ((with_reducible refine gate_callee (f := 36) rfl ?_); refine goesL_ (some 63) rfl rfl Try.func36 (by kernel_rfl) rfl #[.agg #[.slice Ao11 t578.length co11, .slice Ao14 t581.length co14], .int .i64 a1] rfl (by (try simp only [List.map_toArray, List.map_cons, List.map_nil]); first | done | rfl | (simp only [List.length_drop, List.length_take]; rfl)) ?_; (with_reducible refine (weirkeeperref08_Texts.calls k2 _ _ t578 _ _ t581 a1 t593 t596 t597 _ ?side1 ?side2 ?side3 ?side4 A33.out).mono ?_); (case side1 => repeat (first | exact (Kd.V_reads' HO_585000.out).2.2 | (with_reducible refine Kd.C_alloc ?_ _) | (with_reducible refine Kd.C_drewN ?_ _) | (with_reducible refine Kd.C_drew ?_))); (case side2 => exact (Kd.V_reads' HO_585000.out).2.1); (case side3 => repeat (first | exact (Kd.R_reads' HO_585001.out).2.2 | (with_reducible refine Kd.C_alloc ?_ _) | (with_reducible refine Kd.C_drewN ?_ _) | (with_reducible refine Kd.C_drew ?_))); (case side4 => exact (Kd.R_reads' HO_585001.out).2.1); rintro e w50 ⟨v594, rfl, ho0, hb⟩; refine ⟨_, rfl, ?_⟩; have n0_ := Aside0.mk (Kd.V_elder' (by (with_reducible repeat (first | apply Kd.V_alloc | apply Kd.V_drewN | apply Kd.V_drew)); exact HO_585000.out) (Kd.R_base ho0) hb); have n1_ := Aside0.mk (Kd.R_below (by (with_reducible repeat (first | apply Kd.R_alloc | apply Kd.R_drewN | apply Kd.R_drew)); exact HO_585001.out) hb); have n2_ := Aside0.mk (Kd.R_elder' (by (with_reducible repeat (first | apply Kd.R_alloc | apply Kd.R_drewN | apply Kd.R_drew)); exact HO590.out) (Kd.R_base ho0) hb); have n3_ := Aside0.mk (Kd.R_lower (Kd.R_new' ho0 (Kd.R_lt (by (with_reducible repeat (first | apply Kd.R_alloc | apply Kd.R_drewN | apply Kd.R_drew)); exact HO590.out))) (below_size (by repeat (first | (with_reducible first | exact HB.out | apply below_alloc | apply pw_below_drewN | apply below_drew1 | refine below_set ?_ GE577.out | refine below_set ?_ GE584.out) | exact HB.out)))); have n4_ := Aside0.mk (blk_below (g := gb577) (o := .cells #[.slice A0_0 l0_0.length c0_0, .slice A0_1 l0_1.length c0_1] 25 (0, 0)) (by (with_reducible repeat (first | refine blk_drewN ?_ _ | refine blk_drew ?_ | refine blk_alloc ?_ _)); exact BK577.out) hb); have n5_ := Aside0.mk (blk_below (g := gb584) (o := .cells #[.slice Ao11 t578.length co11, .slice Ao14 t581.length co14] 29 (0, 0)) (by (with_reducible repeat (first | refine blk_drewN ?_ _ | refine blk_drew ?_ | refine blk_alloc ?_ _)); exact BK584.out) hb); have n6_ := Aside0.mk (below_step (by repeat (first | (with_reducible first | exact HB.out | apply below_alloc | apply pw_below_drewN | apply below_drew1 | refine below_set ?_ GE577.out | refine below_set ?_ GE584.out) | exact HB.out)) hb); clear HO_585000; clear HO_585001; clear HO590; clear BK577; clear BK584; clear HB; have HO_585000 := n0_; have HO_585001 := n1_; have HO590 := n2_; have HO595 := n3_; have BK577 := n4_; have BK584 := n5_; have HB := n6_; clear n0_ n1_ n2_ n3_ n4_ n5_ n6_; (try clear hb); (try clear hb2); (try clear hk); (try clear hi); (try clear ho0); have hcz51_0 : w50.cell? ⟨gb577, 0, none⟩ = some (.slice A0_0 l0_0.length c0_0) := (blk_cell BK577.out 0).trans rfl; have hcz51_1 : w50.cell? ⟨gb577, 1, none⟩ = some (.slice A0_1 l0_1.length c0_1) := (blk_cell BK577.out 1).trans rfl; have hfz51_0 := blk_frozen BK577.out 0; have hfz51_1 := blk_frozen BK577.out 1) | ((with_reducible refine gate_callee (f := 37) rfl ?_); refine goesL_ (some 72) rfl rfl Try.func37 (by kernel_rfl) rfl #[.agg #[.slice A0_0 l0_0.length c0_0, .slice A0_1 l0_1.length c0_1], .int .i64 a1, .int .i64 a2, .slice A3 l3.length c3] rfl (by (try simp only [List.map_toArray, List.map_cons, List.map_nil]); first | done | rfl | (simp only [List.length_drop, List.length_take]; rfl)) ?_; (with_reducible refine (journal_Append.calls k2 (fun k_ => k_ < w.heap.size) _ _ l0_0 (fun k_ => k_ < w.heap.size) _ _ l0_1 a1 a2 _ _ l3 t598 t601 t604 t605 _ ?side1 ?side2 ?side3 ?side4 A34.out).mono ?_); (case side1 => exact Kd.V_mk HC0_0.out (Kd.F_below (Kd.C_F Kd.heap_string HR0_0.out) (by repeat (first | (with_reducible first | exact HB.out | apply below_alloc | apply pw_below_drewN | apply below_drew1 | refine below_set ?_ GE577.out | refine below_set ?_ GE584.out) | exact HB.out)))); (case side2 => exact Kd.V_mk HC0_1.out (Kd.F_below (Kd.C_F k76_heap HR0_1.out) (by repeat (first | (with_reducible first | exact HB.out | apply below_alloc | apply pw_below_drewN | apply below_drew1 | refine below_set ?_ GE577.out | refine below_set ?_ GE584.out) | exact HB.out)))); (case side3 => repeat (first | exact (Kd.C_below HR3.out HB.out) | (with_reducible refine Kd.C_alloc ?_ _) | (with_reducible refine Kd.C_drewN ?_ _) | (with_reducible refine Kd.C_drew ?_))); (case side4 => exact HC3.out); rintro e w52 ⟨v599, v602, rfl, ho0, ho1, hb⟩; refine ⟨_, rfl, ?_⟩; have n0_ := Aside0.mk (Kd.V_below (by (with_reducible repeat (first | apply Kd.V_alloc | apply Kd.V_drewN | apply Kd.V_drew)); exact HO_585000.out) hb); have n1_ := Aside0.mk (Kd.R_below (by (with_reducible repeat (first | apply Kd.R_alloc | apply Kd.R_drewN | apply Kd.R_drew)); exact HO_585001.out) hb); have n2_ := Aside0.mk (Kd.R_below (by (with_reducible repeat (first | apply Kd.R_alloc | apply Kd.R_drewN | apply Kd.R_drew)); exact HO590.out) hb); have n3_ := Aside0.mk (Kd.R_below (by (with_reducible repeat (first | apply Kd.R_alloc | apply Kd.R_drewN | apply Kd.R_drew)); exact HO595.out) hb); have n4_ := Aside0.mk (Kd.V_lower (Kd.V_mono (ok' := fun k_ => some k_ ≠ (.slice Ao14 t581.length co14 : Value).ownBlock ∧ some k_ ≠ (v589 : Value).ownBlock ∧ some k_ ≠ (v594 : Value).ownBlock ∧ k_ ≠ gb577 ∧ k_ ≠ gb584) ho0 (fun k_ hk_ => ⟨Or.elim hk_ (fun hs_ => Or.elim hs_ (fun hs_ => fun e_ => Nat.not_le.2 hs_ (Kd.R_base HO_585001.out k_ e_.symm)) (fun hs_ => fun e_ => Nat.not_le.2 hs_ (Kd.R_base HO_585001.out k_ e_.symm))) (fun hn_ => (Kd.fresh' (Kd.R_lt (by (with_reducible repeat (first | apply Kd.R_alloc | apply Kd.R_drewN | apply Kd.R_drew)); exact HO_585001.out)) k_ hn_)), Or.elim hk_ (fun hs_ => Or.elim hs_ (fun hs_ => fun e_ => Nat.not_le.2 hs_ (Kd.R_base HO590.out k_ e_.symm)) (fun hs_ => fun e_ => Nat.not_le.2 hs_ (Kd.R_base HO590.out k_ e_.symm))) (fun hn_ => (Kd.fresh' (Kd.R_lt (by (with_reducible repeat (first | apply Kd.R_alloc | apply Kd.R_drewN | apply Kd.R_drew)); exact HO590.out)) k_ hn_)), Or.elim hk_ (fun hs_ => Or.elim hs_ (fun hs_ => fun e_ => Nat.not_le.2 hs_ (Kd.R_base HO595.out k_ e_.symm)) (fun hs_ => fun e_ => Nat.not_le.2 hs_ (Kd.R_base HO595.out k_ e_.symm))) (fun hn_ => (Kd.fresh' (Kd.R_lt (by (with_reducible repeat (first | apply Kd.R_alloc | apply Kd.R_drewN | apply Kd.R_drew)); exact HO595.out)) k_ hn_)), Or.elim hk_ (fun hs_ => Or.elim hs_ (fun hs_ => fun e_ => Nat.not_le.2 hs_ (by rw [e_]; exact GW577.out)) (fun hs_ => fun e_ => Nat.not_le.2 hs_ (by rw [e_]; exact GW577.out))) (fun hn_ => (Kd.freshB (g := gb577) (o := .cells #[.slice A0_0 l0_0.length c0_0, .slice A0_1 l0_1.length c0_1] 25 (0, 0)) (by (with_reducible repeat (first | refine blk_drewN ?_ _ | refine blk_drew ?_ | refine blk_alloc ?_ _)); exact BK577.out) k_ hn_)), Or.elim hk_ (fun hs_ => Or.elim hs_ (fun hs_ => fun e_ => Nat.not_le.2 hs_ (by rw [e_]; exact GW584.out)) (fun hs_ => fun e_ => Nat.not_le.2 hs_ (by rw [e_]; exact GW584.out))) (fun hn_ => (Kd.freshB (g := gb584) (o := .cells #[.slice Ao11 t578.length co11, .slice Ao14 t581.length co14] 29 (0, 0)) (by (with_reducible repeat (first | refine blk_drewN ?_ _ | refine blk_drew ?_ | refine blk_alloc ?_ _)); exact BK584.out) k_ hn_))⟩)) (below_size (by repeat (first | (with_reducible first | exact HB.out | apply below_alloc | apply pw_below_drewN | apply below_drew1 | refine below_set ?_ GE577.out | refine below_set ?_ GE584.out) | exact HB.out)))); have n5_ := Aside0.mk (Kd.V_lower (Kd.V_mono (ok' := fun k_ => some k_ ≠ (.slice Ao14 t581.length co14 : Value).ownBlock ∧ some k_ ≠ (v589 : Value).ownBlock ∧ some k_ ≠ (v594 : Value).ownBlock ∧ k_ ≠ gb577 ∧ k_ ≠ gb584) ho1 (fun k_ hk_ => ⟨Or.elim hk_ (fun hs_ => Or.elim hs_ (fun hs_ => fun e_ => Nat.not_le.2 hs_ (Kd.R_base HO_585001.out k_ e_.symm)) (fun hs_ => fun e_ => Nat.not_le.2 hs_ (Kd.R_base HO_585001.out k_ e_.symm))) (fun hn_ => (Kd.fresh' (Kd.R_lt (by (with_reducible repeat (first | apply Kd.R_alloc | apply Kd.R_drewN | apply Kd.R_drew)); exact HO_585001.out)) k_ hn_)), Or.elim hk_ (fun hs_ => Or.elim hs_ (fun hs_ => fun e_ => Nat.not_le.2 hs_ (Kd.R_base HO590.out k_ e_.symm)) (fun hs_ => fun e_ => Nat.not_le.2 hs_ (Kd.R_base HO590.out k_ e_.symm))) (fun hn_ => (Kd.fresh' (Kd.R_lt (by (with_reducible repeat (first | apply Kd.R_alloc | apply Kd.R_drewN | apply Kd.R_drew)); exact HO590.out)) k_ hn_)), Or.elim hk_ (fun hs_ => Or.elim hs_ (fun hs_ => fun e_ => Nat.not_le.2 hs_ (Kd.R_base HO595.out k_ e_.symm)) (fun hs_ => fun e_ => Nat.not_le.2 hs_ (Kd.R_base HO595.out k_ e_.symm))) (fun hn_ => (Kd.fresh' (Kd.R_lt (by (with_reducible repeat (first | apply Kd.R_alloc | apply Kd.R_drewN | apply Kd.R_drew)); exact HO595.out)) k_ hn_)), Or.elim hk_ (fun hs_ => Or.elim hs_ (fun hs_ => fun e_ => Nat.not_le.2 hs_ (by rw [e_]; exact GW577.out)) (fun hs_ => fun e_ => Nat.not_le.2 hs_ (by rw [e_]; exact GW577.out))) (fun hn_ => (Kd.freshB (g := gb577) (o := .cells #[.slice A0_0 l0_0.length c0_0, .slice A0_1 l0_1.length c0_1] 25 (0, 0)) (by (with_reducible repeat (first | refine blk_drewN ?_ _ | refine blk_drew ?_ | refine blk_alloc ?_ _)); exact BK577.out) k_ hn_)), Or.elim hk_ (fun hs_ => Or.elim hs_ (fun hs_ => fun e_ => Nat.not_le.2 hs_ (by rw [e_]; exact GW584.out)) (fun hs_ => fun e_ => Nat.not_le.2 hs_ (by rw [e_]; exact GW584.out))) (fun hn_ => (Kd.freshB (g := gb584) (o := .cells #[.slice Ao11 t578.length co11, .slice Ao14 t581.length co14] 29 (0, 0)) (by (with_reducible repeat (first | refine blk_drewN ?_ _ | refine blk_drew ?_ | refine blk_alloc ?_ _)); exact BK584.out) k_ hn_))⟩)) (below_size (by repeat (first | (with_reducible first | exact HB.out | apply below_alloc | apply pw_below_drewN | apply below_drew1 | refine below_set ?_ GE577.out | refine below_set ?_ GE584.out) | exact HB.out)))); have n6_ := Aside0.mk (blk_below (g := gb577) (o := .cells #[.slice A0_0 l0_0.length c0_0, .slice A0_1 l0_1.length c0_1] 25 (0, 0)) (by (with_reducible repeat (first | refine blk_drewN ?_ _ | refine blk_drew ?_ | refine blk_alloc ?_ _)); exact BK577.out) hb); have n7_ := Aside0.mk (blk_below (g := gb584) (o := .cells #[.slice Ao11 t578.length co11, .slice Ao14 t581.length co14] 29 (0, 0)) (by (with_reducible repeat (first | refine blk_drewN ?_ _ | refine blk_drew ?_ | refine blk_alloc ?_ _)); exact BK584.out) hb); have n8_ := Aside0.mk (below_step (by repeat (first | (with_reducible first | exact HB.out | apply below_alloc | apply pw_below_drewN | apply below_drew1 | refine below_set ?_ GE577.out | refine below_set ?_ GE584.out) | exact HB.out)) hb); clear HO_585000; clear HO_585001; clear HO590; clear HO595; clear BK577; clear BK584; clear HB; have HO_585000 := n0_; have HO_585001 := n1_; have HO590 := n2_; have HO595 := n3_; have HO600 := n4_; have HO603 := n5_; have BK577 := n6_; have BK584 := n7_; have HB := n8_; clear n0_ n1_ n2_ n3_ n4_ n5_ n6_ n7_ n8_; (try clear hb); (try clear hb2); (try clear hk); (try clear hi); (try clear ho0); (try clear ho1)) | ((with_reducible refine gate_dst (N := 18) rfl ?_); (try (refine gate_guard (by rfl) ?_; dsimp only)); refine box_event ?hg (N := 18) ?hd (cs := #[.slice none 0 0, .slice none 0 0]) (t := 25) ?hr ?_; (case hd => rfl); (case hg => rfl); (case hr => first | (go_simp; done) | (go_simp; rfl)); intro gb606 hg w53 hbox hb; have n0_ := Aside0.mk (Kd.V_below (Kd.V_elderB (by (with_reducible repeat (first | apply Kd.V_alloc | apply Kd.V_drewN | apply Kd.V_drew)); exact HO_585000.out) gb606 (Nat.le_of_eq hg.symm)) hb); have n1_ := Aside0.mk (Kd.R_below (by (with_reducible repeat (first | apply Kd.R_alloc | apply Kd.R_drewN | apply Kd.R_drew)); exact HO_585001.out) hb); have n2_ := Aside0.mk (Kd.R_below (by (with_reducible repeat (first | apply Kd.R_alloc | apply Kd.R_drewN | apply Kd.R_drew)); exact HO590.out) hb); have n3_ := Aside0.mk (Kd.R_below (by (with_reducible repeat (first | apply Kd.R_alloc | apply Kd.R_drewN | apply Kd.R_drew)); exact HO595.out) hb); have n4_ := Aside0.mk (Kd.V_below (Kd.V_elderB (by (with_reducible repeat (first | apply Kd.V_alloc | apply Kd.V_drewN | apply Kd.V_drew)); exact HO600.out) gb606 (Nat.le_of_eq hg.symm)) hb); have n5_ := Aside0.mk (Kd.V_below (Kd.V_elderB (by (with_reducible repeat (first | apply Kd.V_alloc | apply Kd.V_drewN | apply Kd.V_drew)); exact HO603.out) gb606 (Nat.le_of_eq hg.symm)) hb); have n6_ := Aside0.mk (blk_below (g := gb577) (o := .cells #[.slice A0_0 l0_0.length c0_0, .slice A0_1 l0_1.length c0_1] 25 (0, 0)) (by (with_reducible repeat (first | refine blk_drewN ?_ _ | refine blk_drew ?_ | refine blk_alloc ?_ _)); exact BK577.out) hb); have n7_ := Aside0.mk (blk_below (g := gb584) (o := .cells #[.slice Ao11 t578.length co11, .slice Ao14 t581.length co14] 29 (0, 0)) (by (with_reducible repeat (first | refine blk_drewN ?_ _ | refine blk_drew ?_ | refine blk_alloc ?_ _)); exact BK584.out) hb); have n8_ := Aside0.mk (below_step (by repeat (first | (with_reducible first | exact HB.out | apply below_alloc | apply pw_below_drewN | apply below_drew1 | refine below_set ?_ GE577.out | refine below_set ?_ GE584.out) | exact HB.out)) hb); have n9_ := Aside0.mk (hbox); have n10_ := Aside0.mk ((by rw [hg]; exact (below_size (by repeat (first | (with_reducible first | exact HB.out | apply below_alloc | apply pw_below_drewN | apply below_drew1 | refine below_set ?_ GE577.out | refine below_set ?_ GE584.out) | exact HB.out))) : w.heap.size ≤ gb606)); have n11_ := Aside0.mk ((by rw [hg]; exact (below_size (by repeat (first | (with_reducible first | exact HB.out | apply below_alloc | apply pw_below_drewN | apply below_drew1 | refine below_set ?_ GE577.out | refine below_set ?_ GE584.out) | exact HB.out))) : w.heap.size ≤ gb606)); have n12_ := Aside0.mk ((by rw [hg]; exact Nat.ne_of_lt (blk_lt (g := gb577) (o := .cells #[.slice A0_0 l0_0.length c0_0, .slice A0_1 l0_1.length c0_1] 25 (0, 0)) (by (with_reducible repeat (first | refine blk_drewN ?_ _ | refine blk_drew ?_ | refine blk_alloc ?_ _)); exact BK577.out)) : gb577 ≠ gb606)); have n13_ := Aside0.mk ((by rw [hg]; exact Nat.ne_of_gt (blk_lt (g := gb577) (o := .cells #[.slice A0_0 l0_0.length c0_0, .slice A0_1 l0_1.length c0_1] 25 (0, 0)) (by (with_reducible repeat (first | refine blk_drewN ?_ _ | refine blk_drew ?_ | refine blk_alloc ?_ _)); exact BK577.out)) : gb606 ≠ gb577)); have n14_ := Aside0.mk ((by rw [hg]; exact Nat.ne_of_lt (blk_lt (g := gb584) (o := .cells #[.slice Ao11 t578.length co11, .slice Ao14 t581.length co14] 29 (0, 0)) (by (with_reducible repeat (first | refine blk_drewN ?_ _ | refine blk_drew ?_ | refine blk_alloc ?_ _)); exact BK584.out)) : gb584 ≠ gb606)); have n15_ := Aside0.mk ((by rw [hg]; exact Nat.ne_of_gt (blk_lt (g := gb584) (o := .cells #[.slice Ao11 t578.length co11, .slice Ao14 t581.length co14] 29 (0, 0)) (by (with_reducible repeat (first | refine blk_drewN ?_ _ | refine blk_drew ?_ | refine blk_alloc ?_ _)); exact BK584.out)) : gb606 ≠ gb584)); clear HO_585000; clear HO_585001; clear HO590; clear HO595; clear HO600; clear HO603; clear BK577; clear BK584; clear HB; have HO_585000 := n0_; have HO_585001 := n1_; have HO590 := n2_; have HO595 := n3_; have HO600 := n4_; have HO603 := n5_; have BK577 := n6_; have BK584 := n7_; have HB := n8_; have BK606 := n9_; have GW606 := n10_; have GE606 := n11_; have NB577_606 := n12_; have NB606_577 := n13_; have NB584_606 := n14_; have NB606_584 := n15_; clear n0_ n1_ n2_ n3_ n4_ n5_ n6_ n7_ n8_ n9_ n10_ n11_ n12_ n13_ n14_ n15_; clear hb hbox hg; obtain ⟨Ao54, co54, eo54⟩ := Kd.V_slice HO600.out; subst eo54; have hnb55 := NB606_577.out; have hnc55 := NB577_606.out; have hnb56 := NB606_584.out; have hnc56 := NB584_606.out; have hcz57_0 : w53.cell? ⟨gb606, 0, none⟩ = some (.slice none 0 0) := (blk_cell BK606.out 0).trans rfl; have hcz57_1 : w53.cell? ⟨gb606, 1, none⟩ = some (.slice none 0 0) := (blk_cell BK606.out 1).trans rfl; have hfz57_0 := blk_frozen BK606.out 0; have hfz57_1 := blk_frozen BK606.out 1; obtain ⟨Ao58, co58, eo58⟩ := Kd.V_slice HO603.out; subst eo58) | ((with_reducible refine gate_store (t := 25) (p := 18) rfl ?_); refine store_event (t := 25) (p := 18) (v := ?vo_w59) (w1 := ((w53.setCell ⟨gb606, 0, none⟩ (.slice Ao54 t598.length co54)).setCell ⟨gb606, 1, none⟩ (.slice Ao58 t601.length co58))) ?hg ?ho ?hn ?hr ?_; (case ho => rfl); (case hg => rfl); (case hn => rfl); (case hr => first | (go_simp; done) | (go_simp; rfl)); intro w59 hw; have n0_ : Aside0 (Kd.V Kd.string 9 w59 w.heap.size (fun k_ => some k_ ≠ (.slice Ao14 t581.length co14 : Value).ownBlock ∧ some k_ ≠ (v589 : Value).ownBlock ∧ some k_ ≠ (v594 : Value).ownBlock ∧ k_ ≠ gb577 ∧ k_ ≠ gb584 ∧ k_ ≠ gb606) (.slice Ao11 t578.length co11) t578) := ⟨(by rw [hw]; exact (by (with_reducible repeat (first | apply Kd.V_alloc | apply Kd.V_drewN | apply Kd.V_drew)); exact Kd.V_mono (Kd.V_far (p := ⟨gb606, 1, none⟩) (Kd.V_far (p := ⟨gb606, 0, none⟩) (Kd.V_mono HO_585000.out (fun k_ hk => (⟨hk, hk.2⟩ : _ ∧ k_ ≠ gb606))) (fun _ hk => hk.2) (.slice Ao54 t598.length co54)) (fun _ hk => hk.2) (.slice Ao58 t601.length co58)) (fun _ hk => ⟨hk.1.1.1.1.1, ⟨hk.1.1.1.2, ⟨hk.1.1.2, ⟨hk.1.1.1.1.2.1, ⟨hk.1.1.1.1.2.2, hk.1.2⟩⟩⟩⟩⟩)))⟩; have n1_ : Aside0 (Kd.R k77 77 w59 w.heap.size (fun _ => True) (.slice Ao14 t581.length co14) t581) := ⟨(by rw [hw]; exact (by (with_reducible repeat (first | apply Kd.R_alloc | apply Kd.R_drewN | apply Kd.R_drew)); exact Kd.R_mono (Kd.R_far (p := ⟨gb606, 1, none⟩) (Kd.R_far (p := ⟨gb606, 0, none⟩) (Kd.R_types HO_585001.out BK606.out (by decide)) (fun _ hk => hk.2) (.slice Ao54 t598.length co54)) (fun _ hk => hk.2) (.slice Ao58 t601.length co58)) (fun _ hk => trivial)))⟩; have n2_ : Aside0 (Kd.R Kd.string 9 w59 w.heap.size (fun k_ => some k_ ≠ (v594 : Value).ownBlock) v589 t588) := ⟨(by rw [hw]; exact (by (with_reducible repeat (first | apply Kd.R_alloc | apply Kd.R_drewN | apply Kd.R_drew)); exact Kd.R_mono (Kd.R_far (p := ⟨gb606, 1, none⟩) (Kd.R_far (p := ⟨gb606, 0, none⟩) (Kd.R_types HO590.out BK606.out (by decide)) (fun _ hk => hk.2) (.slice Ao54 t598.length co54)) (fun _ hk => hk.2) (.slice Ao58 t601.length co58)) (fun _ hk => hk.1.2)))⟩; have n3_ : Aside0 (Kd.R Kd.string 9 w59 w.heap.size (fun k_ => some k_ ≠ (v589 : Value).ownBlock) v594 t593) := ⟨(by rw [hw]; exact (by (with_reducible repeat (first | apply Kd.R_alloc | apply Kd.R_drewN | apply Kd.R_drew)); exact Kd.R_mono (Kd.R_far (p := ⟨gb606, 1, none⟩) (Kd.R_far (p := ⟨gb606, 0, none⟩) (Kd.R_types HO595.out BK606.out (by decide)) (fun _ hk => hk.2) (.slice Ao54 t598.length co54)) (fun _ hk => hk.2) (.slice Ao58 t601.length co58)) (fun _ hk => hk.1.2)))⟩; have n4_ : Aside0 (Kd.V Kd.string 9 w59 w.heap.size (fun k_ => some k_ ≠ (.slice Ao14 t581.length co14 : Value).ownBlock ∧ some k_ ≠ (v589 : Value).ownBlock ∧ some k_ ≠ (v594 : Value).ownBlock ∧ k_ ≠ gb577 ∧ k_ ≠ gb584 ∧ k_ ≠ gb606) (.slice Ao54 t598.length co54) t598) := ⟨(by rw [hw]; exact (by (with_reducible repeat (first | apply Kd.V_alloc | apply Kd.V_drewN | apply Kd.V_drew)); exact Kd.V_mono (Kd.V_far (p := ⟨gb606, 1, none⟩) (Kd.V_far (p := ⟨gb606, 0, none⟩) (Kd.V_mono HO600.out (fun k_ hk => (⟨hk, hk.2⟩ : _ ∧ k_ ≠ gb606))) (fun _ hk => hk.2) (.slice Ao54 t598.length co54)) (fun _ hk => hk.2) (.slice Ao58 t601.length co58)) (fun _ hk => ⟨hk.1.1.1, ⟨hk.1.1.2.1, ⟨hk.1.1.2.2.1, ⟨hk.1.1.2.2.2.1, ⟨hk.1.1.2.2.2.2, hk.1.2⟩⟩⟩⟩⟩)))⟩; have n5_ : Aside0 (Kd.V k76 76 w59 w.heap.size (fun k_ => some k_ ≠ (.slice Ao14 t581.length co14 : Value).ownBlock ∧ some k_ ≠ (v589 : Value).ownBlock ∧ some k_ ≠ (v594 : Value).ownBlock ∧ k_ ≠ gb577 ∧ k_ ≠ gb584 ∧ k_ ≠ gb606) (.slice Ao58 t601.length co58) t601) := ⟨(by rw [hw]; exact (by (with_reducible repeat (first | apply Kd.V_alloc | apply Kd.V_drewN | apply Kd.V_drew)); exact Kd.V_mono (Kd.V_far (p := ⟨gb606, 1, none⟩) (Kd.V_far (p := ⟨gb606, 0, none⟩) (Kd.V_mono HO603.out (fun k_ hk => (⟨hk, hk.2⟩ : _ ∧ k_ ≠ gb606))) (fun _ hk => hk.2) (.slice Ao54 t598.length co54)) (fun _ hk => hk.2) (.slice Ao58 t601.length co58)) (fun _ hk => ⟨hk.1.1.1, ⟨hk.1.1.2.1, ⟨hk.1.1.2.2.1, ⟨hk.1.1.2.2.2.1, ⟨hk.1.1.2.2.2.2, hk.1.2⟩⟩⟩⟩⟩)))⟩; have n6_ : Aside0 (w59.heap[gb577]? = some (.cells #[.slice A0_0 l0_0.length c0_0, .slice A0_1 l0_1.length c0_1] 25 (0, 0))) := ⟨(by rw [hw]; exact (by (with_reducible repeat (first | refine blk_drewN ?_ _ | refine blk_drew ?_ | refine blk_alloc ?_ _)); refine blk_far ?_ NB577_606.out _; (with_reducible repeat (first | refine blk_drewN ?_ _ | refine blk_drew ?_ | refine blk_alloc ?_ _)); refine blk_far ?_ NB577_606.out _; (with_reducible repeat (first | refine blk_drewN ?_ _ | refine blk_drew ?_ | refine blk_alloc ?_ _)); exact BK577.out))⟩; have n7_ : Aside0 (w59.heap[gb584]? = some (.cells #[.slice Ao11 t578.length co11, .slice Ao14 t581.length co14] 29 (0, 0))) := ⟨(by rw [hw]; exact (by (with_reducible repeat (first | refine blk_drewN ?_ _ | refine blk_drew ?_ | refine blk_alloc ?_ _)); refine blk_far ?_ NB584_606.out _; (with_reducible repeat (first | refine blk_drewN ?_ _ | refine blk_drew ?_ | refine blk_alloc ?_ _)); refine blk_far ?_ NB584_606.out _; (with_reducible repeat (first | refine blk_drewN ?_ _ | refine blk_drew ?_ | refine blk_alloc ?_ _)); exact BK584.out))⟩; have n8_ : Aside0 (w59.heap[gb606]? = some (.cells #[.slice Ao54 t598.length co54, .slice Ao58 t601.length co58] 25 (0, 0))) := ⟨(by rw [hw]; exact (by (with_reducible repeat (first | refine blk_drewN ?_ _ | refine blk_drew ?_ | refine blk_alloc ?_ _)); refine blk_put (cs := #[.slice Ao54 t598.length co54, .slice none 0 0]) ?_ 1 _ rfl; (with_reducible repeat (first | refine blk_drewN ?_ _ | refine blk_drew ?_ | refine blk_alloc ?_ _)); refine blk_put (cs := #[.slice none 0 0, .slice none 0 0]) ?_ 0 _ rfl; (with_reducible repeat (first | refine blk_drewN ?_ _ | refine blk_drew ?_ | refine blk_alloc ?_ _)); exact BK606.out))⟩; have n9_ : Aside0 (Below w.heap.size w w59) := ⟨(by rw [hw]; exact (by repeat (first | (with_reducible first | exact HB.out | apply below_alloc | apply pw_below_drewN | apply below_drew1 | refine below_set ?_ GE577.out | refine below_set ?_ GE584.out | refine below_set ?_ GE606.out) | exact HB.out)))⟩; clear hw; clear HO_585000; clear HO_585001; clear HO590; clear HO595; clear HO600; clear HO603; clear BK577; clear BK584; clear BK606; clear HB; have HO_585000 := n0_; have HO_585001 := n1_; have HO590 := n2_; have HO595 := n3_; have HO600 := n4_; have HO603 := n5_; have BK577 := n6_; have BK584 := n7_; have BK606 := n8_; have HB := n9_; clear n0_ n1_ n2_ n3_ n4_ n5_ n6_ n7_ n8_ n9_; have hcz60_0 : w59.cell? ⟨gb584, 0, none⟩ = some (.slice Ao11 t578.length co11) := (blk_cell BK584.out 0).trans rfl; have hcz60_1 : w59.cell? ⟨gb584, 1, none⟩ = some (.slice Ao14 t581.length co14) := (blk_cell BK584.out 1).trans rfl; have hfz60_0 := blk_frozen BK584.out 0; have hfz60_1 := blk_frozen BK584.out 1) | ((with_reducible refine gate_callee (f := 38) rfl ?_); refine goesL_ (some 81) rfl rfl Try.func38 (by kernel_rfl) rfl #[.agg #[.slice Ao11 t578.length co11, .slice Ao14 t581.length co14], .int .i64 a1, .int .i64 a2, .slice A3 l3.length c3] rfl (by (try simp only [List.map_toArray, List.map_cons, List.map_nil]); first | done | rfl | (simp only [List.length_drop, List.length_take]; rfl)) ?_; (with_reducible refine (weirkeeperref08_Append.calls k2 (fun k_ => (some k_ ≠ (.slice Ao14 t581.length co14 : Value).ownBlock ∧ (some k_ ≠ (v589 : Value).ownBlock ∧ (some k_ ≠ (v594 : Value).ownBlock ∧ (k_ ≠ gb577 ∧ (k_ ≠ gb584 ∧ k_ ≠ gb606)))))) _ _ t578 (fun k_ => some k_ = (.slice Ao14 t581.length co14 : Value).ownBlock) _ _ t581 a1 a2 _ _ l3 t607 t610 t613 t614 _ ?side1 ?side2 ?side3 ?side4 A35.out).mono ?_); (case side1 => exact HO_585000.out); (case side2 => exact Kd.R_V (Kd.R_tight rfl (Kd.R_types (Kd.R_types (Kd.R_types (Kd.R_apart' (Kd.R_apart' (HO_585001.out) (Kd.R_typed HO590.out) (by decide)) (Kd.R_typed HO595.out) (by decide)) BK577.out (by decide)) BK584.out (by decide)) BK606.out (by decide)))); (case side3 => repeat (first | exact (Kd.C_below HR3.out HB.out) | (with_reducible refine Kd.C_alloc ?_ _) | (with_reducible refine Kd.C_drewN ?_ _) | (with_reducible refine Kd.C_drew ?_))); (case side4 => exact HC3.out); rintro e w61 ⟨v608, v611, rfl, ho0, ho1, hb⟩; refine ⟨_, rfl, ?_⟩; have n0_ := Aside0.mk (Kd.V_below (by (with_reducible repeat (first | apply Kd.V_alloc | apply Kd.V_drewN | apply Kd.V_drew)); exact HO_585000.out) hb); have n1_ := Aside0.mk (Kd.R_below (by (with_reducible repeat (first | apply Kd.R_alloc | apply Kd.R_drewN | apply Kd.R_drew)); exact HO_585001.out) hb); have n2_ := Aside0.mk (Kd.R_below (by (with_reducible repeat (first | apply Kd.R_alloc | apply Kd.R_drewN | apply Kd.R_drew)); exact HO590.out) hb); have n3_ := Aside0.mk (Kd.R_below (by (with_reducible repeat (first | apply Kd.R_alloc | apply Kd.R_drewN | apply Kd.R_drew)); exact HO595.out) hb); have n4_ := Aside0.mk (Kd.V_below (by (with_reducible repeat (first | apply Kd.V_alloc | apply Kd.V_drewN | apply Kd.V_drew)); exact HO600.out) hb); have n5_ := Aside0.mk (Kd.V_below (by (with_reducible repeat (first | apply Kd.V_alloc | apply Kd.V_drewN | apply Kd.V_drew)); exact HO603.out) hb); have n6_ := Aside0.mk (Kd.V_lower (Kd.V_mono (ok' := fun k_ => some k_ ≠ (v589 : Value).ownBlock ∧ some k_ ≠ (v594 : Value).ownBlock ∧ k_ ≠ gb577 ∧ k_ ≠ gb584 ∧ k_ ≠ gb606) ho0 (fun k_ hk_ => ⟨Or.elim hk_ (fun hs_ => Or.elim hs_ (fun hs_ => hs_.2.1) (fun hs_ => ((Kd.R_types (Kd.R_types (Kd.R_types (Kd.R_apart' (Kd.R_apart' (HO_585001.out) (Kd.R_typed HO590.out) (by decide)) (Kd.R_typed HO595.out) (by decide)) BK577.out (by decide)) BK584.out (by decide)) BK606.out (by decide)).1 k_ hs_.symm).1.1.1.1.2)) (fun hn_ => (Kd.fresh' (Kd.R_lt (by (with_reducible repeat (first | apply Kd.R_alloc | apply Kd.R_drewN | apply Kd.R_drew)); exact HO590.out)) k_ hn_)), Or.elim hk_ (fun hs_ => Or.elim hs_ (fun hs_ => hs_.2.2.1) (fun hs_ => ((Kd.R_types (Kd.R_types (Kd.R_types (Kd.R_apart' (Kd.R_apart' (HO_585001.out) (Kd.R_typed HO590.out) (by decide)) (Kd.R_typed HO595.out) (by decide)) BK577.out (by decide)) BK584.out (by decide)) BK606.out (by decide)).1 k_ hs_.symm).1.1.1.2)) (fun hn_ => (Kd.fresh' (Kd.R_lt (by (with_reducible repeat (first | apply Kd.R_alloc | apply Kd.R_drewN | apply Kd.R_drew)); exact HO595.out)) k_ hn_)), Or.elim hk_ (fun hs_ => Or.elim hs_ (fun hs_ => hs_.2.2.2.1) (fun hs_ => ((Kd.R_types (Kd.R_types (Kd.R_types (Kd.R_apart' (Kd.R_apart' (HO_585001.out) (Kd.R_typed HO590.out) (by decide)) (Kd.R_typed HO595.out) (by decide)) BK577.out (by decide)) BK584.out (by decide)) BK606.out (by decide)).1 k_ hs_.symm).1.1.2)) (fun hn_ => (Kd.freshB (g := gb577) (o := .cells #[.slice A0_0 l0_0.length c0_0, .slice A0_1 l0_1.length c0_1] 25 (0, 0)) (by (with_reducible repeat (first | refine blk_drewN ?_ _ | refine blk_drew ?_ | refine blk_alloc ?_ _)); exact BK577.out) k_ hn_)), Or.elim hk_ (fun hs_ => Or.elim hs_ (fun hs_ => hs_.2.2.2.2.1) (fun hs_ => ((Kd.R_types (Kd.R_types (Kd.R_types (Kd.R_apart' (Kd.R_apart' (HO_585001.out) (Kd.R_typed HO590.out) (by decide)) (Kd.R_typed HO595.out) (by decide)) BK577.out (by decide)) BK584.out (by decide)) BK606.out (by decide)).1 k_ hs_.symm).1.2)) (fun hn_ => (Kd.freshB (g := gb584) (o := .cells #[.slice Ao11 t578.length co11, .slice Ao14 t581.length co14] 29 (0, 0)) (by (with_reducible repeat (first | refine blk_drewN ?_ _ | refine blk_drew ?_ | refine blk_alloc ?_ _)); exact BK584.out) k_ hn_)), Or.elim hk_ (fun hs_ => Or.elim hs_ (fun hs_ => hs_.2.2.2.2.2) (fun hs_ => ((Kd.R_types (Kd.R_types (Kd.R_types (Kd.R_apart' (Kd.R_apart' (HO_585001.out) (Kd.R_typed HO590.out) (by decide)) (Kd.R_typed HO595.out) (by decide)) BK577.out (by decide)) BK584.out (by decide)) BK606.out (by decide)).1 k_ hs_.symm).2)) (fun hn_ => (Kd.freshB (g := gb606) (o := .cells #[.slice Ao54 t598.length co54, .slice Ao58 t601.length co58] 25 (0, 0)) (by (with_reducible repeat (first | refine blk_drewN ?_ _ | refine blk_drew ?_ | refine blk_alloc ?_ _)); exact BK606.out) k_ hn_))⟩)) (below_size (by repeat (first | (with_reducible first | exact HB.out | apply below_alloc | apply pw_below_drewN | apply below_drew1 | refine below_set ?_ GE577.out | refine below_set ?_ GE584.out | refine below_set ?_ GE606.out) | exact HB.out)))); have n7_ := Aside0.mk (Kd.V_lower (Kd.V_mono (ok' := fun k_ => some k_ ≠ (v589 : Value).ownBlock ∧ some k_ ≠ (v594 : Value).ownBlock ∧ k_ ≠ gb577 ∧ k_ ≠ gb584 ∧ k_ ≠ gb606) ho1 (fun k_ hk_ => ⟨Or.elim hk_ (fun hs_ => Or.elim hs_ (fun hs_ => hs_.2.1) (fun hs_ => ((Kd.R_types (Kd.R_types (Kd.R_types (Kd.R_apart' (Kd.R_apart' (HO_585001.out) (Kd.R_typed HO590.out) (by decide)) (Kd.R_typed HO595.out) (by decide)) BK577.out (by decide)) BK584.out (by decide)) BK606.out (by decide)).1 k_ hs_.symm).1.1.1.1.2)) (fun hn_ => (Kd.fresh' (Kd.R_lt (by (with_reducible repeat (first | apply Kd.R_alloc | apply Kd.R_drewN | apply Kd.R_drew)); exact HO590.out)) k_ hn_)), Or.elim hk_ (fun hs_ => Or.elim hs_ (fun hs_ => hs_.2.2.1) (fun hs_ => ((Kd.R_types (Kd.R_types (Kd.R_types (Kd.R_apart' (Kd.R_apart' (HO_585001.out) (Kd.R_typed HO590.out) (by decide)) (Kd.R_typed HO595.out) (by decide)) BK577.out (by decide)) BK584.out (by decide)) BK606.out (by decide)).1 k_ hs_.symm).1.1.1.2)) (fun hn_ => (Kd.fresh' (Kd.R_lt (by (with_reducible repeat (first | apply Kd.R_alloc | apply Kd.R_drewN | apply Kd.R_drew)); exact HO595.out)) k_ hn_)), Or.elim hk_ (fun hs_ => Or.elim hs_ (fun hs_ => hs_.2.2.2.1) (fun hs_ => ((Kd.R_types (Kd.R_types (Kd.R_types (Kd.R_apart' (Kd.R_apart' (HO_585001.out) (Kd.R_typed HO590.out) (by decide)) (Kd.R_typed HO595.out) (by decide)) BK577.out (by decide)) BK584.out (by decide)) BK606.out (by decide)).1 k_ hs_.symm).1.1.2)) (fun hn_ => (Kd.freshB (g := gb577) (o := .cells #[.slice A0_0 l0_0.length c0_0, .slice A0_1 l0_1.length c0_1] 25 (0, 0)) (by (with_reducible repeat (first | refine blk_drewN ?_ _ | refine blk_drew ?_ | refine blk_alloc ?_ _)); exact BK577.out) k_ hn_)), Or.elim hk_ (fun hs_ => Or.elim hs_ (fun hs_ => hs_.2.2.2.2.1) (fun hs_ => ((Kd.R_types (Kd.R_types (Kd.R_types (Kd.R_apart' (Kd.R_apart' (HO_585001.out) (Kd.R_typed HO590.out) (by decide)) (Kd.R_typed HO595.out) (by decide)) BK577.out (by decide)) BK584.out (by decide)) BK606.out (by decide)).1 k_ hs_.symm).1.2)) (fun hn_ => (Kd.freshB (g := gb584) (o := .cells #[.slice Ao11 t578.length co11, .slice Ao14 t581.length co14] 29 (0, 0)) (by (with_reducible repeat (first | refine blk_drewN ?_ _ | refine blk_drew ?_ | refine blk_alloc ?_ _)); exact BK584.out) k_ hn_)), Or.elim hk_ (fun hs_ => Or.elim hs_ (fun hs_ => hs_.2.2.2.2.2) (fun hs_ => ((Kd.R_types (Kd.R_types (Kd.R_types (Kd.R_apart' (Kd.R_apart' (HO_585001.out) (Kd.R_typed HO590.out) (by decide)) (Kd.R_typed HO595.out) (by decide)) BK577.out (by decide)) BK584.out (by decide)) BK606.out (by decide)).1 k_ hs_.symm).2)) (fun hn_ => (Kd.freshB (g := gb606) (o := .cells #[.slice Ao54 t598.length co54, .slice Ao58 t601.length co58] 25 (0, 0)) (by (with_reducible repeat (first | refine blk_drewN ?_ _ | refine blk_drew ?_ | refine blk_alloc ?_ _)); exact BK606.out) k_ hn_))⟩)) (below_size (by repeat (first | (with_reducible first | exact HB.out | apply below_alloc | apply pw_below_drewN | apply below_drew1 | refine below_set ?_ GE577.out | refine below_set ?_ GE584.out | refine below_set ?_ GE606.out) | exact HB.out)))); have n8_ := Aside0.mk (blk_below (g := gb577) (o := .cells #[.slice A0_0 l0_0.length c0_0, .slice A0_1 l0_1.length c0_1] 25 (0, 0)) (by (with_reducible repeat (first | refine blk_drewN ?_ _ | refine blk_drew ?_ | refine blk_alloc ?_ _)); exact BK577.out) hb); have n9_ := Aside0.mk (blk_below (g := gb584) (o := .cells #[.slice Ao11 t578.length co11, .slice Ao14 t581.length co14] 29 (0, 0)) (by (with_reducible repeat (first | refine blk_drewN ?_ _ | refine blk_drew ?_ | refine blk_alloc ?_ _)); exact BK584.out) hb); have n10_ := Aside0.mk (blk_below (g := gb606) (o := .cells #[.slice Ao54 t598.length co54, .slice Ao58 t601.length co58] 25 (0, 0)) (by (with_reducible repeat (first | refine blk_drewN ?_ _ | refine blk_drew ?_ | refine blk_alloc ?_ _)); exact BK606.out) hb); have n11_ := Aside0.mk (below_step (by repeat (first | (with_reducible first | exact HB.out | apply below_alloc | apply pw_below_drewN | apply below_drew1 | refine below_set ?_ GE577.out | refine below_set ?_ GE584.out | refine below_set ?_ GE606.out) | exact HB.out)) hb); clear HO_585000; clear HO_585001; clear HO590; clear HO595; clear HO600; clear HO603; clear BK577; clear BK584; clear BK606; clear HB; have HO_585000 := n0_; have HO_585001 := n1_; have HO590 := n2_; have HO595 := n3_; have HO600 := n4_; have HO603 := n5_; have HO609 := n6_; have HO612 := n7_; have BK577 := n8_; have BK584 := n9_; have BK606 := n10_; have HB := n11_; clear n0_ n1_ n2_ n3_ n4_ n5_ n6_ n7_ n8_ n9_ n10_ n11_; (try clear hb); (try clear hb2); (try clear hk); (try clear hi); (try clear ho0); (try clear ho1)) | ((with_reducible refine gate_dst (N := 21) rfl ?_); (try (refine gate_guard (by rfl) ?_; dsimp only)); refine box_event ?hg (N := 21) ?hd (cs := #[.slice none 0 0, .slice none 0 0]) (t := 29) ?hr ?_; (case hd => rfl); (case hg => rfl); (case hr => first | (go_simp; done) | (go_simp; rfl)); intro gb615 hg w62 hbox hb; have n0_ := Aside0.mk (Kd.V_below (Kd.V_elderB (by (with_reducible repeat (first | apply Kd.V_alloc | apply Kd.V_drewN | apply Kd.V_drew)); exact HO_585000.out) gb615 (Nat.le_of_eq hg.symm)) hb); have n1_ := Aside0.mk (Kd.R_below (by (with_reducible repeat (first | apply Kd.R_alloc | apply Kd.R_drewN | apply Kd.R_drew)); exact HO_585001.out) hb); have n2_ := Aside0.mk (Kd.R_below (by (with_reducible repeat (first | apply Kd.R_alloc | apply Kd.R_drewN | apply Kd.R_drew)); exact HO590.out) hb); have n3_ := Aside0.mk (Kd.R_below (by (with_reducible repeat (first | apply Kd.R_alloc | apply Kd.R_drewN | apply Kd.R_drew)); exact HO595.out) hb); have n4_ := Aside0.mk (Kd.V_below (Kd.V_elderB (by (with_reducible repeat (first | apply Kd.V_alloc | apply Kd.V_drewN | apply Kd.V_drew)); exact HO600.out) gb615 (Nat.le_of_eq hg.symm)) hb); have n5_ := Aside0.mk (Kd.V_below (Kd.V_elderB (by (with_reducible repeat (first | apply Kd.V_alloc | apply Kd.V_drewN | apply Kd.V_drew)); exact HO603.out) gb615 (Nat.le_of_eq hg.symm)) hb); have n6_ := Aside0.mk (Kd.V_below (Kd.V_elderB (by (with_reducible repeat (first | apply Kd.V_alloc | apply Kd.V_drewN | apply Kd.V_drew)); exact HO609.out) gb615 (Nat.le_of_eq hg.symm)) hb); have n7_ := Aside0.mk (Kd.V_below (Kd.V_elderB (by (with_reducible repeat (first | apply Kd.V_alloc | apply Kd.V_drewN | apply Kd.V_drew)); exact HO612.out) gb615 (Nat.le_of_eq hg.symm)) hb); have n8_ := Aside0.mk (blk_below (g := gb577) (o := .cells #[.slice A0_0 l0_0.length c0_0, .slice A0_1 l0_1.length c0_1] 25 (0, 0)) (by (with_reducible repeat (first | refine blk_drewN ?_ _ | refine blk_drew ?_ | refine blk_alloc ?_ _)); exact BK577.out) hb); have n9_ := Aside0.mk (blk_below (g := gb584) (o := .cells #[.slice Ao11 t578.length co11, .slice Ao14 t581.length co14] 29 (0, 0)) (by (with_reducible repeat (first | refine blk_drewN ?_ _ | refine blk_drew ?_ | refine blk_alloc ?_ _)); exact BK584.out) hb); have n10_ := Aside0.mk (blk_below (g := gb606) (o := .cells #[.slice Ao54 t598.length co54, .slice Ao58 t601.length co58] 25 (0, 0)) (by (with_reducible repeat (first | refine blk_drewN ?_ _ | refine blk_drew ?_ | refine blk_alloc ?_ _)); exact BK606.out) hb); have n11_ := Aside0.mk (below_step (by repeat (first | (with_reducible first | exact HB.out | apply below_alloc | apply pw_below_drewN | apply below_drew1 | refine below_set ?_ GE577.out | refine below_set ?_ GE584.out | refine below_set ?_ GE606.out) | exact HB.out)) hb); have n12_ := Aside0.mk (hbox); have n13_ := Aside0.mk ((by rw [hg]; exact (below_size (by repeat (first | (with_reducible first | exact HB.out | apply below_alloc | apply pw_below_drewN | apply below_drew1 | refine below_set ?_ GE577.out | refine below_set ?_ GE584.out | refine below_set ?_ GE606.out) | exact HB.out))) : w.heap.size ≤ gb615)); have n14_ := Aside0.mk ((by rw [hg]; exact (below_size (by repeat (first | (with_reducible first | exact HB.out | apply below_alloc | apply pw_below_drewN | apply below_drew1 | refine below_set ?_ GE577.out | refine below_set ?_ GE584.out | refine below_set ?_ GE606.out) | exact HB.out))) : w.heap.size ≤ gb615)); have n15_ := Aside0.mk ((by rw [hg]; exact Nat.ne_of_lt (blk_lt (g := gb577) (o := .cells #[.slice A0_0 l0_0.length c0_0, .slice A0_1 l0_1.length c0_1] 25 (0, 0)) (by (with_reducible repeat (first | refine blk_drewN ?_ _ | refine blk_drew ?_ | refine blk_alloc ?_ _)); exact BK577.out)) : gb577 ≠ gb615)); have n16_ := Aside0.mk ((by rw [hg]; exact Nat.ne_of_gt (blk_lt (g := gb577) (o := .cells #[.slice A0_0 l0_0.length c0_0, .slice A0_1 l0_1.length c0_1] 25 (0, 0)) (by (with_reducible repeat (first | refine blk_drewN ?_ _ | refine blk_drew ?_ | refine blk_alloc ?_ _)); exact BK577.out)) : gb615 ≠ gb577)); have n17_ := Aside0.mk ((by rw [hg]; exact Nat.ne_of_lt (blk_lt (g := gb584) (o := .cells #[.slice Ao11 t578.length co11, .slice Ao14 t581.length co14] 29 (0, 0)) (by (with_reducible repeat (first | refine blk_drewN ?_ _ | refine blk_drew ?_ | refine blk_alloc ?_ _)); exact BK584.out)) : gb584 ≠ gb615)); have n18_ := Aside0.mk ((by rw [hg]; exact Nat.ne_of_gt (blk_lt (g := gb584) (o := .cells #[.slice Ao11 t578.length co11, .slice Ao14 t581.length co14] 29 (0, 0)) (by (with_reducible repeat (first | refine blk_drewN ?_ _ | refine blk_drew ?_ | refine blk_alloc ?_ _)); exact BK584.out)) : gb615 ≠ gb584)); have n19_ := Aside0.mk ((by rw [hg]; exact Nat.ne_of_lt (blk_lt (g := gb606) (o := .cells #[.slice Ao54 t598.length co54, .slice Ao58 t601.length co58] 25 (0, 0)) (by (with_reducible repeat (first | refine blk_drewN ?_ _ | refine blk_drew ?_ | refine blk_alloc ?_ _)); exact BK606.out)) : gb606 ≠ gb615)); have n20_ := Aside0.mk ((by rw [hg]; exact Nat.ne_of_gt (blk_lt (g := gb606) (o := .cells #[.slice Ao54 t598.length co54, .slice Ao58 t601.length co58] 25 (0, 0)) (by (with_reducible repeat (first | refine blk_drewN ?_ _ | refine blk_drew ?_ | refine blk_alloc ?_ _)); exact BK606.out)) : gb615 ≠ gb606)); clear HO_585000; clear HO_585001; clear HO590; clear HO595; clear HO600; clear HO603; clear HO609; clear HO612; clear BK577; clear BK584; clear BK606; clear HB; have HO_585000 := n0_; have HO_585001 := n1_; have HO590 := n2_; have HO595 := n3_; have HO600 := n4_; have HO603 := n5_; have HO609 := n6_; have HO612 := n7_; have BK577 := n8_; have BK584 := n9_; have BK606 := n10_; have HB := n11_; have BK615 := n12_; have GW615 := n13_; have GE615 := n14_; have NB577_615 := n15_; have NB615_577 := n16_; have NB584_615 := n17_; have NB615_584 := n18_; have NB606_615 := n19_; have NB615_606 := n20_; clear n0_ n1_ n2_ n3_ n4_ n5_ n6_ n7_ n8_ n9_ n10_ n11_ n12_ n13_ n14_ n15_ n16_ n17_ n18_ n19_ n20_; clear hb hbox hg; obtain ⟨Ao63, co63, eo63⟩ := Kd.V_slice HO609.out; subst eo63; have hnb64 := NB615_577.out; have hnc64 := NB577_615.out; have hnb65 := NB615_584.out; have hnc65 := NB584_615.out; have hnb66 := NB615_606.out; have hnc66 := NB606_615.out; have hcz67_0 : w62.cell? ⟨gb615, 0, none⟩ = some (.slice none 0 0) := (blk_cell BK615.out 0).trans rfl; have hcz67_1 : w62.cell? ⟨gb615, 1, none⟩ = some (.slice none 0 0) := (blk_cell BK615.out 1).trans rfl; have hfz67_0 := blk_frozen BK615.out 0; have hfz67_1 := blk_frozen BK615.out 1; obtain ⟨Ao68, co68, eo68⟩ := Kd.V_slice HO612.out; subst eo68))
                          have n0_ : Aside0 (Kd.V Kd.string 9 ((w62.setCell ⟨gb615, 0, none⟩ (.slice Ao63 t607.length co63)).setCell ⟨gb615, 1, none⟩ (.slice Ao68 t610.length co68)) w.heap.size (fun k_ => some k_ ≠ (.slice Ao14 t581.length co14 : Value).ownBlock ∧ some k_ ≠ (v589 : Value).ownBlock ∧ some k_ ≠ (v594 : Value).ownBlock ∧ k_ ≠ gb577 ∧ k_ ≠ gb584 ∧ k_ ≠ gb606 ∧ k_ ≠ gb615) (.slice Ao11 t578.length co11) t578) := ⟨by (with_reducible repeat (first | apply Kd.V_alloc | apply Kd.V_drewN | apply Kd.V_drew)); exact Kd.V_mono (Kd.V_far (p := ⟨gb615, 1, none⟩) (Kd.V_far (p := ⟨gb615, 0, none⟩) (Kd.V_mono HO_585000.out (fun k_ hk => (⟨hk, hk.2⟩ : _ ∧ k_ ≠ gb615))) (fun _ hk => hk.2) (.slice Ao63 t607.length co63)) (fun _ hk => hk.2) (.slice Ao68 t610.length co68)) (fun _ hk => ⟨hk.1.1.1, ⟨hk.1.1.2.1, ⟨hk.1.1.2.2.1, ⟨hk.1.1.2.2.2.1, ⟨hk.1.1.2.2.2.2.1, ⟨hk.1.1.2.2.2.2.2, hk.1.2⟩⟩⟩⟩⟩⟩)⟩
                          have n1_ : Aside0 (Kd.R k77 77 ((w62.setCell ⟨gb615, 0, none⟩ (.slice Ao63 t607.length co63)).setCell ⟨gb615, 1, none⟩ (.slice Ao68 t610.length co68)) w.heap.size (fun _ => True) (.slice Ao14 t581.length co14) t581) := ⟨by (with_reducible repeat (first | apply Kd.R_alloc | apply Kd.R_drewN | apply Kd.R_drew)); exact Kd.R_mono (Kd.R_far (p := ⟨gb615, 1, none⟩) (Kd.R_far (p := ⟨gb615, 0, none⟩) (Kd.R_types HO_585001.out BK615.out (by decide)) (fun _ hk => hk.2) (.slice Ao63 t607.length co63)) (fun _ hk => hk.2) (.slice Ao68 t610.length co68)) (fun _ hk => trivial)⟩
                          have n2_ : Aside0 (Kd.R Kd.string 9 ((w62.setCell ⟨gb615, 0, none⟩ (.slice Ao63 t607.length co63)).setCell ⟨gb615, 1, none⟩ (.slice Ao68 t610.length co68)) w.heap.size (fun k_ => some k_ ≠ (v594 : Value).ownBlock) v589 t588) := ⟨by (with_reducible repeat (first | apply Kd.R_alloc | apply Kd.R_drewN | apply Kd.R_drew)); exact Kd.R_mono (Kd.R_far (p := ⟨gb615, 1, none⟩) (Kd.R_far (p := ⟨gb615, 0, none⟩) (Kd.R_types HO590.out BK615.out (by decide)) (fun _ hk => hk.2) (.slice Ao63 t607.length co63)) (fun _ hk => hk.2) (.slice Ao68 t610.length co68)) (fun _ hk => hk.1)⟩
                          have n3_ : Aside0 (Kd.R Kd.string 9 ((w62.setCell ⟨gb615, 0, none⟩ (.slice Ao63 t607.length co63)).setCell ⟨gb615, 1, none⟩ (.slice Ao68 t610.length co68)) w.heap.size (fun k_ => some k_ ≠ (v589 : Value).ownBlock) v594 t593) := ⟨by (with_reducible repeat (first | apply Kd.R_alloc | apply Kd.R_drewN | apply Kd.R_drew)); exact Kd.R_mono (Kd.R_far (p := ⟨gb615, 1, none⟩) (Kd.R_far (p := ⟨gb615, 0, none⟩) (Kd.R_types HO595.out BK615.out (by decide)) (fun _ hk => hk.2) (.slice Ao63 t607.length co63)) (fun _ hk => hk.2) (.slice Ao68 t610.length co68)) (fun _ hk => hk.1)⟩
                          have n4_ : Aside0 (Kd.V Kd.string 9 ((w62.setCell ⟨gb615, 0, none⟩ (.slice Ao63 t607.length co63)).setCell ⟨gb615, 1, none⟩ (.slice Ao68 t610.length co68)) w.heap.size (fun k_ => some k_ ≠ (.slice Ao14 t581.length co14 : Value).ownBlock ∧ some k_ ≠ (v589 : Value).ownBlock ∧ some k_ ≠ (v594 : Value).ownBlock ∧ k_ ≠ gb577 ∧ k_ ≠ gb584 ∧ k_ ≠ gb606 ∧ k_ ≠ gb615) (.slice Ao54 t598.length co54) t598) := ⟨by (with_reducible repeat (first | apply Kd.V_alloc | apply Kd.V_drewN | apply Kd.V_drew)); exact Kd.V_mono (Kd.V_far (p := ⟨gb615, 1, none⟩) (Kd.V_far (p := ⟨gb615, 0, none⟩) (Kd.V_mono HO600.out (fun k_ hk => (⟨hk, hk.2⟩ : _ ∧ k_ ≠ gb615))) (fun _ hk => hk.2) (.slice Ao63 t607.length co63)) (fun _ hk => hk.2) (.slice Ao68 t610.length co68)) (fun _ hk => ⟨hk.1.1.1, ⟨hk.1.1.2.1, ⟨hk.1.1.2.2.1, ⟨hk.1.1.2.2.2.1, ⟨hk.1.1.2.2.2.2.1, ⟨hk.1.1.2.2.2.2.2, hk.1.2⟩⟩⟩⟩⟩⟩)⟩
                          have n5_ : Aside0 (Kd.V k76 76 ((w62.setCell ⟨gb615, 0, none⟩ (.slice Ao63 t607.length co63)).setCell ⟨gb615, 1, none⟩ (.slice Ao68 t610.length co68)) w.heap.size (fun k_ => some k_ ≠ (.slice Ao14 t581.length co14 : Value).ownBlock ∧ some k_ ≠ (v589 : Value).ownBlock ∧ some k_ ≠ (v594 : Value).ownBlock ∧ k_ ≠ gb577 ∧ k_ ≠ gb584 ∧ k_ ≠ gb606 ∧ k_ ≠ gb615) (.slice Ao58 t601.length co58) t601) := ⟨by (with_reducible repeat (first | apply Kd.V_alloc | apply Kd.V_drewN | apply Kd.V_drew)); exact Kd.V_mono (Kd.V_far (p := ⟨gb615, 1, none⟩) (Kd.V_far (p := ⟨gb615, 0, none⟩) (Kd.V_mono HO603.out (fun k_ hk => (⟨hk, hk.2⟩ : _ ∧ k_ ≠ gb615))) (fun _ hk => hk.2) (.slice Ao63 t607.length co63)) (fun _ hk => hk.2) (.slice Ao68 t610.length co68)) (fun _ hk => ⟨hk.1.1.1, ⟨hk.1.1.2.1, ⟨hk.1.1.2.2.1, ⟨hk.1.1.2.2.2.1, ⟨hk.1.1.2.2.2.2.1, ⟨hk.1.1.2.2.2.2.2, hk.1.2⟩⟩⟩⟩⟩⟩)⟩
                          have n6_ : Aside0 (Kd.V Kd.string 9 ((w62.setCell ⟨gb615, 0, none⟩ (.slice Ao63 t607.length co63)).setCell ⟨gb615, 1, none⟩ (.slice Ao68 t610.length co68)) w.heap.size (fun k_ => some k_ ≠ (v589 : Value).ownBlock ∧ some k_ ≠ (v594 : Value).ownBlock ∧ k_ ≠ gb577 ∧ k_ ≠ gb584 ∧ k_ ≠ gb606 ∧ k_ ≠ gb615) (.slice Ao63 t607.length co63) t607) := ⟨by (with_reducible repeat (first | apply Kd.V_alloc | apply Kd.V_drewN | apply Kd.V_drew)); exact Kd.V_mono (Kd.V_far (p := ⟨gb615, 1, none⟩) (Kd.V_far (p := ⟨gb615, 0, none⟩) (Kd.V_mono HO609.out (fun k_ hk => (⟨hk, hk.2⟩ : _ ∧ k_ ≠ gb615))) (fun _ hk => hk.2) (.slice Ao63 t607.length co63)) (fun _ hk => hk.2) (.slice Ao68 t610.length co68)) (fun _ hk => ⟨hk.1.1.1, ⟨hk.1.1.2.1, ⟨hk.1.1.2.2.1, ⟨hk.1.1.2.2.2.1, ⟨hk.1.1.2.2.2.2, hk.1.2⟩⟩⟩⟩⟩)⟩
                          have n7_ : Aside0 (Kd.V k77 77 ((w62.setCell ⟨gb615, 0, none⟩ (.slice Ao63 t607.length co63)).setCell ⟨gb615, 1, none⟩ (.slice Ao68 t610.length co68)) w.heap.size (fun k_ => some k_ ≠ (v589 : Value).ownBlock ∧ some k_ ≠ (v594 : Value).ownBlock ∧ k_ ≠ gb577 ∧ k_ ≠ gb584 ∧ k_ ≠ gb606 ∧ k_ ≠ gb615) (.slice Ao68 t610.length co68) t610) := ⟨by (with_reducible repeat (first | apply Kd.V_alloc | apply Kd.V_drewN | apply Kd.V_drew)); exact Kd.V_mono (Kd.V_far (p := ⟨gb615, 1, none⟩) (Kd.V_far (p := ⟨gb615, 0, none⟩) (Kd.V_mono HO612.out (fun k_ hk => (⟨hk, hk.2⟩ : _ ∧ k_ ≠ gb615))) (fun _ hk => hk.2) (.slice Ao63 t607.length co63)) (fun _ hk => hk.2) (.slice Ao68 t610.length co68)) (fun _ hk => ⟨hk.1.1.1, ⟨hk.1.1.2.1, ⟨hk.1.1.2.2.1, ⟨hk.1.1.2.2.2.1, ⟨hk.1.1.2.2.2.2, hk.1.2⟩⟩⟩⟩⟩)⟩
                          have n8_ : Aside0 (((w62.setCell ⟨gb615, 0, none⟩ (.slice Ao63 t607.length co63)).setCell ⟨gb615, 1, none⟩ (.slice Ao68 t610.length co68)).heap[gb577]? = some (.cells #[.slice A0_0 l0_0.length c0_0, .slice A0_1 l0_1.length c0_1] 25 (0, 0))) := ⟨by (with_reducible repeat (first | refine blk_drewN ?_ _ | refine blk_drew ?_ | refine blk_alloc ?_ _)); refine blk_far ?_ NB577_615.out _; (with_reducible repeat (first | refine blk_drewN ?_ _ | refine blk_drew ?_ | refine blk_alloc ?_ _)); refine blk_far ?_ NB577_615.out _; (with_reducible repeat (first | refine blk_drewN ?_ _ | refine blk_drew ?_ | refine blk_alloc ?_ _)); exact BK577.out⟩
                          have n9_ : Aside0 (((w62.setCell ⟨gb615, 0, none⟩ (.slice Ao63 t607.length co63)).setCell ⟨gb615, 1, none⟩ (.slice Ao68 t610.length co68)).heap[gb584]? = some (.cells #[.slice Ao11 t578.length co11, .slice Ao14 t581.length co14] 29 (0, 0))) := ⟨by (with_reducible repeat (first | refine blk_drewN ?_ _ | refine blk_drew ?_ | refine blk_alloc ?_ _)); refine blk_far ?_ NB584_615.out _; (with_reducible repeat (first | refine blk_drewN ?_ _ | refine blk_drew ?_ | refine blk_alloc ?_ _)); refine blk_far ?_ NB584_615.out _; (with_reducible repeat (first | refine blk_drewN ?_ _ | refine blk_drew ?_ | refine blk_alloc ?_ _)); exact BK584.out⟩
                          have n10_ : Aside0 (((w62.setCell ⟨gb615, 0, none⟩ (.slice Ao63 t607.length co63)).setCell ⟨gb615, 1, none⟩ (.slice Ao68 t610.length co68)).heap[gb606]? = some (.cells #[.slice Ao54 t598.length co54, .slice Ao58 t601.length co58] 25 (0, 0))) := ⟨by (with_reducible repeat (first | refine blk_drewN ?_ _ | refine blk_drew ?_ | refine blk_alloc ?_ _)); refine blk_far ?_ NB606_615.out _; (with_reducible repeat (first | refine blk_drewN ?_ _ | refine blk_drew ?_ | refine blk_alloc ?_ _)); refine blk_far ?_ NB606_615.out _; (with_reducible repeat (first | refine blk_drewN ?_ _ | refine blk_drew ?_ | refine blk_alloc ?_ _)); exact BK606.out⟩
                          have n11_ : Aside0 (((w62.setCell ⟨gb615, 0, none⟩ (.slice Ao63 t607.length co63)).setCell ⟨gb615, 1, none⟩ (.slice Ao68 t610.length co68)).heap[gb615]? = some (.cells #[.slice Ao63 t607.length co63, .slice Ao68 t610.length co68] 29 (0, 0))) := ⟨by (with_reducible repeat (first | refine blk_drewN ?_ _ | refine blk_drew ?_ | refine blk_alloc ?_ _)); refine blk_put (cs := #[.slice Ao63 t607.length co63, .slice none 0 0]) ?_ 1 _ rfl; (with_reducible repeat (first | refine blk_drewN ?_ _ | refine blk_drew ?_ | refine blk_alloc ?_ _)); refine blk_put (cs := #[.slice none 0 0, .slice none 0 0]) ?_ 0 _ rfl; (with_reducible repeat (first | refine blk_drewN ?_ _ | refine blk_drew ?_ | refine blk_alloc ?_ _)); exact BK615.out⟩
                          have n12_ : Aside0 (Below w.heap.size w ((w62.setCell ⟨gb615, 0, none⟩ (.slice Ao63 t607.length co63)).setCell ⟨gb615, 1, none⟩ (.slice Ao68 t610.length co68))) := ⟨by repeat (first | (with_reducible first | exact HB.out | apply below_alloc | apply pw_below_drewN | apply below_drew1 | refine below_set ?_ GE577.out | refine below_set ?_ GE584.out | refine below_set ?_ GE606.out | refine below_set ?_ GE615.out) | exact HB.out)⟩
                          (try clear HO_585000)
                          (try clear HO_585001)
                          (try clear HO590)
                          (try clear HO595)
                          (try clear HO600)
                          (try clear HO603)
                          (try clear HO609)
                          (try clear HO612)
                          (try clear BK577)
                          (try clear BK584)
                          (try clear BK606)
                          (try clear BK615)
                          (try clear HB)
                          generalize ((w62.setCell ⟨gb615, 0, none⟩ (.slice Ao63 t607.length co63)).setCell ⟨gb615, 1, none⟩ (.slice Ao68 t610.length co68)) = w69 at n0_ n1_ n2_ n3_ n4_ n5_ n6_ n7_ n8_ n9_ n10_ n11_ n12_ ⊢
                          have HO_585000 := n0_
                          have HO_585001 := n1_
                          have HO590 := n2_
                          have HO595 := n3_
                          have HO600 := n4_
                          have HO603 := n5_
                          have HO609 := n6_
                          have HO612 := n7_
                          have BK577 := n8_
                          have BK584 := n9_
                          have BK606 := n10_
                          have BK615 := n11_
                          have HB := n12_
                          clear n0_ n1_ n2_ n3_ n4_ n5_ n6_ n7_ n8_ n9_ n10_ n11_ n12_
                          have n0_ := Aside0.mk (Kd.V_drew HO_585000.out)
                          have n1_ := Aside0.mk (Kd.R_drew HO_585001.out)
                          have n2_ := Aside0.mk (Kd.R_drew HO590.out)
                          have n3_ := Aside0.mk (Kd.R_drew HO595.out)
                          have n4_ := Aside0.mk (Kd.V_drew HO600.out)
                          have n5_ := Aside0.mk (Kd.V_drew HO603.out)
                          have n6_ := Aside0.mk (Kd.V_drew HO609.out)
                          have n7_ := Aside0.mk (Kd.V_drew HO612.out)
                          have n8_ := Aside0.mk (blk_drew BK577.out)
                          have n9_ := Aside0.mk (blk_drew BK584.out)
                          have n10_ := Aside0.mk (blk_drew BK606.out)
                          have n11_ := Aside0.mk (blk_drew BK615.out)
                          have n12_ := Aside0.mk (below_drew1 HB.out)
                          clear HO_585000
                          clear HO_585001
                          clear HO590
                          clear HO595
                          clear HO600
                          clear HO603
                          clear HO609
                          clear HO612
                          clear BK577
                          clear BK584
                          clear BK606
                          clear BK615
                          clear HB
                          have HO_585000 := n0_
                          have HO_585001 := n1_
                          have HO590 := n2_
                          have HO595 := n3_
                          have HO600 := n4_
                          have HO603 := n5_
                          have HO609 := n6_
                          have HO612 := n7_
                          have BK577 := n8_
                          have BK584 := n9_
                          have BK606 := n10_
                          have BK615 := n11_
                          have HB := n12_
                          clear n0_ n1_ n2_ n3_ n4_ n5_ n6_ n7_ n8_ n9_ n10_ n11_ n12_
                          obtain ⟨Ao71, co71, eo71⟩ := Kd.R_slice HO590.out
                          (first | subst eo71 | (injection eo71 with f1_ f2_ f3_; have f4_ := f1_.symm; have f5_ := f3_.symm; clear f1_ f2_ f3_; subst f4_; subst f5_))
                          obtain ⟨Ao72, co72, eo72⟩ := Kd.R_slice HO595.out
                          (first | subst eo72 | (injection eo72 with f1_ f2_ f3_; have f4_ := f1_.symm; have f5_ := f3_.symm; clear f1_ f2_ f3_; subst f4_; subst f5_))
                          refine start_ (n := 33) (S := fun w' => w'.cell? ⟨gb606, 0, none⟩ = some (.slice Ao54 t598.length co54) ∧ w'.cell? ⟨gb606, 1, none⟩ = some (.slice Ao58 t601.length co58) ∧ w'.cell? ⟨gb615, 0, none⟩ = some (.slice Ao63 t607.length co63) ∧ w'.cell? ⟨gb615, 1, none⟩ = some (.slice Ao68 t610.length co68)) (ds := []) #[false, false, false, false, false, false, false, false, false, false, false, false, false, false, false, false, false, false, false, false, false, false, false, false, false, false, false, false, false, false, false, false, false] (by kernel_rfl) rfl rfl ⟨(blk_cell BK606.out 0).trans rfl, (blk_cell BK606.out 1).trans rfl, (blk_cell BK615.out 0).trans rfl, (blk_cell BK615.out 1).trans rfl⟩ (fun hHeld => ?_); refine with_tabW weirkeeperlaw08_JournalTells.tab14 weirkeeperlaw08_JournalTells.bits14 (fun HT_ HW_ => ?_)
                          generalize w69.drew = w70 at HO_585000 HO_585001 HO590 HO595 HO600 HO603 HO609 HO612 BK577 BK584 BK606 BK615 HB hHeld ⊢
                          refine pure_ (i := 0) (N := some 85) (v := ?_) (a' := ?_) #[true, false, false, false, false, false, false, false, false, false, false, false, false, false, false, false, false, false, false, false, false, false, false, false, false, false, false, false, false, false, false, false, false] rfl rfl (any_of HT_.out (by kernel_rfl)) (fun _ _ _ h => h) (Or.inl ⟨by rfl, ?_⟩) ?_ ?_
                          rotate_left
                          · intro w'
                            go_simp
                            with_reducible rfl
                          rotate_left
                          · simp only [Act.put, List.setIfInBounds_toArray, List.set_cons_zero, List.set_cons_succ, i64_w, i32_w]
                            rfl
                          refine pure_ (i := 1) (N := some 86) (v := ?_) (a' := ?_) #[true, true, false, false, false, false, false, false, false, false, false, false, false, false, false, false, false, false, false, false, false, false, false, false, false, false, false, false, false, false, false, false, false] rfl rfl (any_of HT_.out (by kernel_rfl)) (fun _ _ _ h => h) (Or.inl ⟨by rfl, ?_⟩) ?_ ?_
                          rotate_left
                          · intro w'
                            go_simp
                            with_reducible rfl
                          rotate_left
                          · simp only [Act.put, List.setIfInBounds_toArray, List.set_cons_zero, List.set_cons_succ, i64_w, i32_w]
                            rfl
                          refine one_ (i := 2) (N := some 87) #[true, true, true, false, false, false, false, false, false, false, false, false, false, false, false, false, false, false, false, false, false, false, false, false, false, false, false, false, false, false, false, false, false] rfl rfl (one_of HT_.out (by kernel_rfl)) (by decide) (fun K hK => ?_)
                          refine goes_ Try.func32 (by kernel_rfl) rfl #[.slice Ao71 t588.length co71, .slice Ao72 t593.length co72] (by rfl) rfl rfl (by (try simp only [List.map_toArray, List.map_cons, List.map_nil]); first | done | rfl | (simp only [List.length_drop, List.length_take]; rfl)) ?_
                          with_reducible refine (weirkeeperref01_Same.calls k2 _ _ t588 _ _ t593 true _ ?side1 ?side2 ?side3 ?side4 A36.out).mono ?_
                          (case side1 => repeat (first | exact (Kd.R_reads' HO590.out).2.2 | (with_reducible refine Kd.C_alloc ?_ _) | (with_reducible refine Kd.C_drewN ?_ _) | (with_reducible refine Kd.C_drew ?_)))
                          (case side2 => exact (Kd.R_reads' HO590.out).2.1)
                          (case side3 => repeat (first | exact (Kd.R_reads' HO595.out).2.2 | (with_reducible refine Kd.C_alloc ?_ _) | (with_reducible refine Kd.C_drewN ?_ _) | (with_reducible refine Kd.C_drew ?_)))
                          (case side4 => exact (Kd.R_reads' HO595.out).2.1)
                          rintro e w' ⟨rfl, ⟨nd, rfl⟩⟩
                          refine ⟨_, rfl, ?_⟩
                          refine hK.out _ _ ⟨(blk_cell BK606.out 0).trans rfl, (blk_cell BK606.out 1).trans rfl, (blk_cell BK615.out 0).trans rfl, (blk_cell BK615.out 1).trans rfl⟩ (fun hHeld => ?_)
                          clear hK K
                          refine norm_ (a' := ?_) ?_ ?_
                          rotate_left
                          · show Act.put _ (some 87) _ = _
                            simp only [Act.put, List.setIfInBounds_toArray, List.set_cons_zero, List.set_cons_succ, i64_w, i32_w]
                            rfl
                          refine pure_ (i := 3) (N := some 88) (v := ?_) (a' := ?_) #[true, true, true, true, false, false, false, false, false, false, false, false, false, false, false, false, false, false, false, false, false, false, false, false, false, false, false, false, false, false, false, false, false] rfl rfl (any_of HT_.out (by kernel_rfl)) (fun _ _ _ h => h) (Or.inl ⟨by rfl, ?_⟩) ?_ ?_
                          rotate_left
                          · intro w'
                            go_simp
                            with_reducible rfl
                          rotate_left
                          · simp only [Act.put, List.setIfInBounds_toArray, List.set_cons_zero, List.set_cons_succ, i64_w, i32_w]
                            rfl
                          refine pure_ (i := 4) (N := some 89) (v := ?_) (a' := ?_) #[true, true, true, true, true, false, false, false, false, false, false, false, false, false, false, false, false, false, false, false, false, false, false, false, false, false, false, false, false, false, false, false, false] rfl rfl (any_of HT_.out (by kernel_rfl)) (fun _ _ _ h => h) (Or.inl ⟨by rfl, ?_⟩) ?_ ?_
                          rotate_left
                          · intro w'
                            go_simp
                            with_reducible rfl
                          rotate_left
                          · simp only [Act.put, List.setIfInBounds_toArray, List.set_cons_zero, List.set_cons_succ, i64_w, i32_w]
                            rfl
                          refine pure_ (i := 5) (N := some 90) (v := ?_) (a' := ?_) #[true, true, true, true, true, true, false, false, false, false, false, false, false, false, false, false, false, false, false, false, false, false, false, false, false, false, false, false, false, false, false, false, false] rfl rfl (any_of HT_.out (by kernel_rfl)) (fun _ _ _ h => h) (Or.inl ⟨by rfl, ?_⟩) ?_ ?_
                          rotate_left
                          · intro w'
                            go_simp
                            with_reducible rfl
                          rotate_left
                          · simp only [Act.put, List.setIfInBounds_toArray, List.set_cons_zero, List.set_cons_succ, i64_w, i32_w]
                            rfl
                          refine pure_ (i := 6) (N := some 91) (v := ?_) (a' := ?_) #[true, true, true, true, true, true, true, false, false, false, false, false, false, false, false, false, false, false, false, false, false, false, false, false, false, false, false, false, false, false, false, false, false] rfl rfl (any_of HT_.out (by kernel_rfl)) (fun _ _ _ h => h) (Or.inl ⟨by rfl, ?_⟩) ?_ ?_
                          rotate_left
                          · intro w'
                            go_simp
                            with_reducible rfl
                          rotate_left
                          · simp only [Act.put, List.setIfInBounds_toArray, List.set_cons_zero, List.set_cons_succ, i64_w, i32_w]
                            rfl
                          refine pure_ (i := 7) (N := some 92) (v := ?_) (a' := ?_) #[true, true, true, true, true, true, true, true, false, false, false, false, false, false, false, false, false, false, false, false, false, false, false, false, false, false, false, false, false, false, false, false, false] rfl rfl (any_of HT_.out (by kernel_rfl)) (fun _ _ _ h => h) (Or.inl ⟨by rfl, ?_⟩) ?_ ?_
                          rotate_left
                          · intro w'
                            go_simp
                            with_reducible rfl
                          rotate_left
                          · simp only [Act.put, List.setIfInBounds_toArray, List.set_cons_zero, List.set_cons_succ, i64_w, i32_w]
                            rfl
                          refine pure_ (i := 8) (N := some 93) (v := ?_) (a' := ?_) #[true, true, true, true, true, true, true, true, true, false, false, false, false, false, false, false, false, false, false, false, false, false, false, false, false, false, false, false, false, false, false, false, false] rfl rfl (any_of HT_.out (by kernel_rfl)) (fun _ _ _ h => h) (Or.inl ⟨by rfl, ?_⟩) ?_ ?_
                          rotate_left
                          · intro w'
                            go_simp
                            with_reducible rfl
                          rotate_left
                          · simp only [Act.put, List.setIfInBounds_toArray, List.set_cons_zero, List.set_cons_succ, i64_w, i32_w]
                            rfl
                          refine pure_ (i := 9) (N := some 94) (v := ?_) (a' := ?_) #[true, true, true, true, true, true, true, true, true, true, false, false, false, false, false, false, false, false, false, false, false, false, false, false, false, false, false, false, false, false, false, false, false] rfl rfl (any_of HT_.out (by kernel_rfl)) (fun _ _ _ h => h) (Or.inl ⟨by rfl, ?_⟩) ?_ ?_
                          rotate_left
                          · intro w'
                            go_simp
                            with_reducible rfl
                          rotate_left
                          · simp only [Act.put, List.setIfInBounds_toArray, List.set_cons_zero, List.set_cons_succ, i64_w, i32_w]
                            rfl
                          refine pure_ (i := 10) (N := some 95) (v := ?_) (a' := ?_) #[true, true, true, true, true, true, true, true, true, true, true, false, false, false, false, false, false, false, false, false, false, false, false, false, false, false, false, false, false, false, false, false, false] rfl rfl (any_of HT_.out (by kernel_rfl)) (fun _ _ _ h => h) (Or.inl ⟨by rfl, ?_⟩) ?_ ?_
                          rotate_left
                          · intro w'
                            go_simp
                            with_reducible rfl
                          rotate_left
                          · simp only [Act.put, List.setIfInBounds_toArray, List.set_cons_zero, List.set_cons_succ, i64_w, i32_w]
                            rfl
                          refine pure_ (i := 11) (N := some 96) (v := ?_) (a' := ?_) #[true, true, true, true, true, true, true, true, true, true, true, true, false, false, false, false, false, false, false, false, false, false, false, false, false, false, false, false, false, false, false, false, false] rfl rfl (any_of HT_.out (by kernel_rfl)) (fun _ _ _ h => h) (Or.inl ⟨by rfl, ?_⟩) ?_ ?_
                          rotate_left
                          · intro w'
                            go_simp
                            with_reducible rfl
                          rotate_left
                          · simp only [Act.put, List.setIfInBounds_toArray, List.set_cons_zero, List.set_cons_succ, i64_w, i32_w]
                            rfl
                          refine pure_ (i := 12) (N := some 97) (v := ?_) (a' := ?_) #[true, true, true, true, true, true, true, true, true, true, true, true, true, false, false, false, false, false, false, false, false, false, false, false, false, false, false, false, false, false, false, false, false] rfl rfl (any_of HT_.out (by kernel_rfl)) (fun _ _ _ h => h) (Or.inl ⟨by rfl, ?_⟩) ?_ ?_
                          rotate_left
                          · intro w'
                            go_simp
                            with_reducible rfl
                          rotate_left
                          · simp only [Act.put, List.setIfInBounds_toArray, List.set_cons_zero, List.set_cons_succ, i64_w, i32_w]
                            rfl
                          refine pure_ (i := 13) (N := some 98) (v := ?_) (a' := ?_) #[true, true, true, true, true, true, true, true, true, true, true, true, true, true, false, false, false, false, false, false, false, false, false, false, false, false, false, false, false, false, false, false, false] rfl rfl (any_of HT_.out (by kernel_rfl)) (fun _ _ _ h => h) (Or.inl ⟨by rfl, ?_⟩) ?_ ?_
                          rotate_left
                          · intro w'
                            go_simp
                            with_reducible rfl
                          rotate_left
                          · simp only [Act.put, List.setIfInBounds_toArray, List.set_cons_zero, List.set_cons_succ, i64_w, i32_w]
                            rfl
                          refine take_ (i := 14) (N := some 99) (v := ?_) (a' := ?_) #[true, true, true, true, true, true, true, true, true, true, true, true, true, true, true, false, false, false, false, false, false, false, false, false, false, false, false, false, false, false, false, false, false] rfl rfl (take_ofW HT_.out HW_.out (by kernel_rfl)) (fun _ _ _ h => h) (Or.inl ⟨by rfl, ?_⟩) hHeld ?_ ?_
                          rotate_left
                          · rintro w' ⟨s0, s1, s2, s3⟩
                            go_simp
                            with_reducible rfl
                          rotate_left
                          · simp only [Act.put, List.setIfInBounds_toArray, List.set_cons_zero, List.set_cons_succ, i64_w, i32_w]
                            rfl
                          refine take_ (i := 16) (N := some 101) (v := ?_) (a' := ?_) #[true, true, true, true, true, true, true, true, true, true, true, true, true, true, true, false, true, false, false, false, false, false, false, false, false, false, false, false, false, false, false, false, false] rfl rfl (take_ofW HT_.out HW_.out (by kernel_rfl)) (fun _ _ _ h => h) (Or.inl ⟨by rfl, ?_⟩) hHeld ?_ ?_
                          rotate_left
                          · rintro w' ⟨s0, s1, s2, s3⟩
                            go_simp
                            with_reducible rfl
                          rotate_left
                          · simp only [Act.put, List.setIfInBounds_toArray, List.set_cons_zero, List.set_cons_succ, i64_w, i32_w]
                            rfl
                          refine one_ (i := 15) (N := some 100) #[true, true, true, true, true, true, true, true, true, true, true, true, true, true, true, true, true, false, false, false, false, false, false, false, false, false, false, false, false, false, false, false, false] rfl rfl (one_of HT_.out (by kernel_rfl)) (by decide) (fun K hK => ?_)
                          refine goes_ Try.func16 (by kernel_rfl) rfl #[.agg #[.slice Ao54 t598.length co54, .slice Ao58 t601.length co58]] (by rfl) rfl rfl (by (try simp only [List.map_toArray, List.map_cons, List.map_nil]); first | done | rfl | (simp only [List.length_drop, List.length_take]; rfl)) ?_
                          with_reducible refine (weirkeeperlaw04_Ref.calls k2 (fun k_ => (some k_ ≠ (.slice Ao14 t581.length co14 : Value).ownBlock ∧ (some k_ ≠ (.slice Ao71 t588.length co71 : Value).ownBlock ∧ (some k_ ≠ (.slice Ao72 t593.length co72 : Value).ownBlock ∧ (k_ ≠ gb577 ∧ (k_ ≠ gb584 ∧ (k_ ≠ gb606 ∧ k_ ≠ gb615))))))) _ _ t598 _ _ t601 t617 t620 _ ?side1 ?side2 ?side3 A40.out).mono ?_
                          (case side1 => exact HO600.out)
                          (case side2 => repeat (first | exact (Kd.V_reads' HO603.out).2.2 | (with_reducible refine Kd.C_alloc ?_ _) | (with_reducible refine Kd.C_drewN ?_ _) | (with_reducible refine Kd.C_drew ?_)))
                          (case side3 => exact (Kd.V_reads' HO603.out).2.1)
                          rintro e w73 ⟨v618, v621, rfl, ho0, ho1, hb⟩
                          refine ⟨_, rfl, ?_⟩
                          have n0_ := Aside0.mk (Kd.V_elder' (by (with_reducible repeat (first | apply Kd.V_alloc | apply Kd.V_drewN | apply Kd.V_drew)); exact HO_585000.out) (Kd.R_base ho1) hb)
                          have n1_ := Aside0.mk (Kd.R_elder' (by (with_reducible repeat (first | apply Kd.R_alloc | apply Kd.R_drewN | apply Kd.R_drew)); exact HO_585001.out) (Kd.R_base ho1) hb)
                          have n2_ := Aside0.mk (Kd.R_below (by (with_reducible repeat (first | apply Kd.R_alloc | apply Kd.R_drewN | apply Kd.R_drew)); exact HO590.out) hb)
                          have n3_ := Aside0.mk (Kd.R_below (by (with_reducible repeat (first | apply Kd.R_alloc | apply Kd.R_drewN | apply Kd.R_drew)); exact HO595.out) hb)
                          have n4_ := Aside0.mk (Kd.V_elder' (by (with_reducible repeat (first | apply Kd.V_alloc | apply Kd.V_drewN | apply Kd.V_drew)); exact HO600.out) (Kd.R_base ho1) hb)
                          have n5_ := Aside0.mk (Kd.V_elder' (by (with_reducible repeat (first | apply Kd.V_alloc | apply Kd.V_drewN | apply Kd.V_drew)); exact HO603.out) (Kd.R_base ho1) hb)
                          have n6_ := Aside0.mk (Kd.V_elder' (by (with_reducible repeat (first | apply Kd.V_alloc | apply Kd.V_drewN | apply Kd.V_drew)); exact HO609.out) (Kd.R_base ho1) hb)
                          have n7_ := Aside0.mk (Kd.V_elder' (by (with_reducible repeat (first | apply Kd.V_alloc | apply Kd.V_drewN | apply Kd.V_drew)); exact HO612.out) (Kd.R_base ho1) hb)
                          have n8_ := Aside0.mk (Kd.V_lower (Kd.V_mono (ok' := fun k_ => some k_ ≠ (v621 : Value).ownBlock ∧ some k_ ≠ (.slice Ao14 t581.length co14 : Value).ownBlock ∧ some k_ ≠ (.slice Ao71 t588.length co71 : Value).ownBlock ∧ some k_ ≠ (.slice Ao72 t593.length co72 : Value).ownBlock ∧ k_ ≠ gb577 ∧ k_ ≠ gb584 ∧ k_ ≠ gb606 ∧ k_ ≠ gb615) ho0 (fun k_ hk_ => ⟨hk_.2, Or.elim hk_.1 (fun hs_ => hs_.1) (fun hn_ => (Kd.fresh' (Kd.R_lt (by (with_reducible repeat (first | apply Kd.R_alloc | apply Kd.R_drewN | apply Kd.R_drew)); exact HO_585001.out)) k_ hn_)), Or.elim hk_.1 (fun hs_ => hs_.2.1) (fun hn_ => (Kd.fresh' (Kd.R_lt (by (with_reducible repeat (first | apply Kd.R_alloc | apply Kd.R_drewN | apply Kd.R_drew)); exact HO590.out)) k_ hn_)), Or.elim hk_.1 (fun hs_ => hs_.2.2.1) (fun hn_ => (Kd.fresh' (Kd.R_lt (by (with_reducible repeat (first | apply Kd.R_alloc | apply Kd.R_drewN | apply Kd.R_drew)); exact HO595.out)) k_ hn_)), Or.elim hk_.1 (fun hs_ => hs_.2.2.2.1) (fun hn_ => (Kd.freshB (g := gb577) (o := .cells #[.slice A0_0 l0_0.length c0_0, .slice A0_1 l0_1.length c0_1] 25 (0, 0)) (by (with_reducible repeat (first | refine blk_drewN ?_ _ | refine blk_drew ?_ | refine blk_alloc ?_ _)); exact BK577.out) k_ hn_)), Or.elim hk_.1 (fun hs_ => hs_.2.2.2.2.1) (fun hn_ => (Kd.freshB (g := gb584) (o := .cells #[.slice Ao11 t578.length co11, .slice Ao14 t581.length co14] 29 (0, 0)) (by (with_reducible repeat (first | refine blk_drewN ?_ _ | refine blk_drew ?_ | refine blk_alloc ?_ _)); exact BK584.out) k_ hn_)), Or.elim hk_.1 (fun hs_ => hs_.2.2.2.2.2.1) (fun hn_ => (Kd.freshB (g := gb606) (o := .cells #[.slice Ao54 t598.length co54, .slice Ao58 t601.length co58] 25 (0, 0)) (by (with_reducible repeat (first | refine blk_drewN ?_ _ | refine blk_drew ?_ | refine blk_alloc ?_ _)); exact BK606.out) k_ hn_)), Or.elim hk_.1 (fun hs_ => hs_.2.2.2.2.2.2) (fun hn_ => (Kd.freshB (g := gb615) (o := .cells #[.slice Ao63 t607.length co63, .slice Ao68 t610.length co68] 29 (0, 0)) (by (with_reducible repeat (first | refine blk_drewN ?_ _ | refine blk_drew ?_ | refine blk_alloc ?_ _)); exact BK615.out) k_ hn_))⟩)) (below_size (by repeat (first | (with_reducible first | exact HB.out | apply below_alloc | apply pw_below_drewN | apply below_drew1 | refine below_set ?_ GE577.out | refine below_set ?_ GE584.out | refine below_set ?_ GE606.out | refine below_set ?_ GE615.out) | exact HB.out))))
                          have n9_ := Aside0.mk (Kd.R_lower (Kd.R_new' (Kd.R_mono (ok' := fun k_ => True) ho1 (fun _ hk_ => trivial)) (Kd.R_lt (by (with_reducible repeat (first | apply Kd.R_alloc | apply Kd.R_drewN | apply Kd.R_drew)); exact HO_585001.out))) (below_size (by repeat (first | (with_reducible first | exact HB.out | apply below_alloc | apply pw_below_drewN | apply below_drew1 | refine below_set ?_ GE577.out | refine below_set ?_ GE584.out | refine below_set ?_ GE606.out | refine below_set ?_ GE615.out) | exact HB.out))))
                          have n10_ := Aside0.mk (blk_below (g := gb577) (o := .cells #[.slice A0_0 l0_0.length c0_0, .slice A0_1 l0_1.length c0_1] 25 (0, 0)) (by (with_reducible repeat (first | refine blk_drewN ?_ _ | refine blk_drew ?_ | refine blk_alloc ?_ _)); exact BK577.out) hb)
                          have n11_ := Aside0.mk (blk_below (g := gb584) (o := .cells #[.slice Ao11 t578.length co11, .slice Ao14 t581.length co14] 29 (0, 0)) (by (with_reducible repeat (first | refine blk_drewN ?_ _ | refine blk_drew ?_ | refine blk_alloc ?_ _)); exact BK584.out) hb)
                          have n12_ := Aside0.mk (blk_below (g := gb606) (o := .cells #[.slice Ao54 t598.length co54, .slice Ao58 t601.length co58] 25 (0, 0)) (by (with_reducible repeat (first | refine blk_drewN ?_ _ | refine blk_drew ?_ | refine blk_alloc ?_ _)); exact BK606.out) hb)
                          have n13_ := Aside0.mk (blk_below (g := gb615) (o := .cells #[.slice Ao63 t607.length co63, .slice Ao68 t610.length co68] 29 (0, 0)) (by (with_reducible repeat (first | refine blk_drewN ?_ _ | refine blk_drew ?_ | refine blk_alloc ?_ _)); exact BK615.out) hb)
                          have n14_ := Aside0.mk (below_step (by repeat (first | (with_reducible first | exact HB.out | apply below_alloc | apply pw_below_drewN | apply below_drew1 | refine below_set ?_ GE577.out | refine below_set ?_ GE584.out | refine below_set ?_ GE606.out | refine below_set ?_ GE615.out) | exact HB.out)) hb)
                          clear HO_585000
                          clear HO_585001
                          clear HO590
                          clear HO595
                          clear HO600
                          clear HO603
                          clear HO609
                          clear HO612
                          clear BK577
                          clear BK584
                          clear BK606
                          clear BK615
                          clear HB
                          have HO_585000 := n0_
                          have HO_585001 := n1_
                          have HO590 := n2_
                          have HO595 := n3_
                          have HO600 := n4_
                          have HO603 := n5_
                          have HO609 := n6_
                          have HO612 := n7_
                          have HO619 := n8_
                          have HO622 := n9_
                          have BK577 := n10_
                          have BK584 := n11_
                          have BK606 := n12_
                          have BK615 := n13_
                          have HB := n14_
                          clear n0_ n1_ n2_ n3_ n4_ n5_ n6_ n7_ n8_ n9_ n10_ n11_ n12_ n13_ n14_
                          (try clear hb)
                          (try clear hb2)
                          (try clear hk)
                          (try clear hi)
                          (try clear ho0)
                          (try clear ho1)
                          obtain ⟨Ao74, co74, eo74⟩ := Kd.V_slice HO619.out
                          (first | subst eo74 | (injection eo74 with f1_ f2_ f3_; have f4_ := f1_.symm; have f5_ := f3_.symm; clear f1_ f2_ f3_; subst f4_; subst f5_))
                          obtain ⟨Ao75, co75, eo75⟩ := Kd.R_slice HO622.out
                          (first | subst eo75 | (injection eo75 with f1_ f2_ f3_; have f4_ := f1_.symm; have f5_ := f3_.symm; clear f1_ f2_ f3_; subst f4_; subst f5_))
                          refine hK.out _ _ ⟨(blk_cell BK606.out 0).trans rfl, (blk_cell BK606.out 1).trans rfl, (blk_cell BK615.out 0).trans rfl, (blk_cell BK615.out 1).trans rfl⟩ (fun hHeld => ?_)
                          clear hK K
                          refine norm_ (a' := ?_) ?_ ?_
                          rotate_left
                          · show Act.put _ (some 100) _ = _
                            simp only [Act.put, List.setIfInBounds_toArray, List.set_cons_zero, List.set_cons_succ, i64_w, i32_w]
                            rfl
                          refine one_ (i := 17) (N := some 102) #[true, true, true, true, true, true, true, true, true, true, true, true, true, true, true, true, true, true, false, false, false, false, false, false, false, false, false, false, false, false, false, false, false] rfl rfl (one_of HT_.out (by kernel_rfl)) (by decide) (fun K hK => ?_)
                          refine goes_ Try.func19 (by kernel_rfl) rfl #[.agg #[.slice Ao74 t617.length co74, .slice Ao75 t620.length co75], .agg #[.slice Ao63 t607.length co63, .slice Ao68 t610.length co68]] (by rfl) rfl rfl (by (try simp only [List.map_toArray, List.map_cons, List.map_nil]); first | done | rfl | (simp only [List.length_drop, List.length_take]; rfl)) ?_
                          with_reducible refine (weirkeeperref04_Same.calls k2 _ _ t617 _ _ t620 _ _ t607 _ _ t610 true _ ?side1 ?side2 ?side3 ?side4 ?side5 ?side6 ?side7 ?side8 A41.out).mono ?_
                          (case side1 => repeat (first | exact (Kd.V_reads' HO619.out).2.2 | (with_reducible refine Kd.C_alloc ?_ _) | (with_reducible refine Kd.C_drewN ?_ _) | (with_reducible refine Kd.C_drew ?_)))
                          (case side2 => exact (Kd.V_reads' HO619.out).2.1)
                          (case side3 => repeat (first | exact (Kd.R_reads' HO622.out).2.2 | (with_reducible refine Kd.C_alloc ?_ _) | (with_reducible refine Kd.C_drewN ?_ _) | (with_reducible refine Kd.C_drew ?_)))
                          (case side4 => exact (Kd.R_reads' HO622.out).2.1)
                          (case side5 => repeat (first | exact (Kd.V_reads' HO609.out).2.2 | (with_reducible refine Kd.C_alloc ?_ _) | (with_reducible refine Kd.C_drewN ?_ _) | (with_reducible refine Kd.C_drew ?_)))
                          (case side6 => exact (Kd.V_reads' HO609.out).2.1)
                          (case side7 => repeat (first | exact (Kd.V_reads' HO612.out).2.2 | (with_reducible refine Kd.C_alloc ?_ _) | (with_reducible refine Kd.C_drewN ?_ _) | (with_reducible refine Kd.C_drew ?_)))
                          (case side8 => exact (Kd.V_reads' HO612.out).2.1)
                          rintro e w76 ⟨rfl, hb⟩
                          refine ⟨_, rfl, ?_⟩
                          have n0_ := Aside0.mk (Kd.V_below (by (with_reducible repeat (first | apply Kd.V_alloc | apply Kd.V_drewN | apply Kd.V_drew)); exact HO_585000.out) hb)
                          have n1_ := Aside0.mk (Kd.R_below (by (with_reducible repeat (first | apply Kd.R_alloc | apply Kd.R_drewN | apply Kd.R_drew)); exact HO_585001.out) hb)
                          have n2_ := Aside0.mk (Kd.R_below (by (with_reducible repeat (first | apply Kd.R_alloc | apply Kd.R_drewN | apply Kd.R_drew)); exact HO590.out) hb)
                          have n3_ := Aside0.mk (Kd.R_below (by (with_reducible repeat (first | apply Kd.R_alloc | apply Kd.R_drewN | apply Kd.R_drew)); exact HO595.out) hb)
                          have n4_ := Aside0.mk (Kd.V_below (by (with_reducible repeat (first | apply Kd.V_alloc | apply Kd.V_drewN | apply Kd.V_drew)); exact HO600.out) hb)
                          have n5_ := Aside0.mk (Kd.V_below (by (with_reducible repeat (first | apply Kd.V_alloc | apply Kd.V_drewN | apply Kd.V_drew)); exact HO603.out) hb)
                          have n6_ := Aside0.mk (Kd.V_below (by (with_reducible repeat (first | apply Kd.V_alloc | apply Kd.V_drewN | apply Kd.V_drew)); exact HO609.out) hb)
                          have n7_ := Aside0.mk (Kd.V_below (by (with_reducible repeat (first | apply Kd.V_alloc | apply Kd.V_drewN | apply Kd.V_drew)); exact HO612.out) hb)
                          have n8_ := Aside0.mk (Kd.V_below (by (with_reducible repeat (first | apply Kd.V_alloc | apply Kd.V_drewN | apply Kd.V_drew)); exact HO619.out) hb)
                          have n9_ := Aside0.mk (Kd.R_below (by (with_reducible repeat (first | apply Kd.R_alloc | apply Kd.R_drewN | apply Kd.R_drew)); exact HO622.out) hb)
                          have n10_ := Aside0.mk (blk_below (g := gb577) (o := .cells #[.slice A0_0 l0_0.length c0_0, .slice A0_1 l0_1.length c0_1] 25 (0, 0)) (by (with_reducible repeat (first | refine blk_drewN ?_ _ | refine blk_drew ?_ | refine blk_alloc ?_ _)); exact BK577.out) hb)
                          have n11_ := Aside0.mk (blk_below (g := gb584) (o := .cells #[.slice Ao11 t578.length co11, .slice Ao14 t581.length co14] 29 (0, 0)) (by (with_reducible repeat (first | refine blk_drewN ?_ _ | refine blk_drew ?_ | refine blk_alloc ?_ _)); exact BK584.out) hb)
                          have n12_ := Aside0.mk (blk_below (g := gb606) (o := .cells #[.slice Ao54 t598.length co54, .slice Ao58 t601.length co58] 25 (0, 0)) (by (with_reducible repeat (first | refine blk_drewN ?_ _ | refine blk_drew ?_ | refine blk_alloc ?_ _)); exact BK606.out) hb)
                          have n13_ := Aside0.mk (blk_below (g := gb615) (o := .cells #[.slice Ao63 t607.length co63, .slice Ao68 t610.length co68] 29 (0, 0)) (by (with_reducible repeat (first | refine blk_drewN ?_ _ | refine blk_drew ?_ | refine blk_alloc ?_ _)); exact BK615.out) hb)
                          have n14_ := Aside0.mk (below_step (by repeat (first | (with_reducible first | exact HB.out | apply below_alloc | apply pw_below_drewN | apply below_drew1 | refine below_set ?_ GE577.out | refine below_set ?_ GE584.out | refine below_set ?_ GE606.out | refine below_set ?_ GE615.out) | exact HB.out)) hb)
                          clear HO_585000
                          clear HO_585001
                          clear HO590
                          clear HO595
                          clear HO600
                          clear HO603
                          clear HO609
                          clear HO612
                          clear HO619
                          clear HO622
                          clear BK577
                          clear BK584
                          clear BK606
                          clear BK615
                          clear HB
                          have HO_585000 := n0_
                          have HO_585001 := n1_
                          have HO590 := n2_
                          have HO595 := n3_
                          have HO600 := n4_
                          have HO603 := n5_
                          have HO609 := n6_
                          have HO612 := n7_
                          have HO619 := n8_
                          have HO622 := n9_
                          have BK577 := n10_
                          have BK584 := n11_
                          have BK606 := n12_
                          have BK615 := n13_
                          have HB := n14_
                          clear n0_ n1_ n2_ n3_ n4_ n5_ n6_ n7_ n8_ n9_ n10_ n11_ n12_ n13_ n14_
                          (try clear hb)
                          (try clear hb2)
                          (try clear hk)
                          (try clear hi)
                          refine hK.out _ _ ⟨(blk_cell BK606.out 0).trans rfl, (blk_cell BK606.out 1).trans rfl, (blk_cell BK615.out 0).trans rfl, (blk_cell BK615.out 1).trans rfl⟩ (fun hHeld => ?_)
                          clear hK K
                          refine norm_ (a' := ?_) ?_ ?_
                          rotate_left
                          · show Act.put _ (some 102) _ = _
                            simp only [Act.put, List.setIfInBounds_toArray, List.set_cons_zero, List.set_cons_succ, i64_w, i32_w]
                            rfl
                          refine pure_ (i := 18) (N := some 103) (v := ?_) (a' := ?_) #[true, true, true, true, true, true, true, true, true, true, true, true, true, true, true, true, true, true, true, false, false, false, false, false, false, false, false, false, false, false, false, false, false] rfl rfl (any_of HT_.out (by kernel_rfl)) (fun _ _ _ h => h) (Or.inl ⟨by rfl, ?_⟩) ?_ ?_
                          rotate_left
                          · intro w'
                            go_simp
                            with_reducible rfl
                          rotate_left
                          · simp only [Act.put, List.setIfInBounds_toArray, List.set_cons_zero, List.set_cons_succ, i64_w, i32_w]
                            rfl
                          refine pure_ (i := 19) (N := some 104) (v := ?_) (a' := ?_) #[true, true, true, true, true, true, true, true, true, true, true, true, true, true, true, true, true, true, true, true, false, false, false, false, false, false, false, false, false, false, false, false, false] rfl rfl (any_of HT_.out (by kernel_rfl)) (fun _ _ _ h => h) (Or.inl ⟨by rfl, ?_⟩) ?_ ?_
                          rotate_left
                          · intro w'
                            go_simp
                            with_reducible rfl
                          rotate_left
                          · simp only [Act.put, List.setIfInBounds_toArray, List.set_cons_zero, List.set_cons_succ, i64_w, i32_w]
                            rfl
                          refine pure_ (i := 20) (N := some 105) (v := ?_) (a' := ?_) #[true, true, true, true, true, true, true, true, true, true, true, true, true, true, true, true, true, true, true, true, true, false, false, false, false, false, false, false, false, false, false, false, false] rfl rfl (any_of HT_.out (by kernel_rfl)) (fun _ _ _ h => h) (Or.inl ⟨by rfl, ?_⟩) ?_ ?_
                          rotate_left
                          · intro w'
                            go_simp
                            with_reducible rfl
                          rotate_left
                          · simp only [Act.put, List.setIfInBounds_toArray, List.set_cons_zero, List.set_cons_succ, i64_w, i32_w]
                            rfl
                          refine pure_ (i := 21) (N := some 106) (v := ?_) (a' := ?_) #[true, true, true, true, true, true, true, true, true, true, true, true, true, true, true, true, true, true, true, true, true, true, false, false, false, false, false, false, false, false, false, false, false] rfl rfl (any_of HT_.out (by kernel_rfl)) (fun _ _ _ h => h) (Or.inl ⟨by rfl, ?_⟩) ?_ ?_
                          rotate_left
                          · intro w'
                            go_simp
                            with_reducible rfl
                          rotate_left
                          · simp only [Act.put, List.setIfInBounds_toArray, List.set_cons_zero, List.set_cons_succ, i64_w, i32_w]
                            rfl
                          refine pure_ (i := 22) (N := some 107) (v := ?_) (a' := ?_) #[true, true, true, true, true, true, true, true, true, true, true, true, true, true, true, true, true, true, true, true, true, true, true, false, false, false, false, false, false, false, false, false, false] rfl rfl (any_of HT_.out (by kernel_rfl)) (fun _ _ _ h => h) (Or.inl ⟨by rfl, ?_⟩) ?_ ?_
                          rotate_left
                          · intro w'
                            go_simp
                            with_reducible rfl
                          rotate_left
                          · simp only [Act.put, List.setIfInBounds_toArray, List.set_cons_zero, List.set_cons_succ, i64_w, i32_w]
                            rfl
                          refine pure_ (i := 23) (N := some 108) (v := ?_) (a' := ?_) #[true, true, true, true, true, true, true, true, true, true, true, true, true, true, true, true, true, true, true, true, true, true, true, true, false, false, false, false, false, false, false, false, false] rfl rfl (any_of HT_.out (by kernel_rfl)) (fun _ _ _ h => h) (Or.inl ⟨by rfl, ?_⟩) ?_ ?_
                          rotate_left
                          · intro w'
                            go_simp
                            with_reducible rfl
                          rotate_left
                          · simp only [Act.put, List.setIfInBounds_toArray, List.set_cons_zero, List.set_cons_succ, i64_w, i32_w]
                            rfl
                          refine pure_ (i := 24) (N := some 109) (v := ?_) (a' := ?_) #[true, true, true, true, true, true, true, true, true, true, true, true, true, true, true, true, true, true, true, true, true, true, true, true, true, false, false, false, false, false, false, false, false] rfl rfl (any_of HT_.out (by kernel_rfl)) (fun _ _ _ h => h) (Or.inl ⟨by rfl, ?_⟩) ?_ ?_
                          rotate_left
                          · intro w'
                            go_simp
                            with_reducible rfl
                          rotate_left
                          · simp only [Act.put, List.setIfInBounds_toArray, List.set_cons_zero, List.set_cons_succ, i64_w, i32_w]
                            rfl
                          refine pure_ (i := 25) (N := some 110) (v := ?_) (a' := ?_) #[true, true, true, true, true, true, true, true, true, true, true, true, true, true, true, true, true, true, true, true, true, true, true, true, true, true, false, false, false, false, false, false, false] rfl rfl (any_of HT_.out (by kernel_rfl)) (fun _ _ _ h => h) (Or.inl ⟨by rfl, ?_⟩) ?_ ?_
                          rotate_left
                          · intro w'
                            go_simp
                            with_reducible rfl
                          rotate_left
                          · simp only [Act.put, List.setIfInBounds_toArray, List.set_cons_zero, List.set_cons_succ, i64_w, i32_w]
                            rfl
                          refine pure_ (i := 26) (N := some 111) (v := ?_) (a' := ?_) #[true, true, true, true, true, true, true, true, true, true, true, true, true, true, true, true, true, true, true, true, true, true, true, true, true, true, true, false, false, false, false, false, false] rfl rfl (any_of HT_.out (by kernel_rfl)) (fun _ _ _ h => h) (Or.inl ⟨by rfl, ?_⟩) ?_ ?_
                          rotate_left
                          · intro w'
                            go_simp
                            with_reducible rfl
                          rotate_left
                          · simp only [Act.put, List.setIfInBounds_toArray, List.set_cons_zero, List.set_cons_succ, i64_w, i32_w]
                            rfl
                          refine pure_ (i := 27) (N := some 112) (v := ?_) (a' := ?_) #[true, true, true, true, true, true, true, true, true, true, true, true, true, true, true, true, true, true, true, true, true, true, true, true, true, true, true, true, false, false, false, false, false] rfl rfl (any_of HT_.out (by kernel_rfl)) (fun _ _ _ h => h) (Or.inl ⟨by rfl, ?_⟩) ?_ ?_
                          rotate_left
                          · intro w'
                            go_simp
                            with_reducible rfl
                          rotate_left
                          · simp only [Act.put, List.setIfInBounds_toArray, List.set_cons_zero, List.set_cons_succ, i64_w, i32_w]
                            rfl
                          refine pure_ (i := 28) (N := some 113) (v := ?_) (a' := ?_) #[true, true, true, true, true, true, true, true, true, true, true, true, true, true, true, true, true, true, true, true, true, true, true, true, true, true, true, true, true, false, false, false, false] rfl rfl (any_of HT_.out (by kernel_rfl)) (fun _ _ _ h => h) (Or.inl ⟨by rfl, ?_⟩) ?_ ?_
                          rotate_left
                          · intro w'
                            go_simp
                            with_reducible rfl
                          rotate_left
                          · simp only [Act.put, List.setIfInBounds_toArray, List.set_cons_zero, List.set_cons_succ, i64_w, i32_w]
                            rfl
                          refine pure_ (i := 29) (N := some 114) (v := ?_) (a' := ?_) #[true, true, true, true, true, true, true, true, true, true, true, true, true, true, true, true, true, true, true, true, true, true, true, true, true, true, true, true, true, true, false, false, false] rfl rfl (any_of HT_.out (by kernel_rfl)) (fun _ _ _ h => h) (Or.inl ⟨by rfl, ?_⟩) ?_ ?_
                          rotate_left
                          · intro w'
                            go_simp
                            with_reducible rfl
                          rotate_left
                          · simp only [Act.put, List.setIfInBounds_toArray, List.set_cons_zero, List.set_cons_succ, i64_w, i32_w]
                            rfl
                          refine one_ (i := 30) (N := some 115) #[true, true, true, true, true, true, true, true, true, true, true, true, true, true, true, true, true, true, true, true, true, true, true, true, true, true, true, true, true, true, true, false, false] rfl rfl (one_of HT_.out (by kernel_rfl)) (by decide) (fun K hK => ?_)
                          refine goes_ Try.func27 (by kernel_rfl) rfl #[] (by rfl) rfl rfl (by (try simp only [List.map_toArray, List.map_cons, List.map_nil]); first | done | rfl | (simp only [List.length_drop, List.length_take]; rfl)) ?_
                          with_reducible refine (weirkeeperlaw08_awake.calls k2 _ A45.out).mono ?_
                          rintro e w77 ⟨rfl, hb⟩
                          refine ⟨_, rfl, ?_⟩
                          have n0_ := Aside0.mk (Kd.V_below (by (with_reducible repeat (first | apply Kd.V_alloc | apply Kd.V_drewN | apply Kd.V_drew)); exact HO_585000.out) hb)
                          have n1_ := Aside0.mk (Kd.R_below (by (with_reducible repeat (first | apply Kd.R_alloc | apply Kd.R_drewN | apply Kd.R_drew)); exact HO_585001.out) hb)
                          have n2_ := Aside0.mk (Kd.R_below (by (with_reducible repeat (first | apply Kd.R_alloc | apply Kd.R_drewN | apply Kd.R_drew)); exact HO590.out) hb)
                          have n3_ := Aside0.mk (Kd.R_below (by (with_reducible repeat (first | apply Kd.R_alloc | apply Kd.R_drewN | apply Kd.R_drew)); exact HO595.out) hb)
                          have n4_ := Aside0.mk (Kd.V_below (by (with_reducible repeat (first | apply Kd.V_alloc | apply Kd.V_drewN | apply Kd.V_drew)); exact HO600.out) hb)
                          have n5_ := Aside0.mk (Kd.V_below (by (with_reducible repeat (first | apply Kd.V_alloc | apply Kd.V_drewN | apply Kd.V_drew)); exact HO603.out) hb)
                          have n6_ := Aside0.mk (Kd.V_below (by (with_reducible repeat (first | apply Kd.V_alloc | apply Kd.V_drewN | apply Kd.V_drew)); exact HO609.out) hb)
                          have n7_ := Aside0.mk (Kd.V_below (by (with_reducible repeat (first | apply Kd.V_alloc | apply Kd.V_drewN | apply Kd.V_drew)); exact HO612.out) hb)
                          have n8_ := Aside0.mk (Kd.V_below (by (with_reducible repeat (first | apply Kd.V_alloc | apply Kd.V_drewN | apply Kd.V_drew)); exact HO619.out) hb)
                          have n9_ := Aside0.mk (Kd.R_below (by (with_reducible repeat (first | apply Kd.R_alloc | apply Kd.R_drewN | apply Kd.R_drew)); exact HO622.out) hb)
                          have n10_ := Aside0.mk (blk_below (g := gb577) (o := .cells #[.slice A0_0 l0_0.length c0_0, .slice A0_1 l0_1.length c0_1] 25 (0, 0)) (by (with_reducible repeat (first | refine blk_drewN ?_ _ | refine blk_drew ?_ | refine blk_alloc ?_ _)); exact BK577.out) hb)
                          have n11_ := Aside0.mk (blk_below (g := gb584) (o := .cells #[.slice Ao11 t578.length co11, .slice Ao14 t581.length co14] 29 (0, 0)) (by (with_reducible repeat (first | refine blk_drewN ?_ _ | refine blk_drew ?_ | refine blk_alloc ?_ _)); exact BK584.out) hb)
                          have n12_ := Aside0.mk (blk_below (g := gb606) (o := .cells #[.slice Ao54 t598.length co54, .slice Ao58 t601.length co58] 25 (0, 0)) (by (with_reducible repeat (first | refine blk_drewN ?_ _ | refine blk_drew ?_ | refine blk_alloc ?_ _)); exact BK606.out) hb)
                          have n13_ := Aside0.mk (blk_below (g := gb615) (o := .cells #[.slice Ao63 t607.length co63, .slice Ao68 t610.length co68] 29 (0, 0)) (by (with_reducible repeat (first | refine blk_drewN ?_ _ | refine blk_drew ?_ | refine blk_alloc ?_ _)); exact BK615.out) hb)
                          have n14_ := Aside0.mk (below_step (by repeat (first | (with_reducible first | exact HB.out | apply below_alloc | apply pw_below_drewN | apply below_drew1 | refine below_set ?_ GE577.out | refine below_set ?_ GE584.out | refine below_set ?_ GE606.out | refine below_set ?_ GE615.out) | exact HB.out)) hb)
                          clear HO_585000
                          clear HO_585001
                          clear HO590
                          clear HO595
                          clear HO600
                          clear HO603
                          clear HO609
                          clear HO612
                          clear HO619
                          clear HO622
                          clear BK577
                          clear BK584
                          clear BK606
                          clear BK615
                          clear HB
                          have HO_585000 := n0_
                          have HO_585001 := n1_
                          have HO590 := n2_
                          have HO595 := n3_
                          have HO600 := n4_
                          have HO603 := n5_
                          have HO609 := n6_
                          have HO612 := n7_
                          have HO619 := n8_
                          have HO622 := n9_
                          have BK577 := n10_
                          have BK584 := n11_
                          have BK606 := n12_
                          have BK615 := n13_
                          have HB := n14_
                          clear n0_ n1_ n2_ n3_ n4_ n5_ n6_ n7_ n8_ n9_ n10_ n11_ n12_ n13_ n14_
                          (try clear hb)
                          (try clear hb2)
                          (try clear hk)
                          (try clear hi)
                          refine hK.out _ _ ⟨(blk_cell BK606.out 0).trans rfl, (blk_cell BK606.out 1).trans rfl, (blk_cell BK615.out 0).trans rfl, (blk_cell BK615.out 1).trans rfl⟩ (fun hHeld => ?_)
                          clear hK K
                          refine norm_ (a' := ?_) ?_ ?_
                          rotate_left
                          · show Act.put _ (some 115) _ = _
                            simp only [Act.put, List.setIfInBounds_toArray, List.set_cons_zero, List.set_cons_succ, i64_w, i32_w]
                            rfl
                          refine pure_ (i := 31) (N := some 116) (v := ?_) (a' := ?_) #[true, true, true, true, true, true, true, true, true, true, true, true, true, true, true, true, true, true, true, true, true, true, true, true, true, true, true, true, true, true, true, true, false] rfl rfl (any_of HT_.out (by kernel_rfl)) (fun _ _ _ h => h) (Or.inl ⟨by rfl, ?_⟩) ?_ ?_
                          rotate_left
                          · intro w'
                            go_simp
                            with_reducible rfl
                          rotate_left
                          · simp only [Act.put, List.setIfInBounds_toArray, List.set_cons_zero, List.set_cons_succ, i64_w, i32_w]
                            rfl
                          refine pure_ (i := 32) (N := some 8) (v := ?_) (a' := ?_) #[true, true, true, true, true, true, true, true, true, true, true, true, true, true, true, true, true, true, true, true, true, true, true, true, true, true, true, true, true, true, true, true, true] rfl rfl (any_of HT_.out (by kernel_rfl)) (fun _ _ _ h => h) (Or.inl ⟨by rfl, ?_⟩) ?_ ?_
                          rotate_left
                          · intro w'
                            go_simp
                            with_reducible rfl
                          rotate_left
                          · simp only [Act.put, List.setIfInBounds_toArray, List.set_cons_zero, List.set_cons_succ, i64_w, i32_w]
                            rfl
                          refine done_ (done_of HT_.out (by kernel_rfl)) ?_
                          try go_wp2
                          go_ret
                          exact ⟨by first | rfl | (simp only [h9_.out]; done) | (have h8_ := h9_.out; simp [h8_]; done) | (simp [errW_none, errW_some] <;> rfl) | (simp [*, errW_none, errW_some] <;> rfl), by repeat (first | (with_reducible first | exact HB.out | apply below_alloc | apply pw_below_drewN | apply below_drew1 | refine below_set ?_ GE577.out | refine below_set ?_ GE584.out | refine below_set ?_ GE606.out | refine below_set ?_ GE615.out) | exact HB.out)⟩
                        · rw [if_neg c44] at H
                          have c44b0 : (t605 == t614) = false := beq_eq_false_iff_ne.mpr c44
                          have c44b1 : (t605 != t614) = true := bne_iff_ne.mpr c44
                          exact absurd H (by simp)
                      · rw [if_neg c43] at H
                        have c43b0 : (t604 == t613) = false := beq_eq_false_iff_ne.mpr c43
                        have c43b1 : (t604 != t613) = true := bne_iff_ne.mpr c43
                        exact absurd H (by simp)
                    · replace c42 := Bool.eq_false_iff.mpr c42
                      subst c42
                      have H1 : (some false) = some true := by rw [if_neg (show ¬ (false = true) by decide)] at H; exact H
                      clear H
                      have H := H1
                      clear H1
                      exact absurd H (by simp)
                  · rw [if_neg c39] at H
                    have c39b0 : (t592 == t597) = false := beq_eq_false_iff_ne.mpr c39
                    have c39b1 : (t592 != t597) = true := bne_iff_ne.mpr c39
                    exact absurd H (by simp)
                · rw [if_neg c38] at H
                  have c38b0 : (t591 == t596) = false := beq_eq_false_iff_ne.mpr c38
                  have c38b1 : (t591 != t596) = true := bne_iff_ne.mpr c38
                  exact absurd H (by simp)
              · replace c37 := Bool.eq_false_iff.mpr c37
                subst c37
                have H1 : (some false) = some true := by rw [if_neg (show ¬ (false = true) by decide)] at H; exact H
                clear H
                have H := H1
                clear H1
                exact absurd H (by simp)

end Go.Proofs.Ytpkapldkmleppaa.F
