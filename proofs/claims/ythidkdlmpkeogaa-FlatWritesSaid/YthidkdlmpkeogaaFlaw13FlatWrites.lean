/- Contracts of Go functions of the seat Ythidkdlmpkeogaa: what a call comes to; no condition but those that each theorem names. -/
import Derived.Test.YthidkdlmpkeogaaFPre
import Derived.Test.YthidkdlmpkeogaaFflatx2
import Derived.Test.YthidkdlmpkeogaaFflatx1
import Derived.Test.YthidkdlmpkeogaaFflatx0
import Derived.Test.YthidkdlmpkeogaaFlaw13awake
import Derived.Test.YthidkdlmpkeogaaFlaw13fit
import Derived.Test.YthidkdlmpkeogaaFlaw13short
import Derived.Test.YthidkdlmpkeogaaFlaw13told
import Derived.Test.YthidkdlmpkeogaaFref13x1
import Derived.Test.YthidkdlmpkeogaaFref13x0
import Derived.Test.YthidkdlmpkeogaaFref13x2
namespace Go.Proofs.Ythidkdlmpkeogaa.F
open Go.RowKit Go.Proofs.YthidkdlmpkeogaaW.PrintWords Go.Proofs.YthidkdlmpkeogaaW.PrintLast Go.Proofs.YthidkdlmpkeogaaW.PrintMore
attribute [local go_sem] max2_int min2_int max_two min_two max_three min_three max_four min_four   -- for this text's walks alone
set_option linter.unusedVariables false
set_option linter.unusedSimpArgs false

/-! ### weirkeeperlaw13_FlatWrites: function 3 -/
mutual
def weirkeeperlaw13_FlatWrites.j0 : Nat → List (S48) → List (S50) → List (S42) → Bool → ByteArray → ByteArray → Bool → Option (Bool)
  | 0, _, _, _, _, _, _, _ => none
  | k + 1, x0, x1, x2, x40, x276000, x276001, x276002 => if x40 = true then ((weirkeeperlaw13_awake.f k).bind fun t281 => (some t281)) else ((flat_Notes.f k x0).bind fun bt282 => ((flat_Pairs.f k x1).bind fun bt284 => ((flat_Changes.f k x2).bind fun bt286 => ((flat_Range.f k x276000 x276001 x276002).bind fun bt288 => ((weirkeeperref13_Notes.f k x0).bind fun bt290 => ((weirkeeperref13_Pairs.f k x1).bind fun bt292 => ((weirkeeperref13_Changes.f k x2).bind fun bt294 => ((weirkeeperref13_Range.f k x276000 x276001 x276002).bind fun bt296 => (weirkeeperlaw13_FlatWrites.l0 k bt282.1 bt282.2 bt284.1 bt284.2 bt286.1 bt286.2 bt288.1 bt288.2 bt290.1 bt290.2 bt292.1 bt292.2 bt294.1 bt294.2 bt296.1 bt296.2 x2 (x2.length : Int) 0)))))))))
def weirkeeperlaw13_FlatWrites.l0 : Nat → ByteArray → Int → ByteArray → Int → ByteArray → Int → ByteArray → Int → ByteArray → Bool → ByteArray → Bool → ByteArray → Bool → ByteArray → Bool → List (S42) → Int → Int → Option (Bool)
  | 0, _, _, _, _, _, _, _, _, _, _, _, _, _, _, _, _, _, _, _ => none
  | k + 1, x9, x10, x11, x12, x13, x14, x15, x16, x17, x18, x19, x20, x21, x22, x23, x24, x82, x83, x84 => if x84 < x83 then (if 0 ≤ x84 then (if x84 < (x82.length : Int) then ((flat_May.f k ((rd_T42 x82 x84).f0) ((rd_T42 x82 x84).f1) ((rd_T42 x82 x84).f2) ((rd_T42 x82 x84).f3) ((rd_T42 x82 x84).f4) ((rd_T42 x82 x84).f5)).bind fun t300 => ((weirkeeperref13_May.f k ((rd_T42 x82 x84).f0) ((rd_T42 x82 x84).f1) ((rd_T42 x82 x84).f2) ((rd_T42 x82 x84).f3) ((rd_T42 x82 x84).f4) ((rd_T42 x82 x84).f5)).bind fun t301 => (if (t300 != t301) = true then (some false) else (weirkeeperlaw13_FlatWrites.l0 k x9 x10 x11 x12 x13 x14 x15 x16 x17 x18 x19 x20 x21 x22 x23 x24 x82 x83 (wrap64 (x84 + 1)))))) else (none)) else (none)) else ((weirkeeperlaw13_told.f x9 x10 x17 x18).bind fun t302 => (if t302 = true then ((weirkeeperlaw13_told.f x11 x12 x19 x20).bind fun t303 => (if t303 = true then ((weirkeeperlaw13_told.f x13 x14 x21 x22).bind fun t304 => (if t304 = true then ((weirkeeperlaw13_told.f x15 x16 x23 x24).bind fun t305 => (if t305 = true then ((weirkeeperlaw13_awake.f k).bind fun t306 => (some t306)) else (some false))) else (some false))) else (some false))) else (some false)))
end
def weirkeeperlaw13_FlatWrites.f (k : Nat) (l0 : List (S48)) (l1 : List (S50)) (l2 : List (S42)) (a3_0 : ByteArray) (a3_1 : ByteArray) (a3_2 : Bool) : Option (Bool) := (weirkeeperlaw13_fit.f k l0 l1 l2).bind fun t276 => (if t276 = true then ((weirkeeperlaw13_short.f k (([a3_0, a3_1] : List ByteArray))).bind fun t280 => (weirkeeperlaw13_FlatWrites.j0 k l0 l1 l2 (!t280) a3_0 a3_1 a3_2)) else (weirkeeperlaw13_FlatWrites.j0 k l0 l1 l2 true a3_0 a3_1 a3_2))
theorem weirkeeperlaw13_FlatWrites.mono_l : ∀ k, (∀ y0 y1 y2 y3 y4 y5 y6, LeO (weirkeeperlaw13_FlatWrites.j0 k y0 y1 y2 y3 y4 y5 y6) (weirkeeperlaw13_FlatWrites.j0 (k + 1) y0 y1 y2 y3 y4 y5 y6)) ∧ (∀ y0 y1 y2 y3 y4 y5 y6 y7 y8 y9 y10 y11 y12 y13 y14 y15 y16 y17 y18, LeO (weirkeeperlaw13_FlatWrites.l0 k y0 y1 y2 y3 y4 y5 y6 y7 y8 y9 y10 y11 y12 y13 y14 y15 y16 y17 y18) (weirkeeperlaw13_FlatWrites.l0 (k + 1) y0 y1 y2 y3 y4 y5 y6 y7 y8 y9 y10 y11 y12 y13 y14 y15 y16 y17 y18))
  | 0 => ⟨fun _ _ _ _ _ _ _ r h => by simp [weirkeeperlaw13_FlatWrites.j0] at h, fun _ _ _ _ _ _ _ _ _ _ _ _ _ _ _ _ _ _ _ r h => by simp [weirkeeperlaw13_FlatWrites.l0] at h⟩
  | k + 1 => by
    obtain ⟨ih0, ih1⟩ := weirkeeperlaw13_FlatWrites.mono_l k
    refine ⟨?_, ?_⟩
    · intro y0 y1 y2 y3 y4 y5 y6
      unfold weirkeeperlaw13_FlatWrites.j0
      repeat' first
      | (with_reducible exact ih0 _ _ _ _ _ _ _)
      | (with_reducible exact ih1 _ _ _ _ _ _ _ _ _ _ _ _ _ _ _ _ _ _ _)
      | (with_reducible exact flat_Changes.mono _ _)
      | (with_reducible exact flat_May.mono _ _ _ _ _ _ _)
      | (with_reducible exact flat_Notes.mono _ _)
      | (with_reducible exact flat_Pairs.mono _ _)
      | (with_reducible exact flat_Range.mono _ _ _ _)
      | (with_reducible exact weirkeeperlaw13_awake.mono _)
      | (with_reducible exact weirkeeperlaw13_fit.mono _ _ _ _)
      | (with_reducible exact weirkeeperlaw13_short.mono _ _)
      | (with_reducible exact weirkeeperref13_Changes.mono _ _)
      | (with_reducible exact weirkeeperref13_May.mono _ _ _ _ _ _ _)
      | (with_reducible exact weirkeeperref13_Notes.mono _ _)
      | (with_reducible exact weirkeeperref13_Pairs.mono _ _)
      | (with_reducible exact weirkeeperref13_Range.mono _ _ _ _)
      | (with_reducible exact LeO.refl _)
      | (with_reducible exact LeO.none _)
      | (with_reducible refine LeO.ite ?_ ?_)
      | (with_reducible refine LeO.bind ?_ (fun _ => ?_))
      | exact ih0 _ _ _ _ _ _ _
      | exact ih1 _ _ _ _ _ _ _ _ _ _ _ _ _ _ _ _ _ _ _
      | exact flat_Changes.mono _ _
      | exact flat_May.mono _ _ _ _ _ _ _
      | exact flat_Notes.mono _ _
      | exact flat_Pairs.mono _ _
      | exact flat_Range.mono _ _ _ _
      | exact weirkeeperlaw13_awake.mono _
      | exact weirkeeperlaw13_fit.mono _ _ _ _
      | exact weirkeeperlaw13_short.mono _ _
      | exact weirkeeperref13_Changes.mono _ _
      | exact weirkeeperref13_May.mono _ _ _ _ _ _ _
      | exact weirkeeperref13_Notes.mono _ _
      | exact weirkeeperref13_Pairs.mono _ _
      | exact weirkeeperref13_Range.mono _ _ _ _
      | exact LeO.none _
      | refine LeO.ite ?_ ?_
      | refine LeO.bind ?_ (fun _ => ?_)
    · intro y0 y1 y2 y3 y4 y5 y6 y7 y8 y9 y10 y11 y12 y13 y14 y15 y16 y17 y18
      unfold weirkeeperlaw13_FlatWrites.l0
      repeat' first
      | (with_reducible exact ih0 _ _ _ _ _ _ _)
      | (with_reducible exact ih1 _ _ _ _ _ _ _ _ _ _ _ _ _ _ _ _ _ _ _)
      | (with_reducible exact flat_Changes.mono _ _)
      | (with_reducible exact flat_May.mono _ _ _ _ _ _ _)
      | (with_reducible exact flat_Notes.mono _ _)
      | (with_reducible exact flat_Pairs.mono _ _)
      | (with_reducible exact flat_Range.mono _ _ _ _)
      | (with_reducible exact weirkeeperlaw13_awake.mono _)
      | (with_reducible exact weirkeeperlaw13_fit.mono _ _ _ _)
      | (with_reducible exact weirkeeperlaw13_short.mono _ _)
      | (with_reducible exact weirkeeperref13_Changes.mono _ _)
      | (with_reducible exact weirkeeperref13_May.mono _ _ _ _ _ _ _)
      | (with_reducible exact weirkeeperref13_Notes.mono _ _)
      | (with_reducible exact weirkeeperref13_Pairs.mono _ _)
      | (with_reducible exact weirkeeperref13_Range.mono _ _ _ _)
      | (with_reducible exact LeO.refl _)
      | (with_reducible exact LeO.none _)
      | (with_reducible refine LeO.ite ?_ ?_)
      | (with_reducible refine LeO.bind ?_ (fun _ => ?_))
      | exact ih0 _ _ _ _ _ _ _
      | exact ih1 _ _ _ _ _ _ _ _ _ _ _ _ _ _ _ _ _ _ _
      | exact flat_Changes.mono _ _
      | exact flat_May.mono _ _ _ _ _ _ _
      | exact flat_Notes.mono _ _
      | exact flat_Pairs.mono _ _
      | exact flat_Range.mono _ _ _ _
      | exact weirkeeperlaw13_awake.mono _
      | exact weirkeeperlaw13_fit.mono _ _ _ _
      | exact weirkeeperlaw13_short.mono _ _
      | exact weirkeeperref13_Changes.mono _ _
      | exact weirkeeperref13_May.mono _ _ _ _ _ _ _
      | exact weirkeeperref13_Notes.mono _ _
      | exact weirkeeperref13_Pairs.mono _ _
      | exact weirkeeperref13_Range.mono _ _ _ _
      | exact LeO.none _
      | refine LeO.ite ?_ ?_
      | refine LeO.bind ?_ (fun _ => ?_)
theorem weirkeeperlaw13_FlatWrites.mono : ∀ a0 a1 a2 a3 a4 a5 k, LeO (weirkeeperlaw13_FlatWrites.f k a0 a1 a2 a3 a4 a5) (weirkeeperlaw13_FlatWrites.f (k + 1) a0 a1 a2 a3 a4 a5) := by
  intro a0 a1 a2 a3 a4 a5 k
  obtain ⟨ih0, ih1⟩ := weirkeeperlaw13_FlatWrites.mono_l k
  unfold weirkeeperlaw13_FlatWrites.f
  repeat' first
      | (with_reducible exact ih0 _ _ _ _ _ _ _)
      | (with_reducible exact ih1 _ _ _ _ _ _ _ _ _ _ _ _ _ _ _ _ _ _ _)
      | (with_reducible exact flat_Changes.mono _ _)
      | (with_reducible exact flat_May.mono _ _ _ _ _ _ _)
      | (with_reducible exact flat_Notes.mono _ _)
      | (with_reducible exact flat_Pairs.mono _ _)
      | (with_reducible exact flat_Range.mono _ _ _ _)
      | (with_reducible exact weirkeeperlaw13_awake.mono _)
      | (with_reducible exact weirkeeperlaw13_fit.mono _ _ _ _)
      | (with_reducible exact weirkeeperlaw13_short.mono _ _)
      | (with_reducible exact weirkeeperref13_Changes.mono _ _)
      | (with_reducible exact weirkeeperref13_May.mono _ _ _ _ _ _ _)
      | (with_reducible exact weirkeeperref13_Notes.mono _ _)
      | (with_reducible exact weirkeeperref13_Pairs.mono _ _)
      | (with_reducible exact weirkeeperref13_Range.mono _ _ _ _)
      | (with_reducible exact LeO.refl _)
      | (with_reducible exact LeO.none _)
      | (with_reducible refine LeO.ite ?_ ?_)
      | (with_reducible refine LeO.bind ?_ (fun _ => ?_))
      | exact ih0 _ _ _ _ _ _ _
      | exact ih1 _ _ _ _ _ _ _ _ _ _ _ _ _ _ _ _ _ _ _
      | exact flat_Changes.mono _ _
      | exact flat_May.mono _ _ _ _ _ _ _
      | exact flat_Notes.mono _ _
      | exact flat_Pairs.mono _ _
      | exact flat_Range.mono _ _ _ _
      | exact weirkeeperlaw13_awake.mono _
      | exact weirkeeperlaw13_fit.mono _ _ _ _
      | exact weirkeeperlaw13_short.mono _ _
      | exact weirkeeperref13_Changes.mono _ _
      | exact weirkeeperref13_May.mono _ _ _ _ _ _ _
      | exact weirkeeperref13_Notes.mono _ _
      | exact weirkeeperref13_Pairs.mono _ _
      | exact weirkeeperref13_Range.mono _ _ _ _
      | exact LeO.none _
      | refine LeO.ite ?_ ?_
      | refine LeO.bind ?_ (fun _ => ?_)
set_option maxHeartbeats 8000000 in
set_option maxRecDepth 100000 in
theorem weirkeeperlaw13_FlatWrites.calls (k : Nat) (A0 : Option Addr) (c0 : Nat) (l0 : List (S48)) (A1 : Option Addr) (c1 : Nat) (l1 : List (S50)) (A2 : Option Addr) (c2 : Nat) (l2 : List (S42)) (a3_0 : ByteArray) (a3_1 : ByteArray) (a3_2 : Bool) (w : World) (hr0 : Kd.C k48 w A0 l0.length l0) (hc0 : l0.length ≤ c0) (hr1 : Kd.C k50 w A1 l1.length l1) (hc1 : l1.length ≤ c1) (hr2 : Kd.C k42 w A2 l2.length l2) (hc2 : l2.length ≤ c2) (h : weirkeeperlaw13_FlatWrites.f k l0 l1 l2 a3_0 a3_1 a3_2 = some true) :
    Calls Try.prog 3 #[.slice A0 l0.length c0, .slice A1 l1.length c1, .slice A2 l2.length c2, .agg #[.string a3_0, .string a3_1, .bool a3_2]] w fun e w' => e = .returned (.bool true) ∧ Below w.heap.size w w' := by
  have hu26 := Try.underlying26
  have hu42 := Try.underlying42
  have HR0 := Aside0.mk hr0
  have HC0 := Aside0.mk hc0
  clear hr0 hc0
  have HR1 := Aside0.mk hr1
  have HC1 := Aside0.mk hc1
  clear hr1 hc1
  have HR2 := Aside0.mk hr2
  have HC2 := Aside0.mk hc2
  clear hr2 hc2
  have HB := Aside0.mk (Below.refl w.heap.size w)
  have H : ((weirkeeperlaw13_fit.f k l0 l1 l2).bind fun t276 => (if t276 = true then ((weirkeeperlaw13_short.f k (([a3_0, a3_1] : List ByteArray))).bind fun t280 => (weirkeeperlaw13_FlatWrites.j0 k l0 l1 l2 (!t280) a3_0 a3_1 a3_2)) else (weirkeeperlaw13_FlatWrites.j0 k l0 l1 l2 true a3_0 a3_1 a3_2))) = some true := h
  clear h
  have HC5 := Aside0.mk H
  clear H
  go_enter Try.func3, Try.ntmps3
  go_upto_region 1 with (first | ((with_reducible refine gate_dst (N := 7) rfl ?_); (try (refine gate_guard (by rfl) ?_; dsimp only)); refine box_event ?hg (N := 7) ?hd (cs := #[.string a3_0, .string a3_1, .bool a3_2]) (t := 26) ?hr ?_; (case hd => rfl); (case hg => rfl); (case hr => first | (go_simp; done) | (go_simp; rfl)); intro gb275 hg w6 hbox hb; have n0_ := Aside0.mk (below_step (by repeat (first | (with_reducible first | exact HB.out | apply below_alloc | apply pw_below_drewN | apply below_drew1) | exact HB.out)) hb); have n1_ := Aside0.mk (hbox); have n2_ := Aside0.mk ((by rw [hg]; exact (below_size (by repeat (first | (with_reducible first | exact HB.out | apply below_alloc | apply pw_below_drewN | apply below_drew1) | exact HB.out))) : w.heap.size ≤ gb275)); have n3_ := Aside0.mk ((by rw [hg]; exact (below_size (by repeat (first | (with_reducible first | exact HB.out | apply below_alloc | apply pw_below_drewN | apply below_drew1) | exact HB.out))) : w.heap.size ≤ gb275)); clear HB; have HB := n0_; have BK275 := n1_; have GW275 := n2_; have GE275 := n3_; clear n0_ n1_ n2_ n3_; clear hb hbox hg))
  (try simp only [Act.put, List.setIfInBounds_toArray, List.set_cons_zero, List.set_cons_succ])
  go_cut [40] (fun v40 wc => ∃ (kq : Nat) (x40_4 : Bool), v40 = .bool x40_4 ∧ Aside0 (weirkeeperlaw13_FlatWrites.j0 kq l0 l1 l2 x40_4 a3_0 a3_1 a3_2 = some true) ∧ Aside0 (kq ≤ k) ∧ Aside0 (wc.heap[gb275]? = some (.cells #[.string a3_0, .string a3_1, .bool a3_2] 26 (0, 0))) ∧ Aside0 (Below w.heap.size w wc))
  case first =>
    have H := HC5.out
    clear HC5
    replace H := Option.bind_eq_some_iff.mp H
    obtain ⟨t276, A70, H⟩ := H
    replace H : (if t276 = true then ((weirkeeperlaw13_short.f k (([a3_0, a3_1] : List ByteArray))).bind fun t280 => (weirkeeperlaw13_FlatWrites.j0 k l0 l1 l2 (!t280) a3_0 a3_1 a3_2)) else (weirkeeperlaw13_FlatWrites.j0 k l0 l1 l2 true a3_0 a3_1 a3_2)) = some true := H
    have A7 := Aside0.mk A70
    clear A70
    by_cases c8 : t276 = true
    · subst c8
      have H1 : ((weirkeeperlaw13_short.f k (([a3_0, a3_1] : List ByteArray))).bind fun t280 => (weirkeeperlaw13_FlatWrites.j0 k l0 l1 l2 (!t280) a3_0 a3_1 a3_2)) = some true := by rw [if_pos rfl] at H; exact H
      clear H
      have H := H1
      clear H1
      obtain ⟨y277, hy277⟩ : ∃ y_ : List ByteArray, y_ = (([a3_0, a3_1] : List ByteArray)) := ⟨_, rfl⟩
      replace H : ((weirkeeperlaw13_short.f k y277).bind fun t280 => (weirkeeperlaw13_FlatWrites.j0 k l0 l1 l2 (!t280) a3_0 a3_1 a3_2)) = some true := by first | (rw [hy277]; with_reducible exact H) | (have H2_ := (Option.bind_some _ _).symm.trans H; rw [hy277]; with_reducible exact H2_) | (have H2_ := (Option.bind_some _ _).symm.trans H; with_reducible exact H2_) | with_reducible exact H | (rw [hy277]; exact H) | exact H
      have Ny277 := Aside0.mk hy277
      clear hy277
      replace H := Option.bind_eq_some_iff.mp H
      obtain ⟨t280, A90, H⟩ := H
      replace H : (weirkeeperlaw13_FlatWrites.j0 k l0 l1 l2 (!t280) a3_0 a3_1 a3_2) = some true := H
      have A9 := Aside0.mk A90
      clear A90
      have H' := Aside0.mk H
      clear H
      go_wp2_with (first | ((with_reducible refine gate_callee (f := 13) rfl ?_); refine goesL_ (some 30) rfl rfl Try.func13 (by kernel_rfl) rfl #[.slice A0 l0.length c0, .slice A1 l1.length c1, .slice A2 l2.length c2] rfl (by (try simp only [List.map_toArray, List.map_cons, List.map_nil]); first | done | rfl | (simp only [List.length_drop, List.length_take]; rfl)) ?_; (with_reducible refine (weirkeeperlaw13_fit.calls k _ _ l0 _ _ l1 _ _ l2 true _ ?side1 ?side2 ?side3 ?side4 ?side5 ?side6 A7.out).mono ?_); (case side1 => repeat (first | exact (Kd.C_below HR0.out HB.out) | (with_reducible refine Kd.C_alloc ?_ _) | (with_reducible refine Kd.C_drewN ?_ _) | (with_reducible refine Kd.C_drew ?_))); (case side2 => exact HC0.out); (case side3 => repeat (first | exact (Kd.C_below HR1.out HB.out) | (with_reducible refine Kd.C_alloc ?_ _) | (with_reducible refine Kd.C_drewN ?_ _) | (with_reducible refine Kd.C_drew ?_))); (case side4 => exact HC1.out); (case side5 => repeat (first | exact (Kd.C_below HR2.out HB.out) | (with_reducible refine Kd.C_alloc ?_ _) | (with_reducible refine Kd.C_drewN ?_ _) | (with_reducible refine Kd.C_drew ?_))); (case side6 => exact HC2.out); rintro e w10 ⟨rfl, hb⟩; refine ⟨_, rfl, ?_⟩; have n0_ := Aside0.mk (blk_below (g := gb275) (o := .cells #[.string a3_0, .string a3_1, .bool a3_2] 26 (0, 0)) (by (with_reducible repeat (first | refine blk_drewN ?_ _ | refine blk_drew ?_ | refine blk_alloc ?_ _)); exact BK275.out) hb); have n1_ := Aside0.mk (below_step (by repeat (first | (with_reducible first | exact HB.out | apply below_alloc | apply pw_below_drewN | apply below_drew1 | refine below_set ?_ GE275.out) | exact HB.out)) hb); clear BK275; clear HB; have BK275 := n0_; have HB := n1_; clear n0_ n1_; (try clear hb); (try clear hb2); (try clear hk); (try clear hi); have hcz11_0 : w10.cell? ⟨gb275, 0, none⟩ = some (.string a3_0) := (blk_cell BK275.out 0).trans rfl; have hcz11_1 : w10.cell? ⟨gb275, 1, none⟩ = some (.string a3_1) := (blk_cell BK275.out 1).trans rfl; have hcz11_2 : w10.cell? ⟨gb275, 2, none⟩ = some (.bool a3_2) := (blk_cell BK275.out 2).trans rfl; have hfz11_0 := blk_frozen BK275.out 0; have hfz11_1 := blk_frozen BK275.out 1; have hfz11_2 := blk_frozen BK275.out 2) | ((with_reducible refine gate_dst (N := 37) rfl ?_); (try (refine gate_guard (by rfl) ?_; dsimp only)); refine Kd.R_lit Kd.string _ 9 ?hg (N := 37) ?hd (xs := ([a3_0, a3_1] : List ByteArray)) (inner := [.string a3_0, .string a3_1]) (ok := fun _ => True) (okp := fun _ => True) ?hr ?hp (fun _ hk => hk) trivial (Below.refl _ _) (Nat.le_refl _) (by simp) ?_; (case hd => rfl); (case hg => rfl); (case hr => first | (go_simp; done) | (go_simp; rfl)); (case hp => exact (Reps.one (show Kd.M Kd.string _ _ _ a3_0 [.string a3_0] from rfl) (Reps.one (show Kd.M Kd.string _ _ _ a3_1 [.string a3_1] from rfl) (Reps.none _ _)))); intro v278 w12 ho13 hb hg_ hnew_; clear hg_ hnew_; (first | rw [← Ny277.out] at ho13 | (simp only [Int.reduceToNat] at ho13; rw [← Ny277.out] at ho13)); have n0_ := Aside0.mk (Kd.R_lower ho13 (below_size (by repeat (first | (with_reducible first | exact HB.out | apply below_alloc | apply pw_below_drewN | apply below_drew1 | refine below_set ?_ GE275.out) | exact HB.out)))); have n1_ := Aside0.mk (blk_below (g := gb275) (o := .cells #[.string a3_0, .string a3_1, .bool a3_2] 26 (0, 0)) (by (with_reducible repeat (first | refine blk_drewN ?_ _ | refine blk_drew ?_ | refine blk_alloc ?_ _)); exact BK275.out) hb); have n2_ := Aside0.mk (below_step (by repeat (first | (with_reducible first | exact HB.out | apply below_alloc | apply pw_below_drewN | apply below_drew1 | refine below_set ?_ GE275.out) | exact HB.out)) hb); clear BK275; clear HB; have HO279 := n0_; have BK275 := n1_; have HB := n2_; clear n0_ n1_ n2_; clear hb ho13; obtain ⟨Ao14, co14, eo14⟩ := Kd.R_slice HO279.out; subst eo14) | (go_at_call 14; (with_reducible refine (weirkeeperlaw13_short.calls k _ _ y277 t280 _ ?side1 ?side2 A9.out).mono ?_); (case side1 => repeat (first | exact (Kd.R_reads' HO279.out).2.2 | (with_reducible refine Kd.C_alloc ?_ _) | (with_reducible refine Kd.C_drewN ?_ _) | (with_reducible refine Kd.C_drew ?_))); (case side2 => exact (Kd.R_reads' HO279.out).2.1); rintro e w' ⟨rfl, ⟨nd, rfl⟩⟩))
      go_meet
      case rel => exact ⟨_, (!t280), (by first | rfl | (simp; done) | (simp [*]; done)), H', ⟨by first | omega | exact Nat.le_refl _⟩, ⟨by (with_reducible repeat (first | refine blk_drewN ?_ _ | refine blk_drew ?_ | refine blk_alloc ?_ _)); exact BK275.out⟩, ⟨by repeat (first | (with_reducible first | exact HB.out | apply below_alloc | apply pw_below_drewN | apply below_drew1 | refine below_set ?_ GE275.out) | exact HB.out)⟩⟩
    · replace c8 := Bool.eq_false_iff.mpr c8
      subst c8
      have H1 : (weirkeeperlaw13_FlatWrites.j0 k l0 l1 l2 true a3_0 a3_1 a3_2) = some true := by rw [if_neg (show ¬ (false = true) by decide)] at H; exact H
      clear H
      have H := H1
      clear H1
      have H' := Aside0.mk H
      clear H
      go_wp2_with (first | ((with_reducible refine gate_callee (f := 13) rfl ?_); refine goesL_ (some 30) rfl rfl Try.func13 (by kernel_rfl) rfl #[.slice A0 l0.length c0, .slice A1 l1.length c1, .slice A2 l2.length c2] rfl (by (try simp only [List.map_toArray, List.map_cons, List.map_nil]); first | done | rfl | (simp only [List.length_drop, List.length_take]; rfl)) ?_; (with_reducible refine (weirkeeperlaw13_fit.calls k _ _ l0 _ _ l1 _ _ l2 false _ ?side1 ?side2 ?side3 ?side4 ?side5 ?side6 A7.out).mono ?_); (case side1 => repeat (first | exact (Kd.C_below HR0.out HB.out) | (with_reducible refine Kd.C_alloc ?_ _) | (with_reducible refine Kd.C_drewN ?_ _) | (with_reducible refine Kd.C_drew ?_))); (case side2 => exact HC0.out); (case side3 => repeat (first | exact (Kd.C_below HR1.out HB.out) | (with_reducible refine Kd.C_alloc ?_ _) | (with_reducible refine Kd.C_drewN ?_ _) | (with_reducible refine Kd.C_drew ?_))); (case side4 => exact HC1.out); (case side5 => repeat (first | exact (Kd.C_below HR2.out HB.out) | (with_reducible refine Kd.C_alloc ?_ _) | (with_reducible refine Kd.C_drewN ?_ _) | (with_reducible refine Kd.C_drew ?_))); (case side6 => exact HC2.out); rintro e w15 ⟨rfl, hb⟩; refine ⟨_, rfl, ?_⟩; have n0_ := Aside0.mk (blk_below (g := gb275) (o := .cells #[.string a3_0, .string a3_1, .bool a3_2] 26 (0, 0)) (by (with_reducible repeat (first | refine blk_drewN ?_ _ | refine blk_drew ?_ | refine blk_alloc ?_ _)); exact BK275.out) hb); have n1_ := Aside0.mk (below_step (by repeat (first | (with_reducible first | exact HB.out | apply below_alloc | apply pw_below_drewN | apply below_drew1 | refine below_set ?_ GE275.out) | exact HB.out)) hb); clear BK275; clear HB; have BK275 := n0_; have HB := n1_; clear n0_ n1_; (try clear hb); (try clear hb2); (try clear hk); (try clear hi)))
      go_meet
      case rel => exact ⟨_, (true), (by first | rfl | (simp; done) | (simp [*]; done)), H', ⟨by first | omega | exact Nat.le_refl _⟩, ⟨by (with_reducible repeat (first | refine blk_drewN ?_ _ | refine blk_drew ?_ | refine blk_alloc ?_ _)); exact BK275.out⟩, ⟨by repeat (first | (with_reducible first | exact HB.out | apply below_alloc | apply pw_below_drewN | apply below_drew1 | refine below_set ?_ GE275.out) | exact HB.out)⟩⟩
  case rest =>
    clear HC5
    try clear c1
    try clear c2
    try clear p2
    try clear c3
    try clear c8
    try clear c13
    try clear hcz11_0
    try clear hcz11_1
    try clear hcz11_2
    try clear hfz11_0
    try clear hfz11_1
    try clear hfz11_2
    obtain ⟨kq, x40_4, rfl, HA, HJ4, BK275, HB⟩ := hcut
    cases kq with
    | zero => exact absurd HA.out (by simp [weirkeeperlaw13_FlatWrites.j0])
    | succ kj4 =>
      have H := HA.out
      clear HA
      simp only [weirkeeperlaw13_FlatWrites.j0] at H
      by_cases c16 : x40_4 = true
      · subst c16
        have H1 : ((weirkeeperlaw13_awake.f kj4).bind fun t281 => (some t281)) = some true := by rw [if_pos rfl] at H; exact H
        clear H
        have H := H1
        clear H1
        replace H := Option.bind_eq_some_iff.mp H
        obtain ⟨t281, A170, H⟩ := H
        replace H : (some t281) = some true := H
        have A17 := Aside0.mk A170
        clear A170
        (have H9_ := Option.some.inj H; first | subst H9_ | (have h9_ := Aside0.mk H9_; clear H9_))
        go_wp2_with (first | ((with_reducible refine gate_callee (f := 15) rfl ?_); refine goesL_ (some 41) rfl rfl Try.func15 (by kernel_rfl) rfl #[] rfl (by (try simp only [List.map_toArray, List.map_cons, List.map_nil]); first | done | rfl | (simp only [List.length_drop, List.length_take]; rfl)) ?_; (with_reducible refine (weirkeeperlaw13_awake.calls kj4 _ A17.out).mono ?_); rintro e w18 ⟨rfl, hb⟩; refine ⟨_, rfl, ?_⟩; have n0_ := Aside0.mk (blk_below (g := gb275) (o := .cells #[.string a3_0, .string a3_1, .bool a3_2] 26 (0, 0)) (by (with_reducible repeat (first | refine blk_drewN ?_ _ | refine blk_drew ?_ | refine blk_alloc ?_ _)); exact BK275.out) hb); have n1_ := Aside0.mk (below_step (by repeat (first | (with_reducible first | exact HB.out | apply below_alloc | apply pw_below_drewN | apply below_drew1 | refine below_set ?_ GE275.out) | exact HB.out)) hb); clear BK275; clear HB; have BK275 := n0_; have HB := n1_; clear n0_ n1_; (try clear hb); (try clear hb2); (try clear hk); (try clear hi)))
        go_ret
        exact ⟨by first | rfl | (simp only [h9_.out]; done) | (have h8_ := h9_.out; simp [h8_]; done) | (simp [errW_none, errW_some] <;> rfl) | (simp [*, errW_none, errW_some] <;> rfl), by repeat (first | (with_reducible first | exact HB.out | apply below_alloc | apply pw_below_drewN | apply below_drew1 | refine below_set ?_ GE275.out) | exact HB.out)⟩
      · replace c16 := Bool.eq_false_iff.mpr c16
        subst c16
        have H1 : ((flat_Notes.f kj4 l0).bind fun bt282 => ((flat_Pairs.f kj4 l1).bind fun bt284 => ((flat_Changes.f kj4 l2).bind fun bt286 => ((flat_Range.f kj4 a3_0 a3_1 a3_2).bind fun bt288 => ((weirkeeperref13_Notes.f kj4 l0).bind fun bt290 => ((weirkeeperref13_Pairs.f kj4 l1).bind fun bt292 => ((weirkeeperref13_Changes.f kj4 l2).bind fun bt294 => ((weirkeeperref13_Range.f kj4 a3_0 a3_1 a3_2).bind fun bt296 => (weirkeeperlaw13_FlatWrites.l0 kj4 bt282.1 bt282.2 bt284.1 bt284.2 bt286.1 bt286.2 bt288.1 bt288.2 bt290.1 bt290.2 bt292.1 bt292.2 bt294.1 bt294.2 bt296.1 bt296.2 l2 (l2.length : Int) 0))))))))) = some true := by rw [if_neg (show ¬ (false = true) by decide)] at H; exact H
        clear H
        have H := H1
        clear H1
        replace H := Option.bind_eq_some_iff.mp H
        obtain ⟨⟨t282, t283⟩, A190, H⟩ := H
        replace H : ((flat_Pairs.f kj4 l1).bind fun bt284 => ((flat_Changes.f kj4 l2).bind fun bt286 => ((flat_Range.f kj4 a3_0 a3_1 a3_2).bind fun bt288 => ((weirkeeperref13_Notes.f kj4 l0).bind fun bt290 => ((weirkeeperref13_Pairs.f kj4 l1).bind fun bt292 => ((weirkeeperref13_Changes.f kj4 l2).bind fun bt294 => ((weirkeeperref13_Range.f kj4 a3_0 a3_1 a3_2).bind fun bt296 => (weirkeeperlaw13_FlatWrites.l0 kj4 t282 t283 bt284.1 bt284.2 bt286.1 bt286.2 bt288.1 bt288.2 bt290.1 bt290.2 bt292.1 bt292.2 bt294.1 bt294.2 bt296.1 bt296.2 l2 (l2.length : Int) 0)))))))) = some true := H
        have A19 := Aside0.mk A190
        clear A190
        replace H := Option.bind_eq_some_iff.mp H
        obtain ⟨⟨t284, t285⟩, A200, H⟩ := H
        replace H : ((flat_Changes.f kj4 l2).bind fun bt286 => ((flat_Range.f kj4 a3_0 a3_1 a3_2).bind fun bt288 => ((weirkeeperref13_Notes.f kj4 l0).bind fun bt290 => ((weirkeeperref13_Pairs.f kj4 l1).bind fun bt292 => ((weirkeeperref13_Changes.f kj4 l2).bind fun bt294 => ((weirkeeperref13_Range.f kj4 a3_0 a3_1 a3_2).bind fun bt296 => (weirkeeperlaw13_FlatWrites.l0 kj4 t282 t283 t284 t285 bt286.1 bt286.2 bt288.1 bt288.2 bt290.1 bt290.2 bt292.1 bt292.2 bt294.1 bt294.2 bt296.1 bt296.2 l2 (l2.length : Int) 0))))))) = some true := H
        have A20 := Aside0.mk A200
        clear A200
        replace H := Option.bind_eq_some_iff.mp H
        obtain ⟨⟨t286, t287⟩, A210, H⟩ := H
        replace H : ((flat_Range.f kj4 a3_0 a3_1 a3_2).bind fun bt288 => ((weirkeeperref13_Notes.f kj4 l0).bind fun bt290 => ((weirkeeperref13_Pairs.f kj4 l1).bind fun bt292 => ((weirkeeperref13_Changes.f kj4 l2).bind fun bt294 => ((weirkeeperref13_Range.f kj4 a3_0 a3_1 a3_2).bind fun bt296 => (weirkeeperlaw13_FlatWrites.l0 kj4 t282 t283 t284 t285 t286 t287 bt288.1 bt288.2 bt290.1 bt290.2 bt292.1 bt292.2 bt294.1 bt294.2 bt296.1 bt296.2 l2 (l2.length : Int) 0)))))) = some true := H
        have A21 := Aside0.mk A210
        clear A210
        replace H := Option.bind_eq_some_iff.mp H
        obtain ⟨⟨t288, t289⟩, A220, H⟩ := H
        replace H : ((weirkeeperref13_Notes.f kj4 l0).bind fun bt290 => ((weirkeeperref13_Pairs.f kj4 l1).bind fun bt292 => ((weirkeeperref13_Changes.f kj4 l2).bind fun bt294 => ((weirkeeperref13_Range.f kj4 a3_0 a3_1 a3_2).bind fun bt296 => (weirkeeperlaw13_FlatWrites.l0 kj4 t282 t283 t284 t285 t286 t287 t288 t289 bt290.1 bt290.2 bt292.1 bt292.2 bt294.1 bt294.2 bt296.1 bt296.2 l2 (l2.length : Int) 0))))) = some true := H
        have A22 := Aside0.mk A220
        clear A220
        replace H := Option.bind_eq_some_iff.mp H
        obtain ⟨⟨t290, t291⟩, A230, H⟩ := H
        replace H : ((weirkeeperref13_Pairs.f kj4 l1).bind fun bt292 => ((weirkeeperref13_Changes.f kj4 l2).bind fun bt294 => ((weirkeeperref13_Range.f kj4 a3_0 a3_1 a3_2).bind fun bt296 => (weirkeeperlaw13_FlatWrites.l0 kj4 t282 t283 t284 t285 t286 t287 t288 t289 t290 t291 bt292.1 bt292.2 bt294.1 bt294.2 bt296.1 bt296.2 l2 (l2.length : Int) 0)))) = some true := H
        have A23 := Aside0.mk A230
        clear A230
        replace H := Option.bind_eq_some_iff.mp H
        obtain ⟨⟨t292, t293⟩, A240, H⟩ := H
        replace H : ((weirkeeperref13_Changes.f kj4 l2).bind fun bt294 => ((weirkeeperref13_Range.f kj4 a3_0 a3_1 a3_2).bind fun bt296 => (weirkeeperlaw13_FlatWrites.l0 kj4 t282 t283 t284 t285 t286 t287 t288 t289 t290 t291 t292 t293 bt294.1 bt294.2 bt296.1 bt296.2 l2 (l2.length : Int) 0))) = some true := H
        have A24 := Aside0.mk A240
        clear A240
        replace H := Option.bind_eq_some_iff.mp H
        obtain ⟨⟨t294, t295⟩, A250, H⟩ := H
        replace H : ((weirkeeperref13_Range.f kj4 a3_0 a3_1 a3_2).bind fun bt296 => (weirkeeperlaw13_FlatWrites.l0 kj4 t282 t283 t284 t285 t286 t287 t288 t289 t290 t291 t292 t293 t294 t295 bt296.1 bt296.2 l2 (l2.length : Int) 0)) = some true := H
        have A25 := Aside0.mk A250
        clear A250
        replace H := Option.bind_eq_some_iff.mp H
        obtain ⟨⟨t296, t297⟩, A260, H⟩ := H
        replace H : (weirkeeperlaw13_FlatWrites.l0 kj4 t282 t283 t284 t285 t286 t287 t288 t289 t290 t291 t292 t293 t294 t295 t296 t297 l2 (l2.length : Int) 0) = some true := H
        have A26 := Aside0.mk A260
        clear A260
        have H' := Aside0.mk H
        clear H
        go_wp2_with (first | ((with_reducible refine gate_callee (f := 16) rfl ?_); refine goesL_ (some 44) rfl rfl Try.func16 (by kernel_rfl) rfl #[.slice A0 l0.length c0] rfl (by (try simp only [List.map_toArray, List.map_cons, List.map_nil]); first | done | rfl | (simp only [List.length_drop, List.length_take]; rfl)) ?_; (with_reducible refine (flat_Notes.calls kj4 _ _ l0 t282 t283 _ ?side1 ?side2 A19.out).mono ?_); (case side1 => repeat (first | exact (Kd.C_below HR0.out HB.out) | (with_reducible refine Kd.C_alloc ?_ _) | (with_reducible refine Kd.C_drewN ?_ _) | (with_reducible refine Kd.C_drew ?_))); (case side2 => exact HC0.out); rintro e w27 ⟨rfl, hb⟩; refine ⟨_, rfl, ?_⟩; have n0_ := Aside0.mk (blk_below (g := gb275) (o := .cells #[.string a3_0, .string a3_1, .bool a3_2] 26 (0, 0)) (by (with_reducible repeat (first | refine blk_drewN ?_ _ | refine blk_drew ?_ | refine blk_alloc ?_ _)); exact BK275.out) hb); have n1_ := Aside0.mk (below_step (by repeat (first | (with_reducible first | exact HB.out | apply below_alloc | apply pw_below_drewN | apply below_drew1 | refine below_set ?_ GE275.out) | exact HB.out)) hb); clear BK275; clear HB; have BK275 := n0_; have HB := n1_; clear n0_ n1_; (try clear hb); (try clear hb2); (try clear hk); (try clear hi)) | ((with_reducible refine gate_callee (f := 17) rfl ?_); refine goesL_ (some 49) rfl rfl Try.func17 (by kernel_rfl) rfl #[.slice A1 l1.length c1] rfl (by (try simp only [List.map_toArray, List.map_cons, List.map_nil]); first | done | rfl | (simp only [List.length_drop, List.length_take]; rfl)) ?_; (with_reducible refine (flat_Pairs.calls kj4 _ _ l1 t284 t285 _ ?side1 ?side2 A20.out).mono ?_); (case side1 => repeat (first | exact (Kd.C_below HR1.out HB.out) | (with_reducible refine Kd.C_alloc ?_ _) | (with_reducible refine Kd.C_drewN ?_ _) | (with_reducible refine Kd.C_drew ?_))); (case side2 => exact HC1.out); rintro e w28 ⟨rfl, hb⟩; refine ⟨_, rfl, ?_⟩; have n0_ := Aside0.mk (blk_below (g := gb275) (o := .cells #[.string a3_0, .string a3_1, .bool a3_2] 26 (0, 0)) (by (with_reducible repeat (first | refine blk_drewN ?_ _ | refine blk_drew ?_ | refine blk_alloc ?_ _)); exact BK275.out) hb); have n1_ := Aside0.mk (below_step (by repeat (first | (with_reducible first | exact HB.out | apply below_alloc | apply pw_below_drewN | apply below_drew1 | refine below_set ?_ GE275.out) | exact HB.out)) hb); clear BK275; clear HB; have BK275 := n0_; have HB := n1_; clear n0_ n1_; (try clear hb); (try clear hb2); (try clear hk); (try clear hi)) | ((with_reducible refine gate_callee (f := 18) rfl ?_); refine goesL_ (some 54) rfl rfl Try.func18 (by kernel_rfl) rfl #[.slice A2 l2.length c2] rfl (by (try simp only [List.map_toArray, List.map_cons, List.map_nil]); first | done | rfl | (simp only [List.length_drop, List.length_take]; rfl)) ?_; (with_reducible refine (flat_Changes.calls kj4 _ _ l2 t286 t287 _ ?side1 ?side2 A21.out).mono ?_); (case side1 => repeat (first | exact (Kd.C_below HR2.out HB.out) | (with_reducible refine Kd.C_alloc ?_ _) | (with_reducible refine Kd.C_drewN ?_ _) | (with_reducible refine Kd.C_drew ?_))); (case side2 => exact HC2.out); rintro e w29 ⟨rfl, hb⟩; refine ⟨_, rfl, ?_⟩; have n0_ := Aside0.mk (blk_below (g := gb275) (o := .cells #[.string a3_0, .string a3_1, .bool a3_2] 26 (0, 0)) (by (with_reducible repeat (first | refine blk_drewN ?_ _ | refine blk_drew ?_ | refine blk_alloc ?_ _)); exact BK275.out) hb); have n1_ := Aside0.mk (below_step (by repeat (first | (with_reducible first | exact HB.out | apply below_alloc | apply pw_below_drewN | apply below_drew1 | refine below_set ?_ GE275.out) | exact HB.out)) hb); clear BK275; clear HB; have BK275 := n0_; have HB := n1_; clear n0_ n1_; (try clear hb); (try clear hb2); (try clear hk); (try clear hi); have hcz30_0 : w29.cell? ⟨gb275, 0, none⟩ = some (.string a3_0) := (blk_cell BK275.out 0).trans rfl; have hcz30_1 : w29.cell? ⟨gb275, 1, none⟩ = some (.string a3_1) := (blk_cell BK275.out 1).trans rfl; have hcz30_2 : w29.cell? ⟨gb275, 2, none⟩ = some (.bool a3_2) := (blk_cell BK275.out 2).trans rfl; have hfz30_0 := blk_frozen BK275.out 0; have hfz30_1 := blk_frozen BK275.out 1; have hfz30_2 := blk_frozen BK275.out 2) | ((with_reducible refine gate_callee (f := 19) rfl ?_); refine goesL_ (some 59) rfl rfl Try.func19 (by kernel_rfl) rfl #[.agg #[.string a3_0, .string a3_1, .bool a3_2]] rfl (by (try simp only [List.map_toArray, List.map_cons, List.map_nil]); first | done | rfl | (simp only [List.length_drop, List.length_take]; rfl)) ?_; (with_reducible refine (flat_Range.calls kj4 a3_0 a3_1 a3_2 t288 t289 _ A22.out).mono ?_); rintro e w31 ⟨rfl, hb⟩; refine ⟨_, rfl, ?_⟩; have n0_ := Aside0.mk (blk_below (g := gb275) (o := .cells #[.string a3_0, .string a3_1, .bool a3_2] 26 (0, 0)) (by (with_reducible repeat (first | refine blk_drewN ?_ _ | refine blk_drew ?_ | refine blk_alloc ?_ _)); exact BK275.out) hb); have n1_ := Aside0.mk (below_step (by repeat (first | (with_reducible first | exact HB.out | apply below_alloc | apply pw_below_drewN | apply below_drew1 | refine below_set ?_ GE275.out) | exact HB.out)) hb); clear BK275; clear HB; have BK275 := n0_; have HB := n1_; clear n0_ n1_; (try clear hb); (try clear hb2); (try clear hk); (try clear hi)) | ((with_reducible refine gate_callee (f := 20) rfl ?_); refine goesL_ (some 64) rfl rfl Try.func20 (by kernel_rfl) rfl #[.slice A0 l0.length c0] rfl (by (try simp only [List.map_toArray, List.map_cons, List.map_nil]); first | done | rfl | (simp only [List.length_drop, List.length_take]; rfl)) ?_; (with_reducible refine (weirkeeperref13_Notes.calls kj4 _ _ l0 t290 t291 _ ?side1 ?side2 A23.out).mono ?_); (case side1 => repeat (first | exact (Kd.C_below HR0.out HB.out) | (with_reducible refine Kd.C_alloc ?_ _) | (with_reducible refine Kd.C_drewN ?_ _) | (with_reducible refine Kd.C_drew ?_))); (case side2 => exact HC0.out); rintro e w32 ⟨rfl, hb⟩; refine ⟨_, rfl, ?_⟩; have n0_ := Aside0.mk (blk_below (g := gb275) (o := .cells #[.string a3_0, .string a3_1, .bool a3_2] 26 (0, 0)) (by (with_reducible repeat (first | refine blk_drewN ?_ _ | refine blk_drew ?_ | refine blk_alloc ?_ _)); exact BK275.out) hb); have n1_ := Aside0.mk (below_step (by repeat (first | (with_reducible first | exact HB.out | apply below_alloc | apply pw_below_drewN | apply below_drew1 | refine below_set ?_ GE275.out) | exact HB.out)) hb); clear BK275; clear HB; have BK275 := n0_; have HB := n1_; clear n0_ n1_; (try clear hb); (try clear hb2); (try clear hk); (try clear hi)) | ((with_reducible refine gate_callee (f := 21) rfl ?_); refine goesL_ (some 69) rfl rfl Try.func21 (by kernel_rfl) rfl #[.slice A1 l1.length c1] rfl (by (try simp only [List.map_toArray, List.map_cons, List.map_nil]); first | done | rfl | (simp only [List.length_drop, List.length_take]; rfl)) ?_; (with_reducible refine (weirkeeperref13_Pairs.calls kj4 _ _ l1 t292 t293 _ ?side1 ?side2 A24.out).mono ?_); (case side1 => repeat (first | exact (Kd.C_below HR1.out HB.out) | (with_reducible refine Kd.C_alloc ?_ _) | (with_reducible refine Kd.C_drewN ?_ _) | (with_reducible refine Kd.C_drew ?_))); (case side2 => exact HC1.out); rintro e w33 ⟨rfl, hb⟩; refine ⟨_, rfl, ?_⟩; have n0_ := Aside0.mk (blk_below (g := gb275) (o := .cells #[.string a3_0, .string a3_1, .bool a3_2] 26 (0, 0)) (by (with_reducible repeat (first | refine blk_drewN ?_ _ | refine blk_drew ?_ | refine blk_alloc ?_ _)); exact BK275.out) hb); have n1_ := Aside0.mk (below_step (by repeat (first | (with_reducible first | exact HB.out | apply below_alloc | apply pw_below_drewN | apply below_drew1 | refine below_set ?_ GE275.out) | exact HB.out)) hb); clear BK275; clear HB; have BK275 := n0_; have HB := n1_; clear n0_ n1_; (try clear hb); (try clear hb2); (try clear hk); (try clear hi)) | ((with_reducible refine gate_callee (f := 22) rfl ?_); refine goesL_ (some 74) rfl rfl Try.func22 (by kernel_rfl) rfl #[.slice A2 l2.length c2] rfl (by (try simp only [List.map_toArray, List.map_cons, List.map_nil]); first | done | rfl | (simp only [List.length_drop, List.length_take]; rfl)) ?_; (with_reducible refine (weirkeeperref13_Changes.calls kj4 _ _ l2 t294 t295 _ ?side1 ?side2 A25.out).mono ?_); (case side1 => repeat (first | exact (Kd.C_below HR2.out HB.out) | (with_reducible refine Kd.C_alloc ?_ _) | (with_reducible refine Kd.C_drewN ?_ _) | (with_reducible refine Kd.C_drew ?_))); (case side2 => exact HC2.out); rintro e w34 ⟨rfl, hb⟩; refine ⟨_, rfl, ?_⟩; have n0_ := Aside0.mk (blk_below (g := gb275) (o := .cells #[.string a3_0, .string a3_1, .bool a3_2] 26 (0, 0)) (by (with_reducible repeat (first | refine blk_drewN ?_ _ | refine blk_drew ?_ | refine blk_alloc ?_ _)); exact BK275.out) hb); have n1_ := Aside0.mk (below_step (by repeat (first | (with_reducible first | exact HB.out | apply below_alloc | apply pw_below_drewN | apply below_drew1 | refine below_set ?_ GE275.out) | exact HB.out)) hb); clear BK275; clear HB; have BK275 := n0_; have HB := n1_; clear n0_ n1_; (try clear hb); (try clear hb2); (try clear hk); (try clear hi); have hcz35_0 : w34.cell? ⟨gb275, 0, none⟩ = some (.string a3_0) := (blk_cell BK275.out 0).trans rfl; have hcz35_1 : w34.cell? ⟨gb275, 1, none⟩ = some (.string a3_1) := (blk_cell BK275.out 1).trans rfl; have hcz35_2 : w34.cell? ⟨gb275, 2, none⟩ = some (.bool a3_2) := (blk_cell BK275.out 2).trans rfl; have hfz35_0 := blk_frozen BK275.out 0; have hfz35_1 := blk_frozen BK275.out 1; have hfz35_2 := blk_frozen BK275.out 2) | ((with_reducible refine gate_callee (f := 23) rfl ?_); refine goesL_ (some 79) rfl rfl Try.func23 (by kernel_rfl) rfl #[.agg #[.string a3_0, .string a3_1, .bool a3_2]] rfl (by (try simp only [List.map_toArray, List.map_cons, List.map_nil]); first | done | rfl | (simp only [List.length_drop, List.length_take]; rfl)) ?_; (with_reducible refine (weirkeeperref13_Range.calls kj4 a3_0 a3_1 a3_2 t296 t297 _ A26.out).mono ?_); rintro e w36 ⟨rfl, hb⟩; refine ⟨_, rfl, ?_⟩; have n0_ := Aside0.mk (blk_below (g := gb275) (o := .cells #[.string a3_0, .string a3_1, .bool a3_2] 26 (0, 0)) (by (with_reducible repeat (first | refine blk_drewN ?_ _ | refine blk_drew ?_ | refine blk_alloc ?_ _)); exact BK275.out) hb); have n1_ := Aside0.mk (below_step (by repeat (first | (with_reducible first | exact HB.out | apply below_alloc | apply pw_below_drewN | apply below_drew1 | refine below_set ?_ GE275.out) | exact HB.out)) hb); clear BK275; clear HB; have BK275 := n0_; have HB := n1_; clear n0_ n1_; (try clear hb); (try clear hb2); (try clear hk); (try clear hi)))
        go_loopg [84] kj4 (fun kq v84 w' => ∃ (x84_2 : Int), v84 = .int .i64 x84_2 ∧ Aside0 (weirkeeperlaw13_FlatWrites.l0 kq t282 t283 t284 t285 t286 t287 t288 t289 t290 t291 t292 t293 t294 t295 t296 t297 l2 (l2.length : Int) x84_2 = some true) ∧ Aside0 (kq ≤ kj4) ∧ Aside0 (w'.heap[gb275]? = some (.cells #[.string a3_0, .string a3_1, .bool a3_2] 26 (0, 0))) ∧ Aside0 (Below w.heap.size w w'))
        case atStart => exact ⟨(0), (by first | rfl | (simp; done) | (simp [*]; done)), H', ⟨Nat.le_refl _⟩, ⟨by (with_reducible repeat (first | refine blk_drewN ?_ _ | refine blk_drew ?_ | refine blk_alloc ?_ _)); exact BK275.out⟩, ⟨by repeat (first | (with_reducible first | exact HB.out | apply below_alloc | apply pw_below_drewN | apply below_drew1 | refine below_set ?_ GE275.out) | exact HB.out)⟩⟩
        case round =>
          clear H'
          try clear c1
          try clear c2
          try clear p2
          try clear c3
          try clear c8
          try clear c13
          try clear c15
          try clear c16
          try clear c17
          try clear c18
          try clear c19
          try clear c20
          try clear c21
          try clear c22
          try clear c23
          try clear hcz11_0
          try clear hcz11_1
          try clear hcz11_2
          try clear hcz30_0
          try clear hcz30_1
          try clear hcz30_2
          try clear hcz35_0
          try clear hcz35_1
          try clear hcz35_2
          try clear hfz11_0
          try clear hfz11_1
          try clear hfz11_2
          try clear hfz30_0
          try clear hfz30_1
          try clear hfz30_2
          try clear hfz35_0
          try clear hfz35_1
          try clear hfz35_2
          try clear p2
          obtain ⟨x84_2, rfl, HA, HK2, BK275, HB⟩ := hrel
          cases gk with
          | zero => exact absurd HA.out (by simp [weirkeeperlaw13_FlatWrites.l0])
          | succ k2 =>
            have H := HA.out
            clear HA
            simp only [weirkeeperlaw13_FlatWrites.l0] at H
            by_cases c37 : x84_2 < (l2.length : Int)
            · rw [if_pos c37] at H
              have c37b0 : decide (x84_2 < (l2.length : Int)) = true := decide_eq_true c37
              clear c37
              by_cases c38 : 0 ≤ x84_2
              · rw [if_pos c38] at H
                have c38b0 : decide (0 ≤ x84_2) = true := decide_eq_true c38
                clear c38
                by_cases c39 : x84_2 < (l2.length : Int)
                · rw [if_pos c39] at H
                  have c39b0 : decide (x84_2 < (l2.length : Int)) = true := decide_eq_true c39
                  clear c39
                  replace H := Option.bind_eq_some_iff.mp H
                  obtain ⟨t300, A400, H⟩ := H
                  replace H : ((weirkeeperref13_May.f k2 ((rd_T42 l2 x84_2).f0) ((rd_T42 l2 x84_2).f1) ((rd_T42 l2 x84_2).f2) ((rd_T42 l2 x84_2).f3) ((rd_T42 l2 x84_2).f4) ((rd_T42 l2 x84_2).f5)).bind fun t301 => (if (t300 != t301) = true then (some false) else (weirkeeperlaw13_FlatWrites.l0 k2 t282 t283 t284 t285 t286 t287 t288 t289 t290 t291 t292 t293 t294 t295 t296 t297 l2 (l2.length : Int) (wrap64 (x84_2 + 1))))) = some true := H
                  have A40 := Aside0.mk A400
                  clear A400
                  replace H := Option.bind_eq_some_iff.mp H
                  obtain ⟨t301, A410, H⟩ := H
                  replace H : (if (t300 != t301) = true then (some false) else (weirkeeperlaw13_FlatWrites.l0 k2 t282 t283 t284 t285 t286 t287 t288 t289 t290 t291 t292 t293 t294 t295 t296 t297 l2 (l2.length : Int) (wrap64 (x84_2 + 1)))) = some true := H
                  have A41 := Aside0.mk A410
                  clear A410
                  by_cases c42 : (t300 != t301) = true
                  · rw [if_pos c42] at H
                    have c42b0 : (t300 != t301) = true := c42
                    (try (have c42b1 : decide (t300 = t301) = false := by simpa using c42))
                    (try (have c42b2 : (t300 == t301) = false := by simpa using c42))
                    (try (have c42b3 : ¬ (t300 = t301) := by simpa using c42))
                    clear c42
                    exact absurd H (by simp)
                  · rw [if_neg c42] at H
                    have c42b0 : (t300 != t301) = false := by simpa using c42
                    (try (have c42b1 : decide (t300 = t301) = true := by simpa using c42))
                    (try (have c42b2 : (t300 == t301) = true := by simpa using c42))
                    clear c42
                    have H' := Aside0.mk H
                    clear H
                    have p298 : 0 ≤ (x84_2 : Int) := of_decide_eq_true (by first | (with_reducible assumption) | assumption)
                    have q298 : x84_2 < (l2.length : Int) := of_decide_eq_true (by first | (with_reducible assumption) | assumption)
                    obtain ⟨ad298, e298, hx298_0, hx298_1, hx298_2, hx298_3, hx298_4, hx298_5⟩ := at_T42 HR2.out x84_2 p298 q298
                    cases e298
                    replace hx298_0 := (HB.out.cell (World.block_lt_of_cell? w _ hx298_0)).trans hx298_0
                    replace hx298_1 := (HB.out.cell (World.block_lt_of_cell? w _ hx298_1)).trans hx298_1
                    replace hx298_2 := (HB.out.cell (World.block_lt_of_cell? w _ hx298_2)).trans hx298_2
                    replace hx298_3 := (HB.out.cell (World.block_lt_of_cell? w _ hx298_3)).trans hx298_3
                    replace hx298_4 := (HB.out.cell (World.block_lt_of_cell? w _ hx298_4)).trans hx298_4
                    replace hx298_5 := (HB.out.cell (World.block_lt_of_cell? w _ hx298_5)).trans hx298_5
                    replace p298 := eq_true p298
                    replace q298 := eq_true q298
                    try go_wp2_with (first | ((with_reducible refine gate_dst (N := 26) rfl ?_); (try (refine gate_guard (by rfl) ?_; dsimp only)); refine box_event ?hg (N := 26) ?hd (cs := #[.int .i64 0, .string (⟨#[]⟩ : ByteArray), .bool false, .string (⟨#[]⟩ : ByteArray), .bool false, .string (⟨#[]⟩ : ByteArray)]) (t := 42) ?hr ?_; (case hd => rfl); (case hg => rfl); (case hr => first | (go_simp; done) | (go_simp; rfl)); intro gb299 hg w43 hbox hb; have n0_ := Aside0.mk (blk_below (g := gb275) (o := .cells #[.string a3_0, .string a3_1, .bool a3_2] 26 (0, 0)) (by (with_reducible repeat (first | refine blk_drewN ?_ _ | refine blk_drew ?_ | refine blk_alloc ?_ _)); exact BK275.out) hb); have n1_ := Aside0.mk (below_step (by repeat (first | (with_reducible first | exact HB.out | apply below_alloc | apply pw_below_drewN | apply below_drew1 | refine below_set ?_ GE275.out) | exact HB.out)) hb); have n2_ := Aside0.mk (hbox); have n3_ := Aside0.mk ((by rw [hg]; exact (below_size (by repeat (first | (with_reducible first | exact HB.out | apply below_alloc | apply pw_below_drewN | apply below_drew1 | refine below_set ?_ GE275.out) | exact HB.out))) : w.heap.size ≤ gb299)); have n4_ := Aside0.mk ((by rw [hg]; exact (below_size (by repeat (first | (with_reducible first | exact HB.out | apply below_alloc | apply pw_below_drewN | apply below_drew1 | refine below_set ?_ GE275.out) | exact HB.out))) : w.heap.size ≤ gb299)); have n5_ := Aside0.mk ((by rw [hg]; exact Nat.ne_of_lt (blk_lt (g := gb275) (o := .cells #[.string a3_0, .string a3_1, .bool a3_2] 26 (0, 0)) (by (with_reducible repeat (first | refine blk_drewN ?_ _ | refine blk_drew ?_ | refine blk_alloc ?_ _)); exact BK275.out)) : gb275 ≠ gb299)); have n6_ := Aside0.mk ((by rw [hg]; exact Nat.ne_of_gt (blk_lt (g := gb275) (o := .cells #[.string a3_0, .string a3_1, .bool a3_2] 26 (0, 0)) (by (with_reducible repeat (first | refine blk_drewN ?_ _ | refine blk_drew ?_ | refine blk_alloc ?_ _)); exact BK275.out)) : gb299 ≠ gb275)); clear BK275; clear HB; have BK275 := n0_; have HB := n1_; have BK299 := n2_; have GW299 := n3_; have GE299 := n4_; have NB275_299 := n5_; have NB299_275 := n6_; clear n0_ n1_ n2_ n3_ n4_ n5_ n6_; clear hb hbox hg; have hnb44 := NB299_275.out; have hnc44 := NB275_299.out; have hcz45_0 : w43.cell? ⟨gb299, 0, none⟩ = some (.int .i64 0) := (blk_cell BK299.out 0).trans rfl; have hcz45_1 : w43.cell? ⟨gb299, 1, none⟩ = some (.string (⟨#[]⟩ : ByteArray)) := (blk_cell BK299.out 1).trans rfl; have hcz45_2 : w43.cell? ⟨gb299, 2, none⟩ = some (.bool false) := (blk_cell BK299.out 2).trans rfl; have hcz45_3 : w43.cell? ⟨gb299, 3, none⟩ = some (.string (⟨#[]⟩ : ByteArray)) := (blk_cell BK299.out 3).trans rfl; have hcz45_4 : w43.cell? ⟨gb299, 4, none⟩ = some (.bool false) := (blk_cell BK299.out 4).trans rfl; have hcz45_5 : w43.cell? ⟨gb299, 5, none⟩ = some (.string (⟨#[]⟩ : ByteArray)) := (blk_cell BK299.out 5).trans rfl; have hfz45_0 := blk_frozen BK299.out 0; have hfz45_1 := blk_frozen BK299.out 1; have hfz45_2 := blk_frozen BK299.out 2; have hfz45_3 := blk_frozen BK299.out 3; have hfz45_4 := blk_frozen BK299.out 4; have hfz45_5 := blk_frozen BK299.out 5))
                    have n0_ : Aside0 (((((((w43.setCell ⟨gb299, 0, none⟩ (.int .i64 ((rd_T42 l2 x84_2).f0))).setCell ⟨gb299, 1, none⟩ (.string ((rd_T42 l2 x84_2).f1))).setCell ⟨gb299, 2, none⟩ (.bool ((rd_T42 l2 x84_2).f2))).setCell ⟨gb299, 3, none⟩ (.string ((rd_T42 l2 x84_2).f3))).setCell ⟨gb299, 4, none⟩ (.bool ((rd_T42 l2 x84_2).f4))).setCell ⟨gb299, 5, none⟩ (.string ((rd_T42 l2 x84_2).f5))).heap[gb275]? = some (.cells #[.string a3_0, .string a3_1, .bool a3_2] 26 (0, 0))) := ⟨by (with_reducible repeat (first | refine blk_drewN ?_ _ | refine blk_drew ?_ | refine blk_alloc ?_ _)); refine blk_far ?_ NB275_299.out _; (with_reducible repeat (first | refine blk_drewN ?_ _ | refine blk_drew ?_ | refine blk_alloc ?_ _)); refine blk_far ?_ NB275_299.out _; (with_reducible repeat (first | refine blk_drewN ?_ _ | refine blk_drew ?_ | refine blk_alloc ?_ _)); refine blk_far ?_ NB275_299.out _; (with_reducible repeat (first | refine blk_drewN ?_ _ | refine blk_drew ?_ | refine blk_alloc ?_ _)); refine blk_far ?_ NB275_299.out _; (with_reducible repeat (first | refine blk_drewN ?_ _ | refine blk_drew ?_ | refine blk_alloc ?_ _)); refine blk_far ?_ NB275_299.out _; (with_reducible repeat (first | refine blk_drewN ?_ _ | refine blk_drew ?_ | refine blk_alloc ?_ _)); refine blk_far ?_ NB275_299.out _; (with_reducible repeat (first | refine blk_drewN ?_ _ | refine blk_drew ?_ | refine blk_alloc ?_ _)); exact BK275.out⟩
                    have n1_ : Aside0 (((((((w43.setCell ⟨gb299, 0, none⟩ (.int .i64 ((rd_T42 l2 x84_2).f0))).setCell ⟨gb299, 1, none⟩ (.string ((rd_T42 l2 x84_2).f1))).setCell ⟨gb299, 2, none⟩ (.bool ((rd_T42 l2 x84_2).f2))).setCell ⟨gb299, 3, none⟩ (.string ((rd_T42 l2 x84_2).f3))).setCell ⟨gb299, 4, none⟩ (.bool ((rd_T42 l2 x84_2).f4))).setCell ⟨gb299, 5, none⟩ (.string ((rd_T42 l2 x84_2).f5))).heap[gb299]? = some (.cells #[.int .i64 ((rd_T42 l2 x84_2).f0), .string ((rd_T42 l2 x84_2).f1), .bool ((rd_T42 l2 x84_2).f2), .string ((rd_T42 l2 x84_2).f3), .bool ((rd_T42 l2 x84_2).f4), .string ((rd_T42 l2 x84_2).f5)] 42 (0, 0))) := ⟨by (with_reducible repeat (first | refine blk_drewN ?_ _ | refine blk_drew ?_ | refine blk_alloc ?_ _)); refine blk_put (cs := #[.int .i64 ((rd_T42 l2 x84_2).f0), .string ((rd_T42 l2 x84_2).f1), .bool ((rd_T42 l2 x84_2).f2), .string ((rd_T42 l2 x84_2).f3), .bool ((rd_T42 l2 x84_2).f4), .string (⟨#[]⟩ : ByteArray)]) ?_ 5 _ rfl; (with_reducible repeat (first | refine blk_drewN ?_ _ | refine blk_drew ?_ | refine blk_alloc ?_ _)); refine blk_put (cs := #[.int .i64 ((rd_T42 l2 x84_2).f0), .string ((rd_T42 l2 x84_2).f1), .bool ((rd_T42 l2 x84_2).f2), .string ((rd_T42 l2 x84_2).f3), .bool false, .string (⟨#[]⟩ : ByteArray)]) ?_ 4 _ rfl; (with_reducible repeat (first | refine blk_drewN ?_ _ | refine blk_drew ?_ | refine blk_alloc ?_ _)); refine blk_put (cs := #[.int .i64 ((rd_T42 l2 x84_2).f0), .string ((rd_T42 l2 x84_2).f1), .bool ((rd_T42 l2 x84_2).f2), .string (⟨#[]⟩ : ByteArray), .bool false, .string (⟨#[]⟩ : ByteArray)]) ?_ 3 _ rfl; (with_reducible repeat (first | refine blk_drewN ?_ _ | refine blk_drew ?_ | refine blk_alloc ?_ _)); refine blk_put (cs := #[.int .i64 ((rd_T42 l2 x84_2).f0), .string ((rd_T42 l2 x84_2).f1), .bool false, .string (⟨#[]⟩ : ByteArray), .bool false, .string (⟨#[]⟩ : ByteArray)]) ?_ 2 _ rfl; (with_reducible repeat (first | refine blk_drewN ?_ _ | refine blk_drew ?_ | refine blk_alloc ?_ _)); refine blk_put (cs := #[.int .i64 ((rd_T42 l2 x84_2).f0), .string (⟨#[]⟩ : ByteArray), .bool false, .string (⟨#[]⟩ : ByteArray), .bool false, .string (⟨#[]⟩ : ByteArray)]) ?_ 1 _ rfl; (with_reducible repeat (first | refine blk_drewN ?_ _ | refine blk_drew ?_ | refine blk_alloc ?_ _)); refine blk_put (cs := #[.int .i64 0, .string (⟨#[]⟩ : ByteArray), .bool false, .string (⟨#[]⟩ : ByteArray), .bool false, .string (⟨#[]⟩ : ByteArray)]) ?_ 0 _ rfl; (with_reducible repeat (first | refine blk_drewN ?_ _ | refine blk_drew ?_ | refine blk_alloc ?_ _)); exact BK299.out⟩
                    have n2_ : Aside0 (Below w.heap.size w ((((((w43.setCell ⟨gb299, 0, none⟩ (.int .i64 ((rd_T42 l2 x84_2).f0))).setCell ⟨gb299, 1, none⟩ (.string ((rd_T42 l2 x84_2).f1))).setCell ⟨gb299, 2, none⟩ (.bool ((rd_T42 l2 x84_2).f2))).setCell ⟨gb299, 3, none⟩ (.string ((rd_T42 l2 x84_2).f3))).setCell ⟨gb299, 4, none⟩ (.bool ((rd_T42 l2 x84_2).f4))).setCell ⟨gb299, 5, none⟩ (.string ((rd_T42 l2 x84_2).f5)))) := ⟨by repeat (first | (with_reducible first | exact HB.out | apply below_alloc | apply pw_below_drewN | apply below_drew1 | refine below_set ?_ GE275.out | refine below_set ?_ GE299.out) | exact HB.out)⟩
                    (try clear BK275)
                    (try clear BK299)
                    (try clear HB)
                    generalize ((((((w43.setCell ⟨gb299, 0, none⟩ (.int .i64 ((rd_T42 l2 x84_2).f0))).setCell ⟨gb299, 1, none⟩ (.string ((rd_T42 l2 x84_2).f1))).setCell ⟨gb299, 2, none⟩ (.bool ((rd_T42 l2 x84_2).f2))).setCell ⟨gb299, 3, none⟩ (.string ((rd_T42 l2 x84_2).f3))).setCell ⟨gb299, 4, none⟩ (.bool ((rd_T42 l2 x84_2).f4))).setCell ⟨gb299, 5, none⟩ (.string ((rd_T42 l2 x84_2).f5))) = w46 at n0_ n1_ n2_ ⊢
                    have BK275 := n0_
                    have BK299 := n1_
                    have HB := n2_
                    clear n0_ n1_ n2_
                    have n0_ := Aside0.mk (blk_drew BK275.out)
                    have n1_ := Aside0.mk (blk_drew BK299.out)
                    have n2_ := Aside0.mk (below_drew1 HB.out)
                    clear BK275
                    clear BK299
                    clear HB
                    have BK275 := n0_
                    have BK299 := n1_
                    have HB := n2_
                    clear n0_ n1_ n2_
                    refine start_ (n := 5) (S := fun w' => w'.cell? ⟨gb299, 0, none⟩ = some (.int .i64 ((rd_T42 l2 x84_2).f0)) ∧ w'.cell? ⟨gb299, 1, none⟩ = some (.string ((rd_T42 l2 x84_2).f1)) ∧ w'.cell? ⟨gb299, 2, none⟩ = some (.bool ((rd_T42 l2 x84_2).f2)) ∧ w'.cell? ⟨gb299, 3, none⟩ = some (.string ((rd_T42 l2 x84_2).f3)) ∧ w'.cell? ⟨gb299, 4, none⟩ = some (.bool ((rd_T42 l2 x84_2).f4)) ∧ w'.cell? ⟨gb299, 5, none⟩ = some (.string ((rd_T42 l2 x84_2).f5))) (ds := []) #[false, false, false, false, false] (by kernel_rfl) rfl rfl ⟨(blk_cell BK299.out 0).trans rfl, (blk_cell BK299.out 1).trans rfl, (blk_cell BK299.out 2).trans rfl, (blk_cell BK299.out 3).trans rfl, (blk_cell BK299.out 4).trans rfl, (blk_cell BK299.out 5).trans rfl⟩ (fun hHeld => ?_)
                    generalize w46.drew = w47 at BK275 BK299 HB hHeld ⊢
                    refine take_ (i := 0) (N := some 88) (v := ?_) (a' := ?_) #[true, false, false, false, false] rfl rfl (by kernel_rfl) (fun _ _ _ h => h) (Or.inl ⟨by rfl, ?_⟩) hHeld ?_ ?_
                    rotate_left
                    · rintro w' ⟨s0, s1, s2, s3, s4, s5⟩
                      go_simp
                      with_reducible rfl
                    rotate_left
                    · simp only [Act.put, List.setIfInBounds_toArray, List.set_cons_zero, List.set_cons_succ, i64_w, i32_w]
                      rfl
                    refine take_ (i := 2) (N := some 90) (v := ?_) (a' := ?_) #[true, false, true, false, false] rfl rfl (by kernel_rfl) (fun _ _ _ h => h) (Or.inl ⟨by rfl, ?_⟩) hHeld ?_ ?_
                    rotate_left
                    · rintro w' ⟨s0, s1, s2, s3, s4, s5⟩
                      go_simp
                      with_reducible rfl
                    rotate_left
                    · simp only [Act.put, List.setIfInBounds_toArray, List.set_cons_zero, List.set_cons_succ, i64_w, i32_w]
                      rfl
                    refine one_ (i := 1) (N := some 89) #[true, true, true, false, false] rfl rfl (by kernel_rfl) (by decide) (fun K hK => ?_)
                    refine goes_ Try.func24 (by kernel_rfl) rfl #[.agg #[.int .i64 ((rd_T42 l2 x84_2).f0), .string ((rd_T42 l2 x84_2).f1), .bool ((rd_T42 l2 x84_2).f2), .string ((rd_T42 l2 x84_2).f3), .bool ((rd_T42 l2 x84_2).f4), .string ((rd_T42 l2 x84_2).f5)]] (by rfl) rfl rfl (by (try simp only [List.map_toArray, List.map_cons, List.map_nil]); first | done | rfl | (simp only [List.length_drop, List.length_take]; rfl)) ?_
                    with_reducible refine (flat_May.calls k2 ((rd_T42 l2 x84_2).f0) ((rd_T42 l2 x84_2).f1) ((rd_T42 l2 x84_2).f2) ((rd_T42 l2 x84_2).f3) ((rd_T42 l2 x84_2).f4) ((rd_T42 l2 x84_2).f5) t300 _ A40.out).mono ?_
                    rintro e w48 ⟨rfl, hb⟩
                    refine ⟨_, rfl, ?_⟩
                    have n0_ := Aside0.mk (blk_below (g := gb275) (o := .cells #[.string a3_0, .string a3_1, .bool a3_2] 26 (0, 0)) (by (with_reducible repeat (first | refine blk_drewN ?_ _ | refine blk_drew ?_ | refine blk_alloc ?_ _)); exact BK275.out) hb)
                    have n1_ := Aside0.mk (blk_below (g := gb299) (o := .cells #[.int .i64 ((rd_T42 l2 x84_2).f0), .string ((rd_T42 l2 x84_2).f1), .bool ((rd_T42 l2 x84_2).f2), .string ((rd_T42 l2 x84_2).f3), .bool ((rd_T42 l2 x84_2).f4), .string ((rd_T42 l2 x84_2).f5)] 42 (0, 0)) (by (with_reducible repeat (first | refine blk_drewN ?_ _ | refine blk_drew ?_ | refine blk_alloc ?_ _)); exact BK299.out) hb)
                    have n2_ := Aside0.mk (below_step (by repeat (first | (with_reducible first | exact HB.out | apply below_alloc | apply pw_below_drewN | apply below_drew1 | refine below_set ?_ GE275.out | refine below_set ?_ GE299.out) | exact HB.out)) hb)
                    clear BK275
                    clear BK299
                    clear HB
                    have BK275 := n0_
                    have BK299 := n1_
                    have HB := n2_
                    clear n0_ n1_ n2_
                    (try clear hb)
                    (try clear hb2)
                    (try clear hk)
                    (try clear hi)
                    refine hK.out _ _ ⟨(blk_cell BK299.out 0).trans rfl, (blk_cell BK299.out 1).trans rfl, (blk_cell BK299.out 2).trans rfl, (blk_cell BK299.out 3).trans rfl, (blk_cell BK299.out 4).trans rfl, (blk_cell BK299.out 5).trans rfl⟩ (fun hHeld => ?_)
                    clear hK K
                    refine norm_ (a' := ?_) ?_ ?_
                    rotate_left
                    · show Act.put _ (some 89) _ = _
                      simp only [Act.put, List.setIfInBounds_toArray, List.set_cons_zero, List.set_cons_succ, i64_w, i32_w]
                      rfl
                    refine one_ (i := 3) (N := some 91) #[true, true, true, true, false] rfl rfl (by kernel_rfl) (by decide) (fun K hK => ?_)
                    refine goes_ Try.func25 (by kernel_rfl) rfl #[.agg #[.int .i64 ((rd_T42 l2 x84_2).f0), .string ((rd_T42 l2 x84_2).f1), .bool ((rd_T42 l2 x84_2).f2), .string ((rd_T42 l2 x84_2).f3), .bool ((rd_T42 l2 x84_2).f4), .string ((rd_T42 l2 x84_2).f5)]] (by rfl) rfl rfl (by (try simp only [List.map_toArray, List.map_cons, List.map_nil]); first | done | rfl | (simp only [List.length_drop, List.length_take]; rfl)) ?_
                    with_reducible refine (weirkeeperref13_May.calls k2 ((rd_T42 l2 x84_2).f0) ((rd_T42 l2 x84_2).f1) ((rd_T42 l2 x84_2).f2) ((rd_T42 l2 x84_2).f3) ((rd_T42 l2 x84_2).f4) ((rd_T42 l2 x84_2).f5) t301 _ A41.out).mono ?_
                    rintro e w49 ⟨rfl, hb⟩
                    refine ⟨_, rfl, ?_⟩
                    have n0_ := Aside0.mk (blk_below (g := gb275) (o := .cells #[.string a3_0, .string a3_1, .bool a3_2] 26 (0, 0)) (by (with_reducible repeat (first | refine blk_drewN ?_ _ | refine blk_drew ?_ | refine blk_alloc ?_ _)); exact BK275.out) hb)
                    have n1_ := Aside0.mk (blk_below (g := gb299) (o := .cells #[.int .i64 ((rd_T42 l2 x84_2).f0), .string ((rd_T42 l2 x84_2).f1), .bool ((rd_T42 l2 x84_2).f2), .string ((rd_T42 l2 x84_2).f3), .bool ((rd_T42 l2 x84_2).f4), .string ((rd_T42 l2 x84_2).f5)] 42 (0, 0)) (by (with_reducible repeat (first | refine blk_drewN ?_ _ | refine blk_drew ?_ | refine blk_alloc ?_ _)); exact BK299.out) hb)
                    have n2_ := Aside0.mk (below_step (by repeat (first | (with_reducible first | exact HB.out | apply below_alloc | apply pw_below_drewN | apply below_drew1 | refine below_set ?_ GE275.out | refine below_set ?_ GE299.out) | exact HB.out)) hb)
                    clear BK275
                    clear BK299
                    clear HB
                    have BK275 := n0_
                    have BK299 := n1_
                    have HB := n2_
                    clear n0_ n1_ n2_
                    (try clear hb)
                    (try clear hb2)
                    (try clear hk)
                    (try clear hi)
                    refine hK.out _ _ ⟨(blk_cell BK299.out 0).trans rfl, (blk_cell BK299.out 1).trans rfl, (blk_cell BK299.out 2).trans rfl, (blk_cell BK299.out 3).trans rfl, (blk_cell BK299.out 4).trans rfl, (blk_cell BK299.out 5).trans rfl⟩ (fun hHeld => ?_)
                    clear hK K
                    refine norm_ (a' := ?_) ?_ ?_
                    rotate_left
                    · show Act.put _ (some 91) _ = _
                      simp only [Act.put, List.setIfInBounds_toArray, List.set_cons_zero, List.set_cons_succ, i64_w, i32_w]
                      rfl
                    refine pure_ (i := 4) (N := some 92) (v := ?_) (a' := ?_) #[true, true, true, true, true] rfl rfl (by kernel_rfl) (fun _ _ _ h => h) (Or.inl ⟨by rfl, ?_⟩) ?_ ?_
                    rotate_left
                    · intro w'
                      go_simp
                      with_reducible rfl
                    rotate_left
                    · simp only [Act.put, List.setIfInBounds_toArray, List.set_cons_zero, List.set_cons_succ, i64_w, i32_w]
                      rfl
                    refine done_ (by kernel_rfl) ?_
                    try go_wp2
                    go_roundg k2
                    case measure => have := HJ4.out; have := HK2.out; omega
                    case rel => exact ⟨(wrap64 (x84_2 + 1)), (by first | rfl | (simp; done) | (simp [*]; done)), H', ⟨by have := HJ4.out; have := HK2.out; omega⟩, ⟨by (with_reducible repeat (first | refine blk_drewN ?_ _ | refine blk_drew ?_ | refine blk_alloc ?_ _)); exact BK275.out⟩, ⟨by repeat (first | (with_reducible first | exact HB.out | apply below_alloc | apply pw_below_drewN | apply below_drew1 | refine below_set ?_ GE275.out | refine below_set ?_ GE299.out) | exact HB.out)⟩⟩
                · rw [if_neg c39] at H
                  exact absurd H (by simp)
              · rw [if_neg c38] at H
                exact absurd H (by simp)
            · rw [if_neg c37] at H
              have c37b0 : decide (x84_2 < (l2.length : Int)) = false := decide_eq_false c37
              clear c37
              replace H := Option.bind_eq_some_iff.mp H
              obtain ⟨t302, A500, H⟩ := H
              replace H : (if t302 = true then ((weirkeeperlaw13_told.f t284 t285 t292 t293).bind fun t303 => (if t303 = true then ((weirkeeperlaw13_told.f t286 t287 t294 t295).bind fun t304 => (if t304 = true then ((weirkeeperlaw13_told.f t288 t289 t296 t297).bind fun t305 => (if t305 = true then ((weirkeeperlaw13_awake.f k2).bind fun t306 => (some t306)) else (some false))) else (some false))) else (some false))) else (some false)) = some true := H
              have A50 := Aside0.mk A500
              clear A500
              by_cases c51 : t302 = true
              · subst c51
                have H1 : ((weirkeeperlaw13_told.f t284 t285 t292 t293).bind fun t303 => (if t303 = true then ((weirkeeperlaw13_told.f t286 t287 t294 t295).bind fun t304 => (if t304 = true then ((weirkeeperlaw13_told.f t288 t289 t296 t297).bind fun t305 => (if t305 = true then ((weirkeeperlaw13_awake.f k2).bind fun t306 => (some t306)) else (some false))) else (some false))) else (some false))) = some true := by rw [if_pos rfl] at H; exact H
                clear H
                have H := H1
                clear H1
                replace H := Option.bind_eq_some_iff.mp H
                obtain ⟨t303, A520, H⟩ := H
                replace H : (if t303 = true then ((weirkeeperlaw13_told.f t286 t287 t294 t295).bind fun t304 => (if t304 = true then ((weirkeeperlaw13_told.f t288 t289 t296 t297).bind fun t305 => (if t305 = true then ((weirkeeperlaw13_awake.f k2).bind fun t306 => (some t306)) else (some false))) else (some false))) else (some false)) = some true := H
                have A52 := Aside0.mk A520
                clear A520
                by_cases c53 : t303 = true
                · subst c53
                  have H1 : ((weirkeeperlaw13_told.f t286 t287 t294 t295).bind fun t304 => (if t304 = true then ((weirkeeperlaw13_told.f t288 t289 t296 t297).bind fun t305 => (if t305 = true then ((weirkeeperlaw13_awake.f k2).bind fun t306 => (some t306)) else (some false))) else (some false))) = some true := by rw [if_pos rfl] at H; exact H
                  clear H
                  have H := H1
                  clear H1
                  replace H := Option.bind_eq_some_iff.mp H
                  obtain ⟨t304, A540, H⟩ := H
                  replace H : (if t304 = true then ((weirkeeperlaw13_told.f t288 t289 t296 t297).bind fun t305 => (if t305 = true then ((weirkeeperlaw13_awake.f k2).bind fun t306 => (some t306)) else (some false))) else (some false)) = some true := H
                  have A54 := Aside0.mk A540
                  clear A540
                  by_cases c55 : t304 = true
                  · subst c55
                    have H1 : ((weirkeeperlaw13_told.f t288 t289 t296 t297).bind fun t305 => (if t305 = true then ((weirkeeperlaw13_awake.f k2).bind fun t306 => (some t306)) else (some false))) = some true := by rw [if_pos rfl] at H; exact H
                    clear H
                    have H := H1
                    clear H1
                    replace H := Option.bind_eq_some_iff.mp H
                    obtain ⟨t305, A560, H⟩ := H
                    replace H : (if t305 = true then ((weirkeeperlaw13_awake.f k2).bind fun t306 => (some t306)) else (some false)) = some true := H
                    have A56 := Aside0.mk A560
                    clear A560
                    by_cases c57 : t305 = true
                    · subst c57
                      have H1 : ((weirkeeperlaw13_awake.f k2).bind fun t306 => (some t306)) = some true := by rw [if_pos rfl] at H; exact H
                      clear H
                      have H := H1
                      clear H1
                      replace H := Option.bind_eq_some_iff.mp H
                      obtain ⟨t306, A580, H⟩ := H
                      replace H : (some t306) = some true := H
                      have A58 := Aside0.mk A580
                      clear A580
                      (have H9_ := Option.some.inj H; first | subst H9_ | (have h9_ := Aside0.mk H9_; clear H9_))
                      go_wp2_with (first | ((with_reducible refine gate_callee (f := 26) rfl ?_); refine goesL_ (some 98) rfl rfl Try.func26 (by kernel_rfl) rfl #[.string t282, .int .i64 t283, .string t290, .bool t291] rfl (by (try simp only [List.map_toArray, List.map_cons, List.map_nil]); first | done | rfl | (simp only [List.length_drop, List.length_take]; rfl)) ?_; (with_reducible refine (weirkeeperlaw13_told.calls t282 t283 t290 t291 true _ A50.out).mono ?_); rintro e w' ⟨rfl, ⟨nd, rfl⟩⟩; refine ⟨_, rfl, ?_⟩) | (go_at_call 26; (with_reducible refine (weirkeeperlaw13_told.calls t284 t285 t292 t293 true _ A52.out).mono ?_); rintro e w' ⟨rfl, ⟨nd, rfl⟩⟩) | (go_at_call 26; (with_reducible refine (weirkeeperlaw13_told.calls t286 t287 t294 t295 true _ A54.out).mono ?_); rintro e w' ⟨rfl, ⟨nd, rfl⟩⟩) | (go_at_call 26; (with_reducible refine (weirkeeperlaw13_told.calls t288 t289 t296 t297 true _ A56.out).mono ?_); rintro e w' ⟨rfl, ⟨nd, rfl⟩⟩) | (go_at_call 15; (with_reducible refine (weirkeeperlaw13_awake.calls k2 _ A58.out).mono ?_); rintro e w59 ⟨rfl, hb⟩; have n0_ := Aside0.mk (blk_below (g := gb275) (o := .cells #[.string a3_0, .string a3_1, .bool a3_2] 26 (0, 0)) (by (with_reducible repeat (first | refine blk_drewN ?_ _ | refine blk_drew ?_ | refine blk_alloc ?_ _)); exact BK275.out) hb); have n1_ := Aside0.mk (below_step (by repeat (first | (with_reducible first | exact HB.out | apply below_alloc | apply pw_below_drewN | apply below_drew1 | refine below_set ?_ GE275.out) | exact HB.out)) hb); clear BK275; clear HB; have BK275 := n0_; have HB := n1_; clear n0_ n1_; (try clear hb); (try clear hb2); (try clear hk); (try clear hi)))
                      go_ret
                      exact ⟨by first | rfl | (simp only [h9_.out]; done) | (have h8_ := h9_.out; simp [h8_]; done) | (simp [errW_none, errW_some] <;> rfl) | (simp [*, errW_none, errW_some] <;> rfl), by repeat (first | (with_reducible first | exact HB.out | apply below_alloc | apply pw_below_drewN | apply below_drew1 | refine below_set ?_ GE275.out) | exact HB.out)⟩
                    · replace c57 := Bool.eq_false_iff.mpr c57
                      subst c57
                      have H1 : (some false) = some true := by rw [if_neg (show ¬ (false = true) by decide)] at H; exact H
                      clear H
                      have H := H1
                      clear H1
                      exact absurd H (by simp)
                  · replace c55 := Bool.eq_false_iff.mpr c55
                    subst c55
                    have H1 : (some false) = some true := by rw [if_neg (show ¬ (false = true) by decide)] at H; exact H
                    clear H
                    have H := H1
                    clear H1
                    exact absurd H (by simp)
                · replace c53 := Bool.eq_false_iff.mpr c53
                  subst c53
                  have H1 : (some false) = some true := by rw [if_neg (show ¬ (false = true) by decide)] at H; exact H
                  clear H
                  have H := H1
                  clear H1
                  exact absurd H (by simp)
              · replace c51 := Bool.eq_false_iff.mpr c51
                subst c51
                have H1 : (some false) = some true := by rw [if_neg (show ¬ (false = true) by decide)] at H; exact H
                clear H
                have H := H1
                clear H1
                exact absurd H (by simp)

end Go.Proofs.Ythidkdlmpkeogaa.F
