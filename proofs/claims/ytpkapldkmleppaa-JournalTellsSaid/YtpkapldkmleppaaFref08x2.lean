/- Contracts of Go functions of the seat Ytpkapldkmleppaa: what a call comes to; no condition but those that each theorem names. -/
import Derived.Test.YtpkapldkmleppaaFPre
import Derived.Test.YtpkapldkmleppaaFref04x2
import Derived.Test.YtpkapldkmleppaaFref04x1
import Derived.Test.YtpkapldkmleppaaFref08x0
namespace Go.Proofs.Ytpkapldkmleppaa.F
open Go.RowKit Go.Proofs.YtpkapldkmleppaaW.PrintWords Go.Proofs.YtpkapldkmleppaaW.PrintLast Go.Proofs.YtpkapldkmleppaaW.PrintMore
attribute [local go_sem] max2_int min2_int max_two min_two max_three min_three max_four min_four   -- for this text's walks alone
set_option linter.unusedVariables false
set_option linter.unusedSimpArgs false

/-! ### weirkeeperref08_Append: function 38 -/
mutual
def weirkeeperref08_Append.j0 : Nat → Int → Int → List ByteArray → Bool → List ByteArray → List (S77) → Option (List ByteArray × (List (S77)) × Int × Int)
  | 0, _, _, _, _, _, _ => none
  | k + 1, x1, x2, x3, x32, x560000, x560001 => if x32 = true then (some (x560000, x560001, x2, 1)) else (weirkeeperref08_Append.l0 k x1 x2 x3 x2 0 x560000 x560001 x560000 x560001)
def weirkeeperref08_Append.l0 : Nat → Int → Int → List ByteArray → Int → Int → List ByteArray → List (S77) → List ByteArray → List (S77) → Option (List ByteArray × (List (S77)) × Int × Int)
  | 0, _, _, _, _, _, _, _, _, _ => none
  | k + 1, x1, x2, x3, x15, x16, x560000, x560001, x565000, x565001 => if x16 < (x3.length : Int) then (if 0 ≤ x16 then ((weirkeeperref08_Pieces.f k x1 x15 (rdOf ByteArray.empty x3 x16)).bind fun bt566 => (if bt566.2 = 0 then ((weirkeeperref04_Put.f k x565000 x565001 (wrap64 (2 + x15)) bt566.1).bind fun bt570 => (weirkeeperref08_Append.l0 k x1 x2 x3 (wrap64 (x15 + (bt566.1.length : Int))) (wrap64 (x16 + 1)) x560000 x560001 bt570.1 bt570.2.1)) else (some (x560000, x560001, x2, bt566.2)))) else (none)) else (some (x565000, x565001, x15, 0))
end
def weirkeeperref08_Append.f (k : Nat) (l0_0 : List ByteArray) (l0_1 : List (S77)) (a1 : Int) (a2 : Int) (l3 : List ByteArray) : Option (List ByteArray × (List (S77)) × Int × Int) := (weirkeeperref04_Read.f k l0_0 l0_1 2 128).bind fun bt561 => ((weirkeeperref08_May.f a1 a2).bind fun t563 => (if bt561.2 = 0 then (weirkeeperref08_Append.j0 k a1 a2 l3 (!t563) l0_0 l0_1) else (weirkeeperref08_Append.j0 k a1 a2 l3 true l0_0 l0_1)))
theorem weirkeeperref08_Append.mono_l : ∀ k, (∀ y0 y1 y2 y3 y4 y5, LeO (weirkeeperref08_Append.j0 k y0 y1 y2 y3 y4 y5) (weirkeeperref08_Append.j0 (k + 1) y0 y1 y2 y3 y4 y5)) ∧ (∀ y0 y1 y2 y3 y4 y5 y6 y7 y8, LeO (weirkeeperref08_Append.l0 k y0 y1 y2 y3 y4 y5 y6 y7 y8) (weirkeeperref08_Append.l0 (k + 1) y0 y1 y2 y3 y4 y5 y6 y7 y8))
  | 0 => ⟨fun _ _ _ _ _ _ r h => by simp [weirkeeperref08_Append.j0] at h, fun _ _ _ _ _ _ _ _ _ r h => by simp [weirkeeperref08_Append.l0] at h⟩
  | k + 1 => by
    obtain ⟨ih0, ih1⟩ := weirkeeperref08_Append.mono_l k
    refine ⟨?_, ?_⟩
    · intro y0 y1 y2 y3 y4 y5
      unfold weirkeeperref08_Append.j0
      repeat' first
      | (with_reducible exact ih0 _ _ _ _ _ _)
      | (with_reducible exact ih1 _ _ _ _ _ _ _ _ _)
      | (with_reducible exact weirkeeperref04_Put.mono _ _ _ _ _)
      | (with_reducible exact weirkeeperref04_Read.mono _ _ _ _ _)
      | (with_reducible exact weirkeeperref08_Pieces.mono _ _ _ _)
      | (with_reducible exact LeO.refl _)
      | (with_reducible exact LeO.none _)
      | (with_reducible refine LeO.ite ?_ ?_)
      | (with_reducible refine LeO.bind ?_ (fun _ => ?_))
      | exact ih0 _ _ _ _ _ _
      | exact ih1 _ _ _ _ _ _ _ _ _
      | exact weirkeeperref04_Put.mono _ _ _ _ _
      | exact weirkeeperref04_Read.mono _ _ _ _ _
      | exact weirkeeperref08_Pieces.mono _ _ _ _
      | exact LeO.none _
      | refine LeO.ite ?_ ?_
      | refine LeO.bind ?_ (fun _ => ?_)
    · intro y0 y1 y2 y3 y4 y5 y6 y7 y8
      unfold weirkeeperref08_Append.l0
      repeat' first
      | (with_reducible exact ih0 _ _ _ _ _ _)
      | (with_reducible exact ih1 _ _ _ _ _ _ _ _ _)
      | (with_reducible exact weirkeeperref04_Put.mono _ _ _ _ _)
      | (with_reducible exact weirkeeperref04_Read.mono _ _ _ _ _)
      | (with_reducible exact weirkeeperref08_Pieces.mono _ _ _ _)
      | (with_reducible exact LeO.refl _)
      | (with_reducible exact LeO.none _)
      | (with_reducible refine LeO.ite ?_ ?_)
      | (with_reducible refine LeO.bind ?_ (fun _ => ?_))
      | exact ih0 _ _ _ _ _ _
      | exact ih1 _ _ _ _ _ _ _ _ _
      | exact weirkeeperref04_Put.mono _ _ _ _ _
      | exact weirkeeperref04_Read.mono _ _ _ _ _
      | exact weirkeeperref08_Pieces.mono _ _ _ _
      | exact LeO.none _
      | refine LeO.ite ?_ ?_
      | refine LeO.bind ?_ (fun _ => ?_)
theorem weirkeeperref08_Append.mono : ∀ a0 a1 a2 a3 a4 k, LeO (weirkeeperref08_Append.f k a0 a1 a2 a3 a4) (weirkeeperref08_Append.f (k + 1) a0 a1 a2 a3 a4) := by
  intro a0 a1 a2 a3 a4 k
  obtain ⟨ih0, ih1⟩ := weirkeeperref08_Append.mono_l k
  unfold weirkeeperref08_Append.f
  repeat' first
      | (with_reducible exact ih0 _ _ _ _ _ _)
      | (with_reducible exact ih1 _ _ _ _ _ _ _ _ _)
      | (with_reducible exact weirkeeperref04_Put.mono _ _ _ _ _)
      | (with_reducible exact weirkeeperref04_Read.mono _ _ _ _ _)
      | (with_reducible exact weirkeeperref08_Pieces.mono _ _ _ _)
      | (with_reducible exact LeO.refl _)
      | (with_reducible exact LeO.none _)
      | (with_reducible refine LeO.ite ?_ ?_)
      | (with_reducible refine LeO.bind ?_ (fun _ => ?_))
      | exact ih0 _ _ _ _ _ _
      | exact ih1 _ _ _ _ _ _ _ _ _
      | exact weirkeeperref04_Put.mono _ _ _ _ _
      | exact weirkeeperref04_Read.mono _ _ _ _ _
      | exact weirkeeperref08_Pieces.mono _ _ _ _
      | exact LeO.none _
      | refine LeO.ite ?_ ?_
      | refine LeO.bind ?_ (fun _ => ?_)
set_option maxHeartbeats 8000000 in
set_option maxRecDepth 100000 in
theorem weirkeeperref08_Append.calls (k : Nat) (P0_0_ : Nat → Prop) (A0_0 : Option Addr) (c0_0 : Nat) (l0_0 : List ByteArray) (P0_1_ : Nat → Prop) (A0_1 : Option Addr) (c0_1 : Nat) (l0_1 : List (S77)) (a1 : Int) (a2 : Int) (A3 : Option Addr) (c3 : Nat) (l3 : List ByteArray) (r1 : List ByteArray) (r2 : List (S77)) (r3 : Int) (r4 : Int) (w : World) (hs0_0 : Kd.V Kd.string 9 w w.heap.size (fun k_ => P0_0_ k_) (.slice A0_0 l0_0.length c0_0) l0_0) (hs0_1 : Kd.V k77 77 w w.heap.size (fun k_ => P0_1_ k_) (.slice A0_1 l0_1.length c0_1) l0_1) (hr3 : Kd.C Kd.string w A3 l3.length l3) (hc3 : l3.length ≤ c3) (h : weirkeeperref08_Append.f k l0_0 l0_1 a1 a2 l3 = some (r1, r2, r3, r4)) :
    Calls Try.prog 38 #[.agg #[.slice A0_0 l0_0.length c0_0, .slice A0_1 l0_1.length c0_1], .int .i64 a1, .int .i64 a2, .slice A3 l3.length c3] w fun e w' => ∃ v0_ v1_ : Value, e = .returned (.tuple #[.agg #[v0_, v1_], .int .i64 r3, .int .i64 r4]) ∧ Kd.V Kd.string 9 w' w.heap.size (fun k_ => ((P0_0_ k_ ∨ P0_1_ k_) ∨ w.heap.size ≤ k_)) v0_ r1 ∧ Kd.V k77 77 w' w.heap.size (fun k_ => ((P0_0_ k_ ∨ P0_1_ k_) ∨ w.heap.size ≤ k_)) v1_ r2 ∧ Below w.heap.size w w' := by
  have hu29 := Try.underlying29
  have HO0_0 := Aside0.mk (show Kd.V Kd.string 9 w w.heap.size (fun k_ => ((P0_0_ k_ ∨ P0_1_ k_) ∨ w.heap.size ≤ k_)) (.slice A0_0 l0_0.length c0_0) l0_0 from Kd.V_mono hs0_0 (fun k_ hk => .inl (.inl hk)))
  have HO0_1 := Aside0.mk (show Kd.V k77 77 w w.heap.size (fun k_ => ((P0_0_ k_ ∨ P0_1_ k_) ∨ w.heap.size ≤ k_)) (.slice A0_1 l0_1.length c0_1) l0_1 from Kd.V_mono hs0_1 (fun k_ hk => .inl (.inr hk)))
  have HR3 := Aside0.mk hr3
  have HC3 := Aside0.mk hc3
  clear hr3 hc3
  have HB := Aside0.mk (Below.refl w.heap.size w)
  have H : ((weirkeeperref04_Read.f k l0_0 l0_1 2 128).bind fun bt561 => ((weirkeeperref08_May.f a1 a2).bind fun t563 => (if bt561.2 = 0 then (weirkeeperref08_Append.j0 k a1 a2 l3 (!t563) l0_0 l0_1) else (weirkeeperref08_Append.j0 k a1 a2 l3 true l0_0 l0_1)))) = some (r1, r2, r3, r4) := h
  clear h
  replace H := Option.bind_eq_some_iff.mp H
  obtain ⟨⟨t561, t562⟩, A50, H⟩ := H
  replace H : ((weirkeeperref08_May.f a1 a2).bind fun t563 => (if t562 = 0 then (weirkeeperref08_Append.j0 k a1 a2 l3 (!t563) l0_0 l0_1) else (weirkeeperref08_Append.j0 k a1 a2 l3 true l0_0 l0_1))) = some (r1, r2, r3, r4) := H
  have A5 := Aside0.mk A50
  clear A50
  replace H := Option.bind_eq_some_iff.mp H
  obtain ⟨t563, A60, H⟩ := H
  replace H : (if t562 = 0 then (weirkeeperref08_Append.j0 k a1 a2 l3 (!t563) l0_0 l0_1) else (weirkeeperref08_Append.j0 k a1 a2 l3 true l0_0 l0_1)) = some (r1, r2, r3, r4) := H
  have A6 := Aside0.mk A60
  clear A60
  have HC7 := Aside0.mk H
  clear H
  go_enter Try.func38, Try.ntmps38
  go_upto_region 3 with (first | ((with_reducible refine gate_dst (N := 4) rfl ?_); refine box_event ?hg (N := 4) ?hd (cs := #[.slice A0_0 l0_0.length c0_0, .slice A0_1 l0_1.length c0_1]) (t := 29) ?hr ?_; (case hd => rfl); (case hg => rfl); (case hr => first | (go_simp; done) | (go_simp; rfl)); intro gb559 hg w8 hbox hb; have n0_ := Aside0.mk (Kd.V_below (Kd.V_elderB (by (with_reducible repeat (first | apply Kd.V_alloc | apply Kd.V_drewN | apply Kd.V_drew)); exact HO0_0.out) gb559 (Nat.le_of_eq hg.symm)) hb); have n1_ := Aside0.mk (Kd.V_below (Kd.V_elderB (by (with_reducible repeat (first | apply Kd.V_alloc | apply Kd.V_drewN | apply Kd.V_drew)); exact HO0_1.out) gb559 (Nat.le_of_eq hg.symm)) hb); have n2_ := Aside0.mk (below_step (by repeat (first | (with_reducible first | exact HB.out | apply below_alloc | apply pw_below_drewN | apply below_drew1) | exact HB.out)) hb); have n3_ := Aside0.mk (hbox); have n4_ := Aside0.mk ((by rw [hg]; exact (below_size (by repeat (first | (with_reducible first | exact HB.out | apply below_alloc | apply pw_below_drewN | apply below_drew1) | exact HB.out))) : w.heap.size ≤ gb559)); have n5_ := Aside0.mk ((by rw [hg]; exact (below_size (by repeat (first | (with_reducible first | exact HB.out | apply below_alloc | apply pw_below_drewN | apply below_drew1) | exact HB.out))) : w.heap.size ≤ gb559)); clear HO0_0; clear HO0_1; clear HB; have HO0_0 := n0_; have HO0_1 := n1_; have HB := n2_; have BK559 := n3_; have GW559 := n4_; have GE559 := n5_; clear n0_ n1_ n2_ n3_ n4_ n5_; clear hb hbox hg) | ((with_reducible refine gate_dst (N := 8) rfl ?_); refine box_event ?hg (N := 8) ?hd (cs := #[.slice none 0 0, .slice none 0 0]) (t := 29) ?hr ?_; (case hd => rfl); (case hg => rfl); (case hr => first | (go_simp; done) | (go_simp; rfl)); intro gb560 hg w9 hbox hb; have n0_ := Aside0.mk (Kd.V_below (Kd.V_elderB (by (with_reducible repeat (first | apply Kd.V_alloc | apply Kd.V_drewN | apply Kd.V_drew)); exact HO0_0.out) gb560 (Nat.le_of_eq hg.symm)) hb); have n1_ := Aside0.mk (Kd.V_below (Kd.V_elderB (by (with_reducible repeat (first | apply Kd.V_alloc | apply Kd.V_drewN | apply Kd.V_drew)); exact HO0_1.out) gb560 (Nat.le_of_eq hg.symm)) hb); have n2_ := Aside0.mk (blk_below (g := gb559) (o := .cells #[.slice A0_0 l0_0.length c0_0, .slice A0_1 l0_1.length c0_1] 29 (0, 0)) (by (with_reducible repeat (first | refine blk_drewN ?_ _ | refine blk_drew ?_ | refine blk_alloc ?_ _)); exact BK559.out) hb); have n3_ := Aside0.mk (below_step (by repeat (first | (with_reducible first | exact HB.out | apply below_alloc | apply pw_below_drewN | apply below_drew1 | refine below_set ?_ GE559.out) | exact HB.out)) hb); have n4_ := Aside0.mk (hbox); have n5_ := Aside0.mk ((by rw [hg]; exact (below_size (by repeat (first | (with_reducible first | exact HB.out | apply below_alloc | apply pw_below_drewN | apply below_drew1 | refine below_set ?_ GE559.out) | exact HB.out))) : w.heap.size ≤ gb560)); have n6_ := Aside0.mk ((by rw [hg]; exact (below_size (by repeat (first | (with_reducible first | exact HB.out | apply below_alloc | apply pw_below_drewN | apply below_drew1 | refine below_set ?_ GE559.out) | exact HB.out))) : w.heap.size ≤ gb560)); have n7_ := Aside0.mk ((by rw [hg]; exact Nat.ne_of_lt (blk_lt (g := gb559) (o := .cells #[.slice A0_0 l0_0.length c0_0, .slice A0_1 l0_1.length c0_1] 29 (0, 0)) (by (with_reducible repeat (first | refine blk_drewN ?_ _ | refine blk_drew ?_ | refine blk_alloc ?_ _)); exact BK559.out)) : gb559 ≠ gb560)); have n8_ := Aside0.mk ((by rw [hg]; exact Nat.ne_of_gt (blk_lt (g := gb559) (o := .cells #[.slice A0_0 l0_0.length c0_0, .slice A0_1 l0_1.length c0_1] 29 (0, 0)) (by (with_reducible repeat (first | refine blk_drewN ?_ _ | refine blk_drew ?_ | refine blk_alloc ?_ _)); exact BK559.out)) : gb560 ≠ gb559)); clear HO0_0; clear HO0_1; clear BK559; clear HB; have HO0_0 := n0_; have HO0_1 := n1_; have BK559 := n2_; have HB := n3_; have BK560 := n4_; have GW560 := n5_; have GE560 := n6_; have NB559_560 := n7_; have NB560_559 := n8_; clear n0_ n1_ n2_ n3_ n4_ n5_ n6_ n7_ n8_; clear hb hbox hg; have hnb10 := NB559_560.out; have hnc10 := NB560_559.out; have hcz11_0 : w9.cell? ⟨gb559, 0, none⟩ = some (.slice A0_0 l0_0.length c0_0) := (blk_cell BK559.out 0).trans rfl; have hcz11_1 : w9.cell? ⟨gb559, 1, none⟩ = some (.slice A0_1 l0_1.length c0_1) := (blk_cell BK559.out 1).trans rfl; have hfz11_0 := blk_frozen BK559.out 0; have hfz11_1 := blk_frozen BK559.out 1) | ((with_reducible refine gate_callee (f := 59) rfl ?_); refine goesL_ (some 21) rfl rfl Try.func59 (by kernel_rfl) rfl #[.agg #[.slice A0_0 l0_0.length c0_0, .slice A0_1 l0_1.length c0_1], .int .i64 2, .int .i64 128] rfl (by (try simp only [List.map_toArray, List.map_cons, List.map_nil]); first | done | rfl | (simp only [List.length_drop, List.length_take]; rfl)) ?_; (with_reducible refine (weirkeeperref04_Read.calls k _ _ l0_0 _ _ l0_1 2 128 t561 t562 _ ?side1 ?side2 ?side3 ?side4 A5.out).mono ?_); (case side1 => repeat (first | exact (Kd.V_reads' HO0_0.out).2.2 | (with_reducible refine Kd.C_alloc ?_ _) | (with_reducible refine Kd.C_drewN ?_ _) | (with_reducible refine Kd.C_drew ?_))); (case side2 => exact (Kd.V_reads' HO0_0.out).2.1); (case side3 => repeat (first | exact (Kd.V_reads' HO0_1.out).2.2 | (with_reducible refine Kd.C_alloc ?_ _) | (with_reducible refine Kd.C_drewN ?_ _) | (with_reducible refine Kd.C_drew ?_))); (case side4 => exact (Kd.V_reads' HO0_1.out).2.1); rintro e w12 ⟨rfl, hb⟩; refine ⟨_, rfl, ?_⟩; have n0_ := Aside0.mk (Kd.V_below (by (with_reducible repeat (first | apply Kd.V_alloc | apply Kd.V_drewN | apply Kd.V_drew)); exact HO0_0.out) hb); have n1_ := Aside0.mk (Kd.V_below (by (with_reducible repeat (first | apply Kd.V_alloc | apply Kd.V_drewN | apply Kd.V_drew)); exact HO0_1.out) hb); have n2_ := Aside0.mk (blk_below (g := gb559) (o := .cells #[.slice A0_0 l0_0.length c0_0, .slice A0_1 l0_1.length c0_1] 29 (0, 0)) (by (with_reducible repeat (first | refine blk_drewN ?_ _ | refine blk_drew ?_ | refine blk_alloc ?_ _)); exact BK559.out) hb); have n3_ := Aside0.mk (blk_below (g := gb560) (o := .cells #[.slice none 0 0, .slice none 0 0] 29 (0, 0)) (by (with_reducible repeat (first | refine blk_drewN ?_ _ | refine blk_drew ?_ | refine blk_alloc ?_ _)); exact BK560.out) hb); have n4_ := Aside0.mk (below_step (by repeat (first | (with_reducible first | exact HB.out | apply below_alloc | apply pw_below_drewN | apply below_drew1 | refine below_set ?_ GE559.out | refine below_set ?_ GE560.out) | exact HB.out)) hb); clear HO0_0; clear HO0_1; clear BK559; clear BK560; clear HB; have HO0_0 := n0_; have HO0_1 := n1_; have BK559 := n2_; have BK560 := n3_; have HB := n4_; clear n0_ n1_ n2_ n3_ n4_; (try clear hb); (try clear hb2); (try clear hk); (try clear hi)) | ((with_reducible refine gate_callee (f := 55) rfl ?_); refine goesL_ (some 26) rfl rfl Try.func55 (by kernel_rfl) rfl #[.int .i64 a1, .int .i64 a2] rfl (by (try simp only [List.map_toArray, List.map_cons, List.map_nil]); first | done | rfl | (simp only [List.length_drop, List.length_take]; rfl)) ?_; (with_reducible refine (weirkeeperref08_May.calls a1 a2 t563 _ A6.out).mono ?_); rintro e w' ⟨rfl, ⟨nd, rfl⟩⟩; refine ⟨_, rfl, ?_⟩))
  (try simp only [Act.put, List.setIfInBounds_toArray, List.set_cons_zero, List.set_cons_succ])
  go_cut [32] (fun v32 wc => ∃ (kq : Nat) (x32_6 : Bool), v32 = .bool x32_6 ∧ Aside0 (weirkeeperref08_Append.j0 kq a1 a2 l3 x32_6 l0_0 l0_1 = some (r1, r2, r3, r4)) ∧ Aside0 (kq ≤ k) ∧ Aside0 (Kd.V Kd.string 9 wc w.heap.size (fun k_ => ((P0_0_ k_ ∨ P0_1_ k_) ∨ w.heap.size ≤ k_) ∧ k_ ≠ gb559 ∧ k_ ≠ gb560) (.slice A0_0 l0_0.length c0_0) l0_0) ∧ Aside0 (Kd.V k77 77 wc w.heap.size (fun k_ => ((P0_0_ k_ ∨ P0_1_ k_) ∨ w.heap.size ≤ k_) ∧ k_ ≠ gb559 ∧ k_ ≠ gb560) (.slice A0_1 l0_1.length c0_1) l0_1) ∧ Aside0 (wc.heap[gb559]? = some (.cells #[(.slice A0_0 l0_0.length c0_0), (.slice A0_1 l0_1.length c0_1)] 29 (0, 0))) ∧ Aside0 (wc.heap[gb560]? = some (.cells #[(.slice none 0 0), (.slice none 0 0)] 29 (0, 0))) ∧ Aside0 (Below w.heap.size w wc))
  case first =>
    have H := HC7.out
    clear HC7
    by_cases c13 : t562 = 0
    · rw [if_pos c13] at H
      have c13b0 : (t562 == 0) = true := beq_iff_eq.mpr c13
      have c13b1 : (t562 != 0) = false := bne_eq_false_iff_eq.mpr c13
      clear c13
      (first | rw [c13b0] | (simp only [i64_w, i32_w]; rw [c13b0]) | skip)
      have H' := Aside0.mk H
      clear H
      go_wp2
      go_meet
      case rel => exact ⟨_, (!t563), (by first | rfl | (simp; done) | (simp [*]; done)), H', ⟨by first | omega | exact Nat.le_refl _⟩, ⟨by (with_reducible repeat (first | apply Kd.V_alloc | apply Kd.V_drewN | apply Kd.V_drew)); exact Kd.V_mono HO0_0.out (fun _ hk => ⟨hk.1.1, ⟨hk.1.2, hk.2⟩⟩)⟩, ⟨by (with_reducible repeat (first | apply Kd.V_alloc | apply Kd.V_drewN | apply Kd.V_drew)); exact Kd.V_mono HO0_1.out (fun _ hk => ⟨hk.1.1, ⟨hk.1.2, hk.2⟩⟩)⟩, ⟨by (with_reducible repeat (first | refine blk_drewN ?_ _ | refine blk_drew ?_ | refine blk_alloc ?_ _)); exact BK559.out⟩, ⟨by (with_reducible repeat (first | refine blk_drewN ?_ _ | refine blk_drew ?_ | refine blk_alloc ?_ _)); exact BK560.out⟩, ⟨by repeat (first | (with_reducible first | exact HB.out | apply below_alloc | apply pw_below_drewN | apply below_drew1 | refine below_set ?_ GE559.out | refine below_set ?_ GE560.out) | exact HB.out)⟩⟩
    · rw [if_neg c13] at H
      have c13b0 : (t562 == 0) = false := beq_eq_false_iff_ne.mpr c13
      have c13b1 : (t562 != 0) = true := bne_iff_ne.mpr c13
      (first | rw [c13b0] | (simp only [i64_w, i32_w]; rw [c13b0]) | skip)
      have H' := Aside0.mk H
      clear H
      go_wp2
      go_meet
      case rel => exact ⟨_, (true), (by first | rfl | (simp; done) | (simp [*]; done)), H', ⟨by first | omega | exact Nat.le_refl _⟩, ⟨by (with_reducible repeat (first | apply Kd.V_alloc | apply Kd.V_drewN | apply Kd.V_drew)); exact Kd.V_mono HO0_0.out (fun _ hk => ⟨hk.1.1, ⟨hk.1.2, hk.2⟩⟩)⟩, ⟨by (with_reducible repeat (first | apply Kd.V_alloc | apply Kd.V_drewN | apply Kd.V_drew)); exact Kd.V_mono HO0_1.out (fun _ hk => ⟨hk.1.1, ⟨hk.1.2, hk.2⟩⟩)⟩, ⟨by (with_reducible repeat (first | refine blk_drewN ?_ _ | refine blk_drew ?_ | refine blk_alloc ?_ _)); exact BK559.out⟩, ⟨by (with_reducible repeat (first | refine blk_drewN ?_ _ | refine blk_drew ?_ | refine blk_alloc ?_ _)); exact BK560.out⟩, ⟨by repeat (first | (with_reducible first | exact HB.out | apply below_alloc | apply pw_below_drewN | apply below_drew1 | refine below_set ?_ GE559.out | refine below_set ?_ GE560.out) | exact HB.out)⟩⟩
  case rest =>
    clear HC7
    try clear c1
    try clear p2
    try clear c3
    try clear c5
    try clear c10
    try clear c13
    try clear c13b0
    try clear c13b1
    try clear hcz11_0
    try clear hcz11_1
    try clear hfz11_0
    try clear hfz11_1
    obtain ⟨kq, x32_6, rfl, HA, HJ6, HO_560000, HO_560001, BK559, BK560, HB⟩ := hcut
    cases kq with
    | zero => exact absurd HA.out (by simp [weirkeeperref08_Append.j0])
    | succ kj6 =>
      have H := HA.out
      clear HA
      simp only [weirkeeperref08_Append.j0] at H
      by_cases c14 : x32_6 = true
      · subst c14
        have H1 : (some (l0_0, l0_1, a2, 1)) = some (r1, r2, r3, r4) := by rw [if_pos rfl] at H; exact H
        clear H
        have H := H1
        clear H1
        simp only [Option.some.injEq, Prod.mk.injEq] at H
        obtain ⟨rfl, rfl, rfl, rfl⟩ := H
        have hnb15 := NB559_560.out
        have hnc15 := NB560_559.out
        have hcz16_0 : wc.cell? ⟨gb559, 0, none⟩ = some (.slice A0_0 l0_0.length c0_0) := (blk_cell BK559.out 0).trans rfl
        have hcz16_1 : wc.cell? ⟨gb559, 1, none⟩ = some (.slice A0_1 l0_1.length c0_1) := (blk_cell BK559.out 1).trans rfl
        have hfz16_0 := blk_frozen BK559.out 0
        have hfz16_1 := blk_frozen BK559.out 1
        have hcz17_0 : wc.cell? ⟨gb560, 0, none⟩ = some (.slice none 0 0) := (blk_cell BK560.out 0).trans rfl
        have hcz17_1 : wc.cell? ⟨gb560, 1, none⟩ = some (.slice none 0 0) := (blk_cell BK560.out 1).trans rfl
        have hfz17_0 := blk_frozen BK560.out 0
        have hfz17_1 := blk_frozen BK560.out 1
        go_wp2
        refine bodyPost_ret (results_ctt rfl _ _ gb560 29 #[.slice A0_0 l0_0.length c0_0, .slice A0_1 l0_1.length c0_1] (0, 0) _ rfl (by (with_reducible repeat (first | refine blk_drewN ?_ _ | refine blk_drew ?_ | refine blk_alloc ?_ _)); refine blk_put (cs := #[.slice A0_0 l0_0.length c0_0, .slice none 0 0]) ?_ 1 _ rfl; (with_reducible repeat (first | refine blk_drewN ?_ _ | refine blk_drew ?_ | refine blk_alloc ?_ _)); refine blk_put (cs := #[.slice none 0 0, .slice none 0 0]) ?_ 0 _ rfl; (with_reducible repeat (first | refine blk_drewN ?_ _ | refine blk_drew ?_ | refine blk_alloc ?_ _)); exact BK560.out) Try.underlying29 rfl (by kernel_rfl)) rfl ?_
        exact ⟨_, _, by first | rfl | (simp [errW_none, errW_some] <;> rfl) | (simp [*, errW_none, errW_some] <;> rfl), by (with_reducible repeat (first | apply Kd.V_alloc | apply Kd.V_drewN | apply Kd.V_drew)); exact Kd.V_mono (Kd.V_far (p := ⟨gb560, 1, none⟩) (Kd.V_far (p := ⟨gb560, 0, none⟩) (Kd.V_mono HO_560000.out (fun k_ hk => (⟨hk, hk.2.2⟩ : _ ∧ k_ ≠ gb560))) (fun _ hk => hk.2) (.slice A0_0 l0_0.length c0_0)) (fun _ hk => hk.2) (.slice A0_1 l0_1.length c0_1)) (fun _ hk => hk.1.1), by (with_reducible repeat (first | apply Kd.V_alloc | apply Kd.V_drewN | apply Kd.V_drew)); exact Kd.V_mono (Kd.V_far (p := ⟨gb560, 1, none⟩) (Kd.V_far (p := ⟨gb560, 0, none⟩) (Kd.V_mono HO_560001.out (fun k_ hk => (⟨hk, hk.2.2⟩ : _ ∧ k_ ≠ gb560))) (fun _ hk => hk.2) (.slice A0_0 l0_0.length c0_0)) (fun _ hk => hk.2) (.slice A0_1 l0_1.length c0_1)) (fun _ hk => hk.1.1), by repeat (first | (with_reducible first | exact HB.out | apply below_alloc | apply pw_below_drewN | apply below_drew1 | refine below_set ?_ GE559.out | refine below_set ?_ GE560.out) | exact HB.out)⟩
      · replace c14 := Bool.eq_false_iff.mpr c14
        subst c14
        have H1 : (weirkeeperref08_Append.l0 kj6 a1 a2 l3 a2 0 l0_0 l0_1 l0_0 l0_1) = some (r1, r2, r3, r4) := by rw [if_neg (show ¬ (false = true) by decide)] at H; exact H
        clear H
        have H := H1
        clear H1
        have H' := Aside0.mk H
        clear H
        have hnb18 := NB559_560.out
        have hnc18 := NB560_559.out
        have hcz19_0 : wc.cell? ⟨gb559, 0, none⟩ = some (.slice A0_0 l0_0.length c0_0) := (blk_cell BK559.out 0).trans rfl
        have hcz19_1 : wc.cell? ⟨gb559, 1, none⟩ = some (.slice A0_1 l0_1.length c0_1) := (blk_cell BK559.out 1).trans rfl
        have hfz19_0 := blk_frozen BK559.out 0
        have hfz19_1 := blk_frozen BK559.out 1
        go_wp2_with (first | ((with_reducible refine gate_dst (N := 14) rfl ?_); refine box_event ?hg (N := 14) ?hd (cs := #[.slice none 0 0, .slice none 0 0]) (t := 29) ?hr ?_; (case hd => rfl); (case hg => rfl); (case hr => first | (go_simp; done) | (go_simp; rfl)); intro gb564 hg w20 hbox hb; have n0_ := Aside0.mk (Kd.V_below (Kd.V_elderB (by (with_reducible repeat (first | apply Kd.V_alloc | apply Kd.V_drewN | apply Kd.V_drew)); exact HO_560000.out) gb564 (Nat.le_of_eq hg.symm)) hb); have n1_ := Aside0.mk (Kd.V_below (Kd.V_elderB (by (with_reducible repeat (first | apply Kd.V_alloc | apply Kd.V_drewN | apply Kd.V_drew)); exact HO_560001.out) gb564 (Nat.le_of_eq hg.symm)) hb); have n2_ := Aside0.mk (blk_below (g := gb559) (o := .cells #[.slice A0_0 l0_0.length c0_0, .slice A0_1 l0_1.length c0_1] 29 (0, 0)) (by (with_reducible repeat (first | refine blk_drewN ?_ _ | refine blk_drew ?_ | refine blk_alloc ?_ _)); exact BK559.out) hb); have n3_ := Aside0.mk (blk_below (g := gb560) (o := .cells #[.slice none 0 0, .slice none 0 0] 29 (0, 0)) (by (with_reducible repeat (first | refine blk_drewN ?_ _ | refine blk_drew ?_ | refine blk_alloc ?_ _)); exact BK560.out) hb); have n4_ := Aside0.mk (below_step (by repeat (first | (with_reducible first | exact HB.out | apply below_alloc | apply pw_below_drewN | apply below_drew1 | refine below_set ?_ GE559.out | refine below_set ?_ GE560.out) | exact HB.out)) hb); have n5_ := Aside0.mk (hbox); have n6_ := Aside0.mk ((by rw [hg]; exact (below_size (by repeat (first | (with_reducible first | exact HB.out | apply below_alloc | apply pw_below_drewN | apply below_drew1 | refine below_set ?_ GE559.out | refine below_set ?_ GE560.out) | exact HB.out))) : w.heap.size ≤ gb564)); have n7_ := Aside0.mk ((by rw [hg]; exact (below_size (by repeat (first | (with_reducible first | exact HB.out | apply below_alloc | apply pw_below_drewN | apply below_drew1 | refine below_set ?_ GE559.out | refine below_set ?_ GE560.out) | exact HB.out))) : w.heap.size ≤ gb564)); have n8_ := Aside0.mk ((by rw [hg]; exact Nat.ne_of_lt (blk_lt (g := gb559) (o := .cells #[.slice A0_0 l0_0.length c0_0, .slice A0_1 l0_1.length c0_1] 29 (0, 0)) (by (with_reducible repeat (first | refine blk_drewN ?_ _ | refine blk_drew ?_ | refine blk_alloc ?_ _)); exact BK559.out)) : gb559 ≠ gb564)); have n9_ := Aside0.mk ((by rw [hg]; exact Nat.ne_of_gt (blk_lt (g := gb559) (o := .cells #[.slice A0_0 l0_0.length c0_0, .slice A0_1 l0_1.length c0_1] 29 (0, 0)) (by (with_reducible repeat (first | refine blk_drewN ?_ _ | refine blk_drew ?_ | refine blk_alloc ?_ _)); exact BK559.out)) : gb564 ≠ gb559)); have n10_ := Aside0.mk ((by rw [hg]; exact Nat.ne_of_lt (blk_lt (g := gb560) (o := .cells #[.slice none 0 0, .slice none 0 0] 29 (0, 0)) (by (with_reducible repeat (first | refine blk_drewN ?_ _ | refine blk_drew ?_ | refine blk_alloc ?_ _)); exact BK560.out)) : gb560 ≠ gb564)); have n11_ := Aside0.mk ((by rw [hg]; exact Nat.ne_of_gt (blk_lt (g := gb560) (o := .cells #[.slice none 0 0, .slice none 0 0] 29 (0, 0)) (by (with_reducible repeat (first | refine blk_drewN ?_ _ | refine blk_drew ?_ | refine blk_alloc ?_ _)); exact BK560.out)) : gb564 ≠ gb560)); clear HO_560000; clear HO_560001; clear BK559; clear BK560; clear HB; have HO_560000 := n0_; have HO_560001 := n1_; have BK559 := n2_; have BK560 := n3_; have HB := n4_; have BK564 := n5_; have GW564 := n6_; have GE564 := n7_; have NB559_564 := n8_; have NB564_559 := n9_; have NB560_564 := n10_; have NB564_560 := n11_; clear n0_ n1_ n2_ n3_ n4_ n5_ n6_ n7_ n8_ n9_ n10_ n11_; clear hb hbox hg; have hnb21 := NB564_559.out; have hnc21 := NB559_564.out; have hnb22 := NB564_560.out; have hnc22 := NB560_564.out; have hcz23_0 : w20.cell? ⟨gb564, 0, none⟩ = some (.slice none 0 0) := (blk_cell BK564.out 0).trans rfl; have hcz23_1 : w20.cell? ⟨gb564, 1, none⟩ = some (.slice none 0 0) := (blk_cell BK564.out 1).trans rfl; have hfz23_0 := blk_frozen BK564.out 0; have hfz23_1 := blk_frozen BK564.out 1))
        go_loopg [15, 16] kj6 (fun kq v15 v16 w' => ∃ (x15_2 : Int) (x16_2 : Int) (x565000_2 : List ByteArray) (x565001_2 : List (S77)) (u565000 : Value) (u565001 : Value), v15 = .int .i64 x15_2 ∧ v16 = .int .i64 x16_2 ∧ Aside0 (weirkeeperref08_Append.l0 kq a1 a2 l3 x15_2 x16_2 l0_0 l0_1 x565000_2 x565001_2 = some (r1, r2, r3, r4)) ∧ Aside0 (kq ≤ kj6) ∧ Aside0 (Kd.V Kd.string 9 w' w.heap.size (fun k_ => ((P0_0_ k_ ∨ P0_1_ k_) ∨ w.heap.size ≤ k_) ∧ k_ ≠ gb559 ∧ k_ ≠ gb560 ∧ k_ ≠ gb564) (.slice A0_0 l0_0.length c0_0) l0_0) ∧ Aside0 (Kd.V k77 77 w' w.heap.size (fun k_ => ((P0_0_ k_ ∨ P0_1_ k_) ∨ w.heap.size ≤ k_) ∧ k_ ≠ gb559 ∧ k_ ≠ gb560 ∧ k_ ≠ gb564) (.slice A0_1 l0_1.length c0_1) l0_1) ∧ Aside0 (Kd.V Kd.string 9 w' w.heap.size (fun k_ => ((P0_0_ k_ ∨ P0_1_ k_) ∨ w.heap.size ≤ k_) ∧ k_ ≠ gb559 ∧ k_ ≠ gb560 ∧ k_ ≠ gb564) u565000 x565000_2) ∧ Aside0 (Kd.V k77 77 w' w.heap.size (fun k_ => ((P0_0_ k_ ∨ P0_1_ k_) ∨ w.heap.size ≤ k_) ∧ k_ ≠ gb559 ∧ k_ ≠ gb560 ∧ k_ ≠ gb564) u565001 x565001_2) ∧ Aside0 (w'.heap[gb559]? = some (.cells #[(.slice A0_0 l0_0.length c0_0), (.slice A0_1 l0_1.length c0_1)] 29 (0, 0))) ∧ Aside0 (w'.heap[gb560]? = some (.cells #[(.slice none 0 0), (.slice none 0 0)] 29 (0, 0))) ∧ Aside0 (w'.heap[gb564]? = some (.cells #[u565000, u565001] 29 (0, 0))) ∧ Aside0 (Below w.heap.size w w'))
        case atStart => exact ⟨(a2), (0), (l0_0), (l0_1), (.slice A0_0 l0_0.length c0_0), (.slice A0_1 l0_1.length c0_1), (by first | rfl | (simp; done) | (simp [*]; done)), (by first | rfl | (simp; done) | (simp [*]; done)), H', ⟨Nat.le_refl _⟩, ⟨by (with_reducible repeat (first | apply Kd.V_alloc | apply Kd.V_drewN | apply Kd.V_drew)); exact Kd.V_mono (Kd.V_far (p := ⟨gb564, 1, none⟩) (Kd.V_far (p := ⟨gb564, 0, none⟩) (Kd.V_mono HO_560000.out (fun k_ hk => (⟨hk, hk.2⟩ : _ ∧ k_ ≠ gb564))) (fun _ hk => hk.2) (.slice A0_0 l0_0.length c0_0)) (fun _ hk => hk.2) (.slice A0_1 l0_1.length c0_1)) (fun _ hk => ⟨hk.1.1.1, ⟨hk.1.1.2.1, ⟨hk.1.1.2.2, hk.1.2⟩⟩⟩)⟩, ⟨by (with_reducible repeat (first | apply Kd.V_alloc | apply Kd.V_drewN | apply Kd.V_drew)); exact Kd.V_mono (Kd.V_far (p := ⟨gb564, 1, none⟩) (Kd.V_far (p := ⟨gb564, 0, none⟩) (Kd.V_mono HO_560001.out (fun k_ hk => (⟨hk, hk.2⟩ : _ ∧ k_ ≠ gb564))) (fun _ hk => hk.2) (.slice A0_0 l0_0.length c0_0)) (fun _ hk => hk.2) (.slice A0_1 l0_1.length c0_1)) (fun _ hk => ⟨hk.1.1.1, ⟨hk.1.1.2.1, ⟨hk.1.1.2.2, hk.1.2⟩⟩⟩)⟩, ⟨by (with_reducible repeat (first | apply Kd.V_alloc | apply Kd.V_drewN | apply Kd.V_drew)); exact Kd.V_mono (Kd.V_far (p := ⟨gb564, 1, none⟩) (Kd.V_far (p := ⟨gb564, 0, none⟩) (Kd.V_mono HO_560000.out (fun k_ hk => (⟨hk, hk.2⟩ : _ ∧ k_ ≠ gb564))) (fun _ hk => hk.2) (.slice A0_0 l0_0.length c0_0)) (fun _ hk => hk.2) (.slice A0_1 l0_1.length c0_1)) (fun _ hk => ⟨hk.1.1.1, ⟨hk.1.1.2.1, ⟨hk.1.1.2.2, hk.1.2⟩⟩⟩)⟩, ⟨by (with_reducible repeat (first | apply Kd.V_alloc | apply Kd.V_drewN | apply Kd.V_drew)); exact Kd.V_mono (Kd.V_far (p := ⟨gb564, 1, none⟩) (Kd.V_far (p := ⟨gb564, 0, none⟩) (Kd.V_mono HO_560001.out (fun k_ hk => (⟨hk, hk.2⟩ : _ ∧ k_ ≠ gb564))) (fun _ hk => hk.2) (.slice A0_0 l0_0.length c0_0)) (fun _ hk => hk.2) (.slice A0_1 l0_1.length c0_1)) (fun _ hk => ⟨hk.1.1.1, ⟨hk.1.1.2.1, ⟨hk.1.1.2.2, hk.1.2⟩⟩⟩)⟩, ⟨by (with_reducible repeat (first | refine blk_drewN ?_ _ | refine blk_drew ?_ | refine blk_alloc ?_ _)); refine blk_far ?_ NB559_564.out _; (with_reducible repeat (first | refine blk_drewN ?_ _ | refine blk_drew ?_ | refine blk_alloc ?_ _)); refine blk_far ?_ NB559_564.out _; (with_reducible repeat (first | refine blk_drewN ?_ _ | refine blk_drew ?_ | refine blk_alloc ?_ _)); exact BK559.out⟩, ⟨by (with_reducible repeat (first | refine blk_drewN ?_ _ | refine blk_drew ?_ | refine blk_alloc ?_ _)); refine blk_far ?_ NB560_564.out _; (with_reducible repeat (first | refine blk_drewN ?_ _ | refine blk_drew ?_ | refine blk_alloc ?_ _)); refine blk_far ?_ NB560_564.out _; (with_reducible repeat (first | refine blk_drewN ?_ _ | refine blk_drew ?_ | refine blk_alloc ?_ _)); exact BK560.out⟩, ⟨by (with_reducible repeat (first | refine blk_drewN ?_ _ | refine blk_drew ?_ | refine blk_alloc ?_ _)); refine blk_put (cs := #[.slice A0_0 l0_0.length c0_0, .slice none 0 0]) ?_ 1 _ rfl; (with_reducible repeat (first | refine blk_drewN ?_ _ | refine blk_drew ?_ | refine blk_alloc ?_ _)); refine blk_put (cs := #[.slice none 0 0, .slice none 0 0]) ?_ 0 _ rfl; (with_reducible repeat (first | refine blk_drewN ?_ _ | refine blk_drew ?_ | refine blk_alloc ?_ _)); exact BK564.out⟩, ⟨by repeat (first | (with_reducible first | exact HB.out | apply below_alloc | apply pw_below_drewN | apply below_drew1 | refine below_set ?_ GE559.out | refine below_set ?_ GE560.out | refine below_set ?_ GE564.out) | exact HB.out)⟩⟩
        case round =>
          clear H'
          try clear c1
          try clear c2
          try clear p2
          try clear c3
          try clear c5
          try clear c10
          try clear c13
          try clear c13b0
          try clear c13b1
          try clear c14
          try clear c15
          try clear c18
          try clear c21
          try clear c22
          try clear hcz11_0
          try clear hcz11_1
          try clear hcz16_0
          try clear hcz16_1
          try clear hcz17_0
          try clear hcz17_1
          try clear hcz19_0
          try clear hcz19_1
          try clear hcz23_0
          try clear hcz23_1
          try clear hfz11_0
          try clear hfz11_1
          try clear hfz16_0
          try clear hfz16_1
          try clear hfz17_0
          try clear hfz17_1
          try clear hfz19_0
          try clear hfz19_1
          try clear hfz23_0
          try clear hfz23_1
          try clear p2
          obtain ⟨x15_2, x16_2, x565000_2, x565001_2, u565000, u565001, rfl, rfl, HA, HK2, HO_560000, HO_560001, HO_565000, HO_565001, BK559, BK560, BK564, HB⟩ := hrel
          cases gk with
          | zero => exact absurd HA.out (by simp [weirkeeperref08_Append.l0])
          | succ k2 =>
            have H := HA.out
            clear HA
            simp only [weirkeeperref08_Append.l0] at H
            by_cases c24 : x16_2 < (l3.length : Int)
            · rw [if_pos c24] at H
              have c24b0 : decide (x16_2 < (l3.length : Int)) = true := decide_eq_true c24
              clear c24
              by_cases c25 : 0 ≤ x16_2
              · rw [if_pos c25] at H
                have c25b0 : decide (0 ≤ x16_2) = true := decide_eq_true c25
                clear c25
                replace H := Option.bind_eq_some_iff.mp H
                obtain ⟨⟨t566, t567⟩, A260, H⟩ := H
                replace H : (if t567 = 0 then ((weirkeeperref04_Put.f k2 x565000_2 x565001_2 (wrap64 (2 + x15_2)) t566).bind fun bt570 => (weirkeeperref08_Append.l0 k2 a1 a2 l3 (wrap64 (x15_2 + (t566.length : Int))) (wrap64 (x16_2 + 1)) l0_0 l0_1 bt570.1 bt570.2.1)) else (some (l0_0, l0_1, a2, t567))) = some (r1, r2, r3, r4) := H
                have A26 := Aside0.mk A260
                clear A260
                by_cases c27 : t567 = 0
                · rw [if_pos c27] at H
                  have c27b0 : (t567 == 0) = true := beq_iff_eq.mpr c27
                  have c27b1 : (t567 != 0) = false := bne_eq_false_iff_eq.mpr c27
                  clear c27
                  replace H := Option.bind_eq_some_iff.mp H
                  obtain ⟨⟨t570, t573, t576⟩, A280, H⟩ := H
                  replace H : (weirkeeperref08_Append.l0 k2 a1 a2 l3 (wrap64 (x15_2 + (t566.length : Int))) (wrap64 (x16_2 + 1)) l0_0 l0_1 t570 t573) = some (r1, r2, r3, r4) := H
                  have A28 := Aside0.mk A280
                  clear A280
                  have H' := Aside0.mk H
                  clear H
                  have p565 : 0 ≤ (x16_2 : Int) := of_decide_eq_true (by first | (with_reducible assumption) | assumption)
                  have q565 : x16_2 < (l3.length : Int) := of_decide_eq_true (by first | (with_reducible assumption) | assumption)
                  obtain ⟨ad565, e565, hx565_0⟩ := Kd.at_string HR3.out x16_2 p565 q565
                  cases e565
                  replace hx565_0 := (HB.out.cell (World.block_lt_of_cell? w _ hx565_0)).trans hx565_0
                  replace p565 := eq_true p565
                  replace q565 := eq_true q565
                  go_wp2_with (first | ((with_reducible refine gate_callee (f := 29) rfl ?_); refine goesL_ (some 50) rfl rfl Try.func29 (by kernel_rfl) rfl #[.int .i64 a1, .int .i64 x15_2, .string (rdOf ByteArray.empty l3 x16_2)] rfl (by (try simp only [List.map_toArray, List.map_cons, List.map_nil]); first | done | rfl | (simp only [List.length_drop, List.length_take]; rfl)) ?_; (with_reducible refine (weirkeeperref08_Pieces.calls k2 a1 x15_2 (rdOf ByteArray.empty l3 x16_2) t566 t567 _ A26.out).mono ?_); rintro e w29 ⟨v568, rfl, ho0, hb⟩; refine ⟨_, rfl, ?_⟩; have n0_ := Aside0.mk (Kd.V_elder' (by (with_reducible repeat (first | apply Kd.V_alloc | apply Kd.V_drewN | apply Kd.V_drew)); exact HO_560000.out) (Kd.R_base ho0) hb); have n1_ := Aside0.mk (Kd.V_elder' (by (with_reducible repeat (first | apply Kd.V_alloc | apply Kd.V_drewN | apply Kd.V_drew)); exact HO_560001.out) (Kd.R_base ho0) hb); have n2_ := Aside0.mk (Kd.V_elder' (by (with_reducible repeat (first | apply Kd.V_alloc | apply Kd.V_drewN | apply Kd.V_drew)); exact HO_565000.out) (Kd.R_base ho0) hb); have n3_ := Aside0.mk (Kd.V_elder' (by (with_reducible repeat (first | apply Kd.V_alloc | apply Kd.V_drewN | apply Kd.V_drew)); exact HO_565001.out) (Kd.R_base ho0) hb); have n4_ := Aside0.mk (Kd.R_lower (Kd.R_newM (M := fun k_ => (w.heap.size ≤ k_)) ho0 (below_size (by repeat (first | (with_reducible first | exact HB.out | apply below_alloc | apply pw_below_drewN | apply below_drew1 | refine below_set ?_ GE559.out | refine below_set ?_ GE560.out | refine below_set ?_ GE564.out) | exact HB.out))) (fun k_ h_ => h_)) (below_size (by repeat (first | (with_reducible first | exact HB.out | apply below_alloc | apply pw_below_drewN | apply below_drew1 | refine below_set ?_ GE559.out | refine below_set ?_ GE560.out | refine below_set ?_ GE564.out) | exact HB.out)))); have n5_ := Aside0.mk (blk_below (g := gb559) (o := .cells #[.slice A0_0 l0_0.length c0_0, .slice A0_1 l0_1.length c0_1] 29 (0, 0)) (by (with_reducible repeat (first | refine blk_drewN ?_ _ | refine blk_drew ?_ | refine blk_alloc ?_ _)); exact BK559.out) hb); have n6_ := Aside0.mk (blk_below (g := gb560) (o := .cells #[.slice none 0 0, .slice none 0 0] 29 (0, 0)) (by (with_reducible repeat (first | refine blk_drewN ?_ _ | refine blk_drew ?_ | refine blk_alloc ?_ _)); exact BK560.out) hb); have n7_ := Aside0.mk (blk_below (g := gb564) (o := .cells #[u565000, u565001] 29 (0, 0)) (by (with_reducible repeat (first | refine blk_drewN ?_ _ | refine blk_drew ?_ | refine blk_alloc ?_ _)); exact BK564.out) hb); have n8_ := Aside0.mk (below_step (by repeat (first | (with_reducible first | exact HB.out | apply below_alloc | apply pw_below_drewN | apply below_drew1 | refine below_set ?_ GE559.out | refine below_set ?_ GE560.out | refine below_set ?_ GE564.out) | exact HB.out)) hb); clear HO_560000; clear HO_560001; clear HO_565000; clear HO_565001; clear BK559; clear BK560; clear BK564; clear HB; have HO_560000 := n0_; have HO_560001 := n1_; have HO_565000 := n2_; have HO_565001 := n3_; have HO569 := n4_; have BK559 := n5_; have BK560 := n6_; have BK564 := n7_; have HB := n8_; clear n0_ n1_ n2_ n3_ n4_ n5_ n6_ n7_ n8_; (try clear hb); (try clear hb2); (try clear hk); (try clear hi); (try clear ho0); have hnb30 := NB564_559.out; have hnc30 := NB559_564.out; have hnb31 := NB564_560.out; have hnc31 := NB560_564.out; have hcz32_0 : w29.cell? ⟨gb564, 0, none⟩ = some (u565000) := (blk_cell BK564.out 0).trans rfl; have hcz32_1 : w29.cell? ⟨gb564, 1, none⟩ = some (u565001) := (blk_cell BK564.out 1).trans rfl; have hfz32_0 := blk_frozen BK564.out 0; have hfz32_1 := blk_frozen BK564.out 1; obtain ⟨Ao33, co33, eo33⟩ := Kd.V_slice HO_565000.out; subst eo33; obtain ⟨Ao34, co34, eo34⟩ := Kd.V_slice HO_565001.out; subst eo34; obtain ⟨Ao35, co35, eo35⟩ := Kd.R_slice HO569.out; subst eo35) | ((with_reducible refine gate_callee (f := 61) rfl ?_); refine goesL_ (some 63) rfl rfl Try.func61 (by kernel_rfl) rfl #[.agg #[.slice Ao33 x565000_2.length co33, .slice Ao34 x565001_2.length co34], .int .i64 (wrap64 (2 + x15_2)), .slice Ao35 t566.length co35] rfl (by (try simp only [List.map_toArray, List.map_cons, List.map_nil]); first | done | rfl | (simp only [List.length_drop, List.length_take]; rfl)) ?_; (with_reducible refine (weirkeeperref04_Put.calls k2 (fun k_ => ((((P0_0_ k_ ∨ P0_1_ k_) ∨ w.heap.size ≤ k_) ∧ (k_ ≠ gb559 ∧ (k_ ≠ gb560 ∧ k_ ≠ gb564))) ∧ some k_ ≠ (.slice Ao35 t566.length co35 : Value).ownBlock)) _ _ x565000_2 (fun k_ => ((((P0_0_ k_ ∨ P0_1_ k_) ∨ w.heap.size ≤ k_) ∧ (k_ ≠ gb559 ∧ (k_ ≠ gb560 ∧ k_ ≠ gb564))) ∧ some k_ ≠ (.slice Ao35 t566.length co35 : Value).ownBlock)) _ _ x565001_2 (wrap64 (2 + x15_2)) _ _ t566 t570 t573 t576 _ ?side1 ?side2 ?side3 ?side4 A28.out).mono ?_); (case side1 => exact HO_565000.out); (case side2 => exact HO_565001.out); (case side3 => repeat (first | exact (Kd.R_reads' HO569.out).2.2 | (with_reducible refine Kd.C_alloc ?_ _) | (with_reducible refine Kd.C_drewN ?_ _) | (with_reducible refine Kd.C_drew ?_))); (case side4 => exact (Kd.R_reads' HO569.out).2.1); rintro e w36 ⟨v571, v574, rfl, ho0, ho1, hb⟩; refine ⟨_, rfl, ?_⟩; have n0_ := Aside0.mk (Kd.V_below (by (with_reducible repeat (first | apply Kd.V_alloc | apply Kd.V_drewN | apply Kd.V_drew)); exact HO_560000.out) hb); have n1_ := Aside0.mk (Kd.V_below (by (with_reducible repeat (first | apply Kd.V_alloc | apply Kd.V_drewN | apply Kd.V_drew)); exact HO_560001.out) hb); have n2_ := Aside0.mk (Kd.V_below (by (with_reducible repeat (first | apply Kd.V_alloc | apply Kd.V_drewN | apply Kd.V_drew)); exact HO_565000.out) hb); have n3_ := Aside0.mk (Kd.V_below (by (with_reducible repeat (first | apply Kd.V_alloc | apply Kd.V_drewN | apply Kd.V_drew)); exact HO_565001.out) hb); have n4_ := Aside0.mk (Kd.R_below (by (with_reducible repeat (first | apply Kd.R_alloc | apply Kd.R_drewN | apply Kd.R_drew)); exact HO569.out) hb); have n5_ := Aside0.mk (Kd.V_lower (Kd.V_mono (ok' := fun k_ => ((P0_0_ k_ ∨ P0_1_ k_) ∨ w.heap.size ≤ k_) ∧ some k_ ≠ (.slice Ao35 t566.length co35 : Value).ownBlock ∧ k_ ≠ gb559 ∧ k_ ≠ gb560 ∧ k_ ≠ gb564) ho0 (fun k_ hk_ => ⟨Or.elim hk_ (fun hs_ => Or.elim hs_ (fun hs_ => hs_.1.1) (fun hs_ => hs_.1.1)) (fun hn_ => (.inr (Nat.le_trans (below_size (by repeat (first | (with_reducible first | exact HB.out | apply below_alloc | apply pw_below_drewN | apply below_drew1 | refine below_set ?_ GE559.out | refine below_set ?_ GE560.out | refine below_set ?_ GE564.out) | exact HB.out))) hn_))), Or.elim hk_ (fun hs_ => Or.elim hs_ (fun hs_ => hs_.2) (fun hs_ => hs_.2)) (fun hn_ => (Kd.fresh' (Kd.R_lt (by (with_reducible repeat (first | apply Kd.R_alloc | apply Kd.R_drewN | apply Kd.R_drew)); exact HO569.out)) k_ hn_)), Or.elim hk_ (fun hs_ => Or.elim hs_ (fun hs_ => hs_.1.2.1) (fun hs_ => hs_.1.2.1)) (fun hn_ => (Kd.freshB (g := gb559) (o := .cells #[.slice A0_0 l0_0.length c0_0, .slice A0_1 l0_1.length c0_1] 29 (0, 0)) (by (with_reducible repeat (first | refine blk_drewN ?_ _ | refine blk_drew ?_ | refine blk_alloc ?_ _)); exact BK559.out) k_ hn_)), Or.elim hk_ (fun hs_ => Or.elim hs_ (fun hs_ => hs_.1.2.2.1) (fun hs_ => hs_.1.2.2.1)) (fun hn_ => (Kd.freshB (g := gb560) (o := .cells #[.slice none 0 0, .slice none 0 0] 29 (0, 0)) (by (with_reducible repeat (first | refine blk_drewN ?_ _ | refine blk_drew ?_ | refine blk_alloc ?_ _)); exact BK560.out) k_ hn_)), Or.elim hk_ (fun hs_ => Or.elim hs_ (fun hs_ => hs_.1.2.2.2) (fun hs_ => hs_.1.2.2.2)) (fun hn_ => (Kd.freshB (g := gb564) (o := .cells #[.slice Ao33 x565000_2.length co33, .slice Ao34 x565001_2.length co34] 29 (0, 0)) (by (with_reducible repeat (first | refine blk_drewN ?_ _ | refine blk_drew ?_ | refine blk_alloc ?_ _)); exact BK564.out) k_ hn_))⟩)) (below_size (by repeat (first | (with_reducible first | exact HB.out | apply below_alloc | apply pw_below_drewN | apply below_drew1 | refine below_set ?_ GE559.out | refine below_set ?_ GE560.out | refine below_set ?_ GE564.out) | exact HB.out)))); have n6_ := Aside0.mk (Kd.V_lower (Kd.V_mono (ok' := fun k_ => ((P0_0_ k_ ∨ P0_1_ k_) ∨ w.heap.size ≤ k_) ∧ some k_ ≠ (.slice Ao35 t566.length co35 : Value).ownBlock ∧ k_ ≠ gb559 ∧ k_ ≠ gb560 ∧ k_ ≠ gb564) ho1 (fun k_ hk_ => ⟨Or.elim hk_ (fun hs_ => Or.elim hs_ (fun hs_ => hs_.1.1) (fun hs_ => hs_.1.1)) (fun hn_ => (.inr (Nat.le_trans (below_size (by repeat (first | (with_reducible first | exact HB.out | apply below_alloc | apply pw_below_drewN | apply below_drew1 | refine below_set ?_ GE559.out | refine below_set ?_ GE560.out | refine below_set ?_ GE564.out) | exact HB.out))) hn_))), Or.elim hk_ (fun hs_ => Or.elim hs_ (fun hs_ => hs_.2) (fun hs_ => hs_.2)) (fun hn_ => (Kd.fresh' (Kd.R_lt (by (with_reducible repeat (first | apply Kd.R_alloc | apply Kd.R_drewN | apply Kd.R_drew)); exact HO569.out)) k_ hn_)), Or.elim hk_ (fun hs_ => Or.elim hs_ (fun hs_ => hs_.1.2.1) (fun hs_ => hs_.1.2.1)) (fun hn_ => (Kd.freshB (g := gb559) (o := .cells #[.slice A0_0 l0_0.length c0_0, .slice A0_1 l0_1.length c0_1] 29 (0, 0)) (by (with_reducible repeat (first | refine blk_drewN ?_ _ | refine blk_drew ?_ | refine blk_alloc ?_ _)); exact BK559.out) k_ hn_)), Or.elim hk_ (fun hs_ => Or.elim hs_ (fun hs_ => hs_.1.2.2.1) (fun hs_ => hs_.1.2.2.1)) (fun hn_ => (Kd.freshB (g := gb560) (o := .cells #[.slice none 0 0, .slice none 0 0] 29 (0, 0)) (by (with_reducible repeat (first | refine blk_drewN ?_ _ | refine blk_drew ?_ | refine blk_alloc ?_ _)); exact BK560.out) k_ hn_)), Or.elim hk_ (fun hs_ => Or.elim hs_ (fun hs_ => hs_.1.2.2.2) (fun hs_ => hs_.1.2.2.2)) (fun hn_ => (Kd.freshB (g := gb564) (o := .cells #[.slice Ao33 x565000_2.length co33, .slice Ao34 x565001_2.length co34] 29 (0, 0)) (by (with_reducible repeat (first | refine blk_drewN ?_ _ | refine blk_drew ?_ | refine blk_alloc ?_ _)); exact BK564.out) k_ hn_))⟩)) (below_size (by repeat (first | (with_reducible first | exact HB.out | apply below_alloc | apply pw_below_drewN | apply below_drew1 | refine below_set ?_ GE559.out | refine below_set ?_ GE560.out | refine below_set ?_ GE564.out) | exact HB.out)))); have n7_ := Aside0.mk (blk_below (g := gb559) (o := .cells #[.slice A0_0 l0_0.length c0_0, .slice A0_1 l0_1.length c0_1] 29 (0, 0)) (by (with_reducible repeat (first | refine blk_drewN ?_ _ | refine blk_drew ?_ | refine blk_alloc ?_ _)); exact BK559.out) hb); have n8_ := Aside0.mk (blk_below (g := gb560) (o := .cells #[.slice none 0 0, .slice none 0 0] 29 (0, 0)) (by (with_reducible repeat (first | refine blk_drewN ?_ _ | refine blk_drew ?_ | refine blk_alloc ?_ _)); exact BK560.out) hb); have n9_ := Aside0.mk (blk_below (g := gb564) (o := .cells #[.slice Ao33 x565000_2.length co33, .slice Ao34 x565001_2.length co34] 29 (0, 0)) (by (with_reducible repeat (first | refine blk_drewN ?_ _ | refine blk_drew ?_ | refine blk_alloc ?_ _)); exact BK564.out) hb); have n10_ := Aside0.mk (below_step (by repeat (first | (with_reducible first | exact HB.out | apply below_alloc | apply pw_below_drewN | apply below_drew1 | refine below_set ?_ GE559.out | refine below_set ?_ GE560.out | refine below_set ?_ GE564.out) | exact HB.out)) hb); clear HO_560000; clear HO_560001; clear HO_565000; clear HO_565001; clear HO569; clear BK559; clear BK560; clear BK564; clear HB; have HO_560000 := n0_; have HO_560001 := n1_; have HO_565000 := n2_; have HO_565001 := n3_; have HO569 := n4_; have HO572 := n5_; have HO575 := n6_; have BK559 := n7_; have BK560 := n8_; have BK564 := n9_; have HB := n10_; clear n0_ n1_ n2_ n3_ n4_ n5_ n6_ n7_ n8_ n9_ n10_; (try clear hb); (try clear hb2); (try clear hk); (try clear hi); (try clear ho0); (try clear ho1); obtain ⟨Ao37, co37, eo37⟩ := Kd.V_slice HO572.out; subst eo37; have hcz38_0 : w36.cell? ⟨gb564, 0, none⟩ = some (.slice Ao33 x565000_2.length co33) := (blk_cell BK564.out 0).trans rfl; have hcz38_1 : w36.cell? ⟨gb564, 1, none⟩ = some (.slice Ao34 x565001_2.length co34) := (blk_cell BK564.out 1).trans rfl; have hfz38_0 := blk_frozen BK564.out 0; have hfz38_1 := blk_frozen BK564.out 1; obtain ⟨Ao39, co39, eo39⟩ := Kd.V_slice HO575.out; subst eo39))
                  go_roundg k2
                  case measure => have := HJ6.out; have := HK2.out; omega
                  case rel => exact ⟨(wrap64 (x15_2 + (t566.length : Int))), (wrap64 (x16_2 + 1)), (t570), (t573), (.slice Ao37 t570.length co37), (.slice Ao39 t573.length co39), (by first | rfl | (simp; done) | (simp [*]; done)), (by first | rfl | (simp; done) | (simp [*]; done)), H', ⟨by have := HJ6.out; have := HK2.out; omega⟩, ⟨by (with_reducible repeat (first | apply Kd.V_alloc | apply Kd.V_drewN | apply Kd.V_drew)); exact Kd.V_mono (Kd.V_far (p := ⟨gb564, 1, none⟩) (Kd.V_far (p := ⟨gb564, 0, none⟩) (Kd.V_mono HO_560000.out (fun k_ hk => (⟨hk, hk.1.2.2.2⟩ : _ ∧ k_ ≠ gb564))) (fun _ hk => hk.2) (.slice Ao37 t570.length co37)) (fun _ hk => hk.2) (.slice Ao39 t573.length co39)) (fun _ hk => ⟨hk.1.1.1, ⟨hk.1.1.2.1, ⟨hk.1.1.2.2.1, hk.1.1.2.2.2⟩⟩⟩)⟩, ⟨by (with_reducible repeat (first | apply Kd.V_alloc | apply Kd.V_drewN | apply Kd.V_drew)); exact Kd.V_mono (Kd.V_far (p := ⟨gb564, 1, none⟩) (Kd.V_far (p := ⟨gb564, 0, none⟩) (Kd.V_mono HO_560001.out (fun k_ hk => (⟨hk, hk.1.2.2.2⟩ : _ ∧ k_ ≠ gb564))) (fun _ hk => hk.2) (.slice Ao37 t570.length co37)) (fun _ hk => hk.2) (.slice Ao39 t573.length co39)) (fun _ hk => ⟨hk.1.1.1, ⟨hk.1.1.2.1, ⟨hk.1.1.2.2.1, hk.1.1.2.2.2⟩⟩⟩)⟩, ⟨by (with_reducible repeat (first | apply Kd.V_alloc | apply Kd.V_drewN | apply Kd.V_drew)); exact Kd.V_mono (Kd.V_far (p := ⟨gb564, 1, none⟩) (Kd.V_far (p := ⟨gb564, 0, none⟩) (Kd.V_mono HO572.out (fun k_ hk => (⟨hk, hk.2.2.2.2⟩ : _ ∧ k_ ≠ gb564))) (fun _ hk => hk.2) (.slice Ao37 t570.length co37)) (fun _ hk => hk.2) (.slice Ao39 t573.length co39)) (fun _ hk => ⟨hk.1.1, ⟨hk.1.2.2.1, ⟨hk.1.2.2.2.1, hk.1.2.2.2.2⟩⟩⟩)⟩, ⟨by (with_reducible repeat (first | apply Kd.V_alloc | apply Kd.V_drewN | apply Kd.V_drew)); exact Kd.V_mono (Kd.V_far (p := ⟨gb564, 1, none⟩) (Kd.V_far (p := ⟨gb564, 0, none⟩) (Kd.V_mono HO575.out (fun k_ hk => (⟨hk, hk.2.2.2.2⟩ : _ ∧ k_ ≠ gb564))) (fun _ hk => hk.2) (.slice Ao37 t570.length co37)) (fun _ hk => hk.2) (.slice Ao39 t573.length co39)) (fun _ hk => ⟨hk.1.1, ⟨hk.1.2.2.1, ⟨hk.1.2.2.2.1, hk.1.2.2.2.2⟩⟩⟩)⟩, ⟨by (with_reducible repeat (first | refine blk_drewN ?_ _ | refine blk_drew ?_ | refine blk_alloc ?_ _)); refine blk_far ?_ NB559_564.out _; (with_reducible repeat (first | refine blk_drewN ?_ _ | refine blk_drew ?_ | refine blk_alloc ?_ _)); refine blk_far ?_ NB559_564.out _; (with_reducible repeat (first | refine blk_drewN ?_ _ | refine blk_drew ?_ | refine blk_alloc ?_ _)); exact BK559.out⟩, ⟨by (with_reducible repeat (first | refine blk_drewN ?_ _ | refine blk_drew ?_ | refine blk_alloc ?_ _)); refine blk_far ?_ NB560_564.out _; (with_reducible repeat (first | refine blk_drewN ?_ _ | refine blk_drew ?_ | refine blk_alloc ?_ _)); refine blk_far ?_ NB560_564.out _; (with_reducible repeat (first | refine blk_drewN ?_ _ | refine blk_drew ?_ | refine blk_alloc ?_ _)); exact BK560.out⟩, ⟨by (with_reducible repeat (first | refine blk_drewN ?_ _ | refine blk_drew ?_ | refine blk_alloc ?_ _)); refine blk_put (cs := #[.slice Ao37 t570.length co37, .slice Ao34 x565001_2.length co34]) ?_ 1 _ rfl; (with_reducible repeat (first | refine blk_drewN ?_ _ | refine blk_drew ?_ | refine blk_alloc ?_ _)); refine blk_put (cs := #[.slice Ao33 x565000_2.length co33, .slice Ao34 x565001_2.length co34]) ?_ 0 _ rfl; (with_reducible repeat (first | refine blk_drewN ?_ _ | refine blk_drew ?_ | refine blk_alloc ?_ _)); exact BK564.out⟩, ⟨by repeat (first | (with_reducible first | exact HB.out | apply below_alloc | apply pw_below_drewN | apply below_drew1 | refine below_set ?_ GE559.out | refine below_set ?_ GE560.out | refine below_set ?_ GE564.out) | exact HB.out)⟩⟩
                · rw [if_neg c27] at H
                  have c27b0 : (t567 == 0) = false := beq_eq_false_iff_ne.mpr c27
                  have c27b1 : (t567 != 0) = true := bne_iff_ne.mpr c27
                  simp only [Option.some.injEq, Prod.mk.injEq] at H
                  obtain ⟨rfl, rfl, rfl, rfl⟩ := H
                  have p565 : 0 ≤ (x16_2 : Int) := of_decide_eq_true (by first | (with_reducible assumption) | assumption)
                  have q565 : x16_2 < (l3.length : Int) := of_decide_eq_true (by first | (with_reducible assumption) | assumption)
                  obtain ⟨ad565, e565, hx565_0⟩ := Kd.at_string HR3.out x16_2 p565 q565
                  cases e565
                  replace hx565_0 := (HB.out.cell (World.block_lt_of_cell? w _ hx565_0)).trans hx565_0
                  replace p565 := eq_true p565
                  replace q565 := eq_true q565
                  go_wp2_with (first | ((with_reducible refine gate_callee (f := 29) rfl ?_); refine goesL_ (some 50) rfl rfl Try.func29 (by kernel_rfl) rfl #[.int .i64 a1, .int .i64 x15_2, .string (rdOf ByteArray.empty l3 x16_2)] rfl (by (try simp only [List.map_toArray, List.map_cons, List.map_nil]); first | done | rfl | (simp only [List.length_drop, List.length_take]; rfl)) ?_; (with_reducible refine (weirkeeperref08_Pieces.calls k2 a1 x15_2 (rdOf ByteArray.empty l3 x16_2) t566 t567 _ A26.out).mono ?_); rintro e w40 ⟨v568, rfl, ho0, hb⟩; refine ⟨_, rfl, ?_⟩; have n0_ := Aside0.mk (Kd.V_elder' (by (with_reducible repeat (first | apply Kd.V_alloc | apply Kd.V_drewN | apply Kd.V_drew)); exact HO_560000.out) (Kd.R_base ho0) hb); have n1_ := Aside0.mk (Kd.V_elder' (by (with_reducible repeat (first | apply Kd.V_alloc | apply Kd.V_drewN | apply Kd.V_drew)); exact HO_560001.out) (Kd.R_base ho0) hb); have n2_ := Aside0.mk (Kd.V_elder' (by (with_reducible repeat (first | apply Kd.V_alloc | apply Kd.V_drewN | apply Kd.V_drew)); exact HO_565000.out) (Kd.R_base ho0) hb); have n3_ := Aside0.mk (Kd.V_elder' (by (with_reducible repeat (first | apply Kd.V_alloc | apply Kd.V_drewN | apply Kd.V_drew)); exact HO_565001.out) (Kd.R_base ho0) hb); have n4_ := Aside0.mk (Kd.R_lower (Kd.R_newM (M := fun k_ => (w.heap.size ≤ k_)) ho0 (below_size (by repeat (first | (with_reducible first | exact HB.out | apply below_alloc | apply pw_below_drewN | apply below_drew1 | refine below_set ?_ GE559.out | refine below_set ?_ GE560.out | refine below_set ?_ GE564.out) | exact HB.out))) (fun k_ h_ => h_)) (below_size (by repeat (first | (with_reducible first | exact HB.out | apply below_alloc | apply pw_below_drewN | apply below_drew1 | refine below_set ?_ GE559.out | refine below_set ?_ GE560.out | refine below_set ?_ GE564.out) | exact HB.out)))); have n5_ := Aside0.mk (blk_below (g := gb559) (o := .cells #[.slice A0_0 l0_0.length c0_0, .slice A0_1 l0_1.length c0_1] 29 (0, 0)) (by (with_reducible repeat (first | refine blk_drewN ?_ _ | refine blk_drew ?_ | refine blk_alloc ?_ _)); exact BK559.out) hb); have n6_ := Aside0.mk (blk_below (g := gb560) (o := .cells #[.slice none 0 0, .slice none 0 0] 29 (0, 0)) (by (with_reducible repeat (first | refine blk_drewN ?_ _ | refine blk_drew ?_ | refine blk_alloc ?_ _)); exact BK560.out) hb); have n7_ := Aside0.mk (blk_below (g := gb564) (o := .cells #[u565000, u565001] 29 (0, 0)) (by (with_reducible repeat (first | refine blk_drewN ?_ _ | refine blk_drew ?_ | refine blk_alloc ?_ _)); exact BK564.out) hb); have n8_ := Aside0.mk (below_step (by repeat (first | (with_reducible first | exact HB.out | apply below_alloc | apply pw_below_drewN | apply below_drew1 | refine below_set ?_ GE559.out | refine below_set ?_ GE560.out | refine below_set ?_ GE564.out) | exact HB.out)) hb); clear HO_560000; clear HO_560001; clear HO_565000; clear HO_565001; clear BK559; clear BK560; clear BK564; clear HB; have HO_560000 := n0_; have HO_560001 := n1_; have HO_565000 := n2_; have HO_565001 := n3_; have HO569 := n4_; have BK559 := n5_; have BK560 := n6_; have BK564 := n7_; have HB := n8_; clear n0_ n1_ n2_ n3_ n4_ n5_ n6_ n7_ n8_; (try clear hb); (try clear hb2); (try clear hk); (try clear hi); (try clear ho0); have hnb41 := NB559_560.out; have hnc41 := NB560_559.out; have hnb42 := NB559_564.out; have hnc42 := NB564_559.out; have hcz43_0 : w40.cell? ⟨gb559, 0, none⟩ = some (.slice A0_0 l0_0.length c0_0) := (blk_cell BK559.out 0).trans rfl; have hcz43_1 : w40.cell? ⟨gb559, 1, none⟩ = some (.slice A0_1 l0_1.length c0_1) := (blk_cell BK559.out 1).trans rfl; have hfz43_0 := blk_frozen BK559.out 0; have hfz43_1 := blk_frozen BK559.out 1; have hnb44 := NB560_564.out; have hnc44 := NB564_560.out; have hcz45_0 : w40.cell? ⟨gb560, 0, none⟩ = some (.slice none 0 0) := (blk_cell BK560.out 0).trans rfl; have hcz45_1 : w40.cell? ⟨gb560, 1, none⟩ = some (.slice none 0 0) := (blk_cell BK560.out 1).trans rfl; have hfz45_0 := blk_frozen BK560.out 0; have hfz45_1 := blk_frozen BK560.out 1))
                  refine bodyPost_ret (results_ctt rfl _ _ gb560 29 #[.slice A0_0 l0_0.length c0_0, .slice A0_1 l0_1.length c0_1] (0, 0) _ rfl (by (with_reducible repeat (first | refine blk_drewN ?_ _ | refine blk_drew ?_ | refine blk_alloc ?_ _)); refine blk_put (cs := #[.slice A0_0 l0_0.length c0_0, .slice none 0 0]) ?_ 1 _ rfl; (with_reducible repeat (first | refine blk_drewN ?_ _ | refine blk_drew ?_ | refine blk_alloc ?_ _)); refine blk_put (cs := #[.slice none 0 0, .slice none 0 0]) ?_ 0 _ rfl; (with_reducible repeat (first | refine blk_drewN ?_ _ | refine blk_drew ?_ | refine blk_alloc ?_ _)); exact BK560.out) Try.underlying29 rfl (by kernel_rfl)) rfl ?_
                  exact ⟨_, _, by first | rfl | (simp [errW_none, errW_some] <;> rfl) | (simp [*, errW_none, errW_some] <;> rfl), by (with_reducible repeat (first | apply Kd.V_alloc | apply Kd.V_drewN | apply Kd.V_drew)); exact Kd.V_mono (Kd.V_far (p := ⟨gb560, 1, none⟩) (Kd.V_far (p := ⟨gb560, 0, none⟩) (Kd.V_mono HO_560000.out (fun k_ hk => (⟨hk, hk.1.2.2.1⟩ : _ ∧ k_ ≠ gb560))) (fun _ hk => hk.2) (.slice A0_0 l0_0.length c0_0)) (fun _ hk => hk.2) (.slice A0_1 l0_1.length c0_1)) (fun _ hk => hk.1.1.1), by (with_reducible repeat (first | apply Kd.V_alloc | apply Kd.V_drewN | apply Kd.V_drew)); exact Kd.V_mono (Kd.V_far (p := ⟨gb560, 1, none⟩) (Kd.V_far (p := ⟨gb560, 0, none⟩) (Kd.V_mono HO_560001.out (fun k_ hk => (⟨hk, hk.1.2.2.1⟩ : _ ∧ k_ ≠ gb560))) (fun _ hk => hk.2) (.slice A0_0 l0_0.length c0_0)) (fun _ hk => hk.2) (.slice A0_1 l0_1.length c0_1)) (fun _ hk => hk.1.1.1), by repeat (first | (with_reducible first | exact HB.out | apply below_alloc | apply pw_below_drewN | apply below_drew1 | refine below_set ?_ GE559.out | refine below_set ?_ GE560.out | refine below_set ?_ GE564.out) | exact HB.out)⟩
              · rw [if_neg c25] at H
                exact absurd H (by simp)
            · rw [if_neg c24] at H
              have c24b0 : decide (x16_2 < (l3.length : Int)) = false := decide_eq_false c24
              clear c24
              simp only [Option.some.injEq, Prod.mk.injEq] at H
              obtain ⟨rfl, rfl, rfl, rfl⟩ := H
              have hnb46 := NB564_559.out
              have hnc46 := NB559_564.out
              have hnb47 := NB564_560.out
              have hnc47 := NB560_564.out
              have hcz48_0 : wr.cell? ⟨gb564, 0, none⟩ = some (u565000) := (blk_cell BK564.out 0).trans rfl
              have hcz48_1 : wr.cell? ⟨gb564, 1, none⟩ = some (u565001) := (blk_cell BK564.out 1).trans rfl
              have hfz48_0 := blk_frozen BK564.out 0
              have hfz48_1 := blk_frozen BK564.out 1
              obtain ⟨Ao49, co49, eo49⟩ := Kd.V_slice HO_565000.out
              subst eo49
              have hnb50 := NB560_559.out
              have hnc50 := NB559_560.out
              have hcz51_0 : wr.cell? ⟨gb560, 0, none⟩ = some (.slice none 0 0) := (blk_cell BK560.out 0).trans rfl
              have hcz51_1 : wr.cell? ⟨gb560, 1, none⟩ = some (.slice none 0 0) := (blk_cell BK560.out 1).trans rfl
              have hfz51_0 := blk_frozen BK560.out 0
              have hfz51_1 := blk_frozen BK560.out 1
              obtain ⟨Ao52, co52, eo52⟩ := Kd.V_slice HO_565001.out
              subst eo52
              go_wp2
              refine bodyPost_ret (results_ctt rfl _ _ gb560 29 #[.slice Ao49 x565000_2.length co49, .slice Ao52 x565001_2.length co52] (0, 0) _ rfl (by (with_reducible repeat (first | refine blk_drewN ?_ _ | refine blk_drew ?_ | refine blk_alloc ?_ _)); refine blk_put (cs := #[.slice Ao49 x565000_2.length co49, .slice none 0 0]) ?_ 1 _ rfl; (with_reducible repeat (first | refine blk_drewN ?_ _ | refine blk_drew ?_ | refine blk_alloc ?_ _)); refine blk_put (cs := #[.slice none 0 0, .slice none 0 0]) ?_ 0 _ rfl; (with_reducible repeat (first | refine blk_drewN ?_ _ | refine blk_drew ?_ | refine blk_alloc ?_ _)); exact BK560.out) Try.underlying29 rfl (by kernel_rfl)) rfl ?_
              exact ⟨_, _, by first | rfl | (simp [errW_none, errW_some] <;> rfl) | (simp [*, errW_none, errW_some] <;> rfl), by (with_reducible repeat (first | apply Kd.V_alloc | apply Kd.V_drewN | apply Kd.V_drew)); exact Kd.V_mono (Kd.V_far (p := ⟨gb560, 1, none⟩) (Kd.V_far (p := ⟨gb560, 0, none⟩) (Kd.V_mono HO_565000.out (fun k_ hk => (⟨hk, hk.2.2.1⟩ : _ ∧ k_ ≠ gb560))) (fun _ hk => hk.2) (.slice Ao49 x565000_2.length co49)) (fun _ hk => hk.2) (.slice Ao52 x565001_2.length co52)) (fun _ hk => hk.1.1), by (with_reducible repeat (first | apply Kd.V_alloc | apply Kd.V_drewN | apply Kd.V_drew)); exact Kd.V_mono (Kd.V_far (p := ⟨gb560, 1, none⟩) (Kd.V_far (p := ⟨gb560, 0, none⟩) (Kd.V_mono HO_565001.out (fun k_ hk => (⟨hk, hk.2.2.1⟩ : _ ∧ k_ ≠ gb560))) (fun _ hk => hk.2) (.slice Ao49 x565000_2.length co49)) (fun _ hk => hk.2) (.slice Ao52 x565001_2.length co52)) (fun _ hk => hk.1.1), by repeat (first | (with_reducible first | exact HB.out | apply below_alloc | apply pw_below_drewN | apply below_drew1 | refine below_set ?_ GE559.out | refine below_set ?_ GE560.out | refine below_set ?_ GE564.out) | exact HB.out)⟩

end Go.Proofs.Ytpkapldkmleppaa.F
