import Derived.Test.YthcohkgpbjcliaaFUp
import Derived.Test.YthcohkgpbjcliaaFPre
import Derived.Test.YthcohkgpbjcliaaFrootx0
namespace Go.Proofs.Ythcohkgpbjcliaa.F
open Go.RowKit Go.Proofs.YthcohkgpbjcliaaW.PrintWords Go.Proofs.YthcohkgpbjcliaaW.PrintLast Go.Proofs.YthcohkgpbjcliaaW.PrintMore
attribute [local go_sem] max2_int min2_int max_two min_two max_three min_three max_four min_four
set_option linter.unusedVariables false
set_option linter.unusedSimpArgs false
def root_Best.j0 : Nat → Bool → Bool → Int → Int → Int → Int → Int → Int → Option (Int × Int × Int × Int)
 | 0, _, _, _, _, _, _, _, _ => none
 | k + 1, x7, x18, x194000, x194001, x194002, x199000, x199001, x199002 => if x18 = true then (some (x194000, x194001, x194002, 0)) else (if x7 = true then (some (x199000, x199001, x199002, 0)) else (some (0, 0, 0, 3)))
def root_Best.f (k : Nat) (l0_0 : List ByteArray) (l0_1 : List (S83)) : Option (Int × Int × Int × Int) := (root_Read.f l0_0 l0_1 0).bind fun bt189 => ((root_Read.f l0_0 l0_1 1).bind fun bt194 => (if bt189.2.2.2 = true then (if bt194.2.2.2 = true then (root_Best.j0 k bt194.2.2.2 (decide (bt189.1 > bt194.1)) bt189.1 bt189.2.1 bt189.2.2.1 bt194.1 bt194.2.1 bt194.2.2.1) else (root_Best.j0 k bt194.2.2.2 true bt189.1 bt189.2.1 bt189.2.2.1 bt194.1 bt194.2.1 bt194.2.2.1)) else (root_Best.j0 k bt194.2.2.2 false bt189.1 bt189.2.1 bt189.2.2.1 bt194.1 bt194.2.1 bt194.2.2.1)))
theorem root_Best.mono_l : ∀ k, (∀ y0 y1 y2 y3 y4 y5 y6 y7, LeO (root_Best.j0 k y0 y1 y2 y3 y4 y5 y6 y7) (root_Best.j0 (k + 1) y0 y1 y2 y3 y4 y5 y6 y7))
 | 0 => fun _ _ _ _ _ _ _ _ r h => by simp [root_Best.j0] at h
 | k + 1 => by
  have ih0 := root_Best.mono_l k
  ·intro y0 y1 y2 y3 y4 y5 y6 y7
   unfold root_Best.j0
   repeat' first
   | (with_reducible exact ih0 _ _ _ _ _ _ _ _)
   | (with_reducible exact LeO.refl _)
   | (with_reducible exact LeO.none _)
   | (with_reducible refine LeO.ite ?_ ?_)
   | (with_reducible refine LeO.bind ?_ (fun _ => ?_))
   | exact ih0 _ _ _ _ _ _ _ _
   | exact LeO.none _
   | refine LeO.ite ?_ ?_
   | refine LeO.bind ?_ (fun _ => ?_)
theorem root_Best.mono : ∀ a0 a1 k, LeO (root_Best.f k a0 a1) (root_Best.f (k + 1) a0 a1) := by
 intro a0 a1 k
 have ih0 := root_Best.mono_l k
 unfold root_Best.f
 repeat' first
   | (with_reducible exact ih0 _ _ _ _ _ _ _ _)
   | (with_reducible exact LeO.refl _)
   | (with_reducible exact LeO.none _)
   | (with_reducible refine LeO.ite ?_ ?_)
   | (with_reducible refine LeO.bind ?_ (fun _ => ?_))
   | exact ih0 _ _ _ _ _ _ _ _
   | exact LeO.none _
   | refine LeO.ite ?_ ?_
   | refine LeO.bind ?_ (fun _ => ?_)
set_option maxHeartbeats 8000000 in
set_option maxRecDepth 100000 in
theorem root_Best.calls (k : Nat) (A0_0 : Option Addr) (c0_0 : Nat) (l0_0 : List ByteArray) (A0_1 : Option Addr) (c0_1 : Nat) (l0_1 : List (S83)) (r1 : Int) (r2 : Int) (r3 : Int) (r4 : Int) (w : World) (hr0_0 : Kd.C Kd.string w A0_0 l0_0.length l0_0) (hc0_0 : l0_0.length ≤ c0_0) (hr0_1 : Kd.C k83 w A0_1 l0_1.length l0_1) (hc0_1 : l0_1.length ≤ c0_1) (h : root_Best.f k l0_0 l0_1 = some (r1, r2, r3, r4)) :
  Calls Try.prog 21 #[.agg #[.slice A0_0 l0_0.length c0_0, .slice A0_1 l0_1.length c0_1]] w fun e w' => e = .returned (.tuple #[.agg #[.int .i64 r1, .int .i64 r2, .int .i64 r3], .int .i64 r4]) ∧ Below w.heap.size w w' := by
 have hu25 := Try.underlying25
 have hu27 := Try.underlying27
 have HR0_0 := Aside0.mk hr0_0
 have HC0_0 := Aside0.mk hc0_0
 clear hr0_0 hc0_0
 have HR0_1 := Aside0.mk hr0_1
 have HC0_1 := Aside0.mk hc0_1
 clear hr0_1 hc0_1
 have HB := Aside0.mk (Below.refl w.heap.size w)
 have H : ((root_Read.f l0_0 l0_1 0).bind fun bt189 => ((root_Read.f l0_0 l0_1 1).bind fun bt194 => (if bt189.2.2.2 = true then (if bt194.2.2.2 = true then (root_Best.j0 k bt194.2.2.2 (decide (bt189.1 > bt194.1)) bt189.1 bt189.2.1 bt189.2.2.1 bt194.1 bt194.2.1 bt194.2.2.1) else (root_Best.j0 k bt194.2.2.2 true bt189.1 bt189.2.1 bt189.2.2.1 bt194.1 bt194.2.1 bt194.2.2.1)) else (root_Best.j0 k bt194.2.2.2 false bt189.1 bt189.2.1 bt189.2.2.1 bt194.1 bt194.2.1 bt194.2.2.1)))) = some (r1, r2, r3, r4) := h
 clear h
 replace H := Option.bind_eq_some_iff.mp H
 obtain ⟨⟨t189, t190, t191, t192⟩, A20, H⟩ := H
 try dsimp only at H
 have A2 := Aside0.mk A20
 clear A20
 replace H := Option.bind_eq_some_iff.mp H
 obtain ⟨⟨t194, t195, t196, t197⟩, A30, H⟩ := H
 try dsimp only at H
 have A3 := Aside0.mk A30
 clear A30
 have HC4 := Aside0.mk H
 clear H
 go_enter Try.func21, Try.ntmps21
 go_upto_region 3 with (first | ((with_reducible refine gate_dst (N := 1) rfl ?_); refine box_event ?hg (N := 1) ?hd (cs := #[.slice A0_0 l0_0.length c0_0, .slice A0_1 l0_1.length c0_1]) (t := 25) ?hr ?_; (case hd => rfl); (case hg => rfl); (case hr => first | (go_simp; done) | (go_simp; rfl)); intro gb187 hg w5 hbox hb; have BK187 := Aside0.mk (hbox); have GW187 := Aside0.mk ((geU HB.out hg)); have GE187 := Aside0.mk ((geU HB.out hg)); replace HB := Aside0.mk (below_step (beU HB.out) hb); clear hb hbox hg) | ((with_reducible refine gate_dst (N := 2) rfl ?_); refine box_event ?hg (N := 2) ?hd (cs := #[.int .i64 0, .int .i64 0, .int .i64 0]) (t := 27) ?hr ?_; (case hd => rfl); (case hg => rfl); (case hr => first | (go_simp; done) | (go_simp; rfl)); intro gb188 hg w6 hbox hb; have BK188 := Aside0.mk (hbox); have GW188 := Aside0.mk ((by first | exact geU HB.out hg | (rw [hg]; exact below_size (by repeat (first | exact beU HB.out | refine below_set ?_ (Aside0.out ‹_›) | apply below_alloc | apply pw_below_drewN | apply below_drew1))))); have GE188 := Aside0.mk ((by first | exact geU HB.out hg | (rw [hg]; exact below_size (by repeat (first | exact beU HB.out | refine below_set ?_ (Aside0.out ‹_›) | apply below_alloc | apply pw_below_drewN | apply below_drew1))))); have NB187_188 := Aside0.mk ((neU BK187.out hg)); have NB188_187 := Aside0.mk ((enU BK187.out hg)); replace BK187 := Aside0.mk (blk_below (bU BK187.out) hb); replace HB := Aside0.mk (below_step (by repeat (first | exact beU HB.out | refine below_set ?_ (Aside0.out ‹_›) | apply below_alloc | apply pw_below_drewN | apply below_drew1)) hb); clear hb hbox hg; have hnb7 := NB187_188.out; have hnc7 := NB188_187.out; have hcz8_0 : w6.cell? ⟨gb187, 0, none⟩ = some (.slice A0_0 l0_0.length c0_0) := (blk_cell BK187.out 0).trans rfl; have hcz8_1 : w6.cell? ⟨gb187, 1, none⟩ = some (.slice A0_1 l0_1.length c0_1) := (blk_cell BK187.out 1).trans rfl; have hfz8_0 := blk_frozen BK187.out 0; have hfz8_1 := blk_frozen BK187.out 1) | ((with_reducible refine gate_callee (f := 19) rfl ?_); refine goesL_ (some 10) rfl rfl Try.func19 (by kernel_rfl) rfl #[.agg #[.slice A0_0 l0_0.length c0_0, .slice A0_1 l0_1.length c0_1], .int .i64 0] rfl (by (try simp only [List.map_toArray, List.map_cons, List.map_nil]); first | done | rfl | (simp only [List.length_drop, List.length_take]; rfl)) ?_; (with_reducible refine (root_Read.calls _ _ l0_0 _ _ l0_1 0 t189 t190 t191 t192 _ ?side1 ?side2 ?side3 ?side4 A2.out).mono ?_); (case side1 => repeat (first | exact (Kd.C_below HR0_0.out HB.out) | (with_reducible refine Kd.C_alloc ?_ _) | (with_reducible refine Kd.C_drewN ?_ _) | (with_reducible refine Kd.C_drew ?_))); (case side2 => exact HC0_0.out); (case side3 => repeat (first | exact (Kd.C_below HR0_1.out HB.out) | (with_reducible refine Kd.C_alloc ?_ _) | (with_reducible refine Kd.C_drewN ?_ _) | (with_reducible refine Kd.C_drew ?_))); (case side4 => exact HC0_1.out); rintro e w9 ⟨rfl, hb⟩; refine ⟨_, rfl, ?_⟩; replace BK187 := Aside0.mk (blk_below (bU BK187.out) hb); replace BK188 := Aside0.mk (blk_below (bU BK188.out) hb); replace HB := Aside0.mk (below_step (by repeat (first | exact beU HB.out | refine below_set ?_ (Aside0.out ‹_›) | apply below_alloc | apply pw_below_drewN | apply below_drew1)) hb); (try clear hb); (try clear hb2); (try clear hk); (try clear hi)) | ((with_reducible refine gate_dst (N := 4) rfl ?_); refine box_event ?hg (N := 4) ?hd (cs := #[.int .i64 0, .int .i64 0, .int .i64 0]) (t := 27) ?hr ?_; (case hd => rfl); (case hg => rfl); (case hr => first | (go_simp; done) | (go_simp; rfl)); intro gb193 hg w10 hbox hb; have BK193 := Aside0.mk (hbox); have GW193 := Aside0.mk ((by first | exact geU HB.out hg | (rw [hg]; exact below_size (by repeat (first | exact beU HB.out | refine below_set ?_ (Aside0.out ‹_›) | apply below_alloc | apply pw_below_drewN | apply below_drew1))))); have GE193 := Aside0.mk ((by first | exact geU HB.out hg | (rw [hg]; exact below_size (by repeat (first | exact beU HB.out | refine below_set ?_ (Aside0.out ‹_›) | apply below_alloc | apply pw_below_drewN | apply below_drew1))))); have NB187_193 := Aside0.mk ((neU BK187.out hg)); have NB193_187 := Aside0.mk ((enU BK187.out hg)); have NB188_193 := Aside0.mk ((neU BK188.out hg)); have NB193_188 := Aside0.mk ((enU BK188.out hg)); replace BK187 := Aside0.mk (blk_below (bU BK187.out) hb); replace BK188 := Aside0.mk (blk_below (bU BK188.out) hb); replace HB := Aside0.mk (below_step (by repeat (first | exact beU HB.out | refine below_set ?_ (Aside0.out ‹_›) | apply below_alloc | apply pw_below_drewN | apply below_drew1)) hb); clear hb hbox hg; have hnb11 := NB193_187.out; have hnc11 := NB187_193.out; have hnb12 := NB193_188.out; have hnc12 := NB188_193.out; have hcz13_0 : w10.cell? ⟨gb193, 0, none⟩ = some (.int .i64 0) := (blk_cell BK193.out 0).trans rfl; have hcz13_1 : w10.cell? ⟨gb193, 1, none⟩ = some (.int .i64 0) := (blk_cell BK193.out 1).trans rfl; have hcz13_2 : w10.cell? ⟨gb193, 2, none⟩ = some (.int .i64 0) := (blk_cell BK193.out 2).trans rfl; have hfz13_0 := blk_frozen BK193.out 0; have hfz13_1 := blk_frozen BK193.out 1; have hfz13_2 := blk_frozen BK193.out 2; have hcz14_0 : w10.cell? ⟨gb187, 0, none⟩ = some (.slice A0_0 l0_0.length c0_0) := (blk_cell BK187.out 0).trans rfl; have hcz14_1 : w10.cell? ⟨gb187, 1, none⟩ = some (.slice A0_1 l0_1.length c0_1) := (blk_cell BK187.out 1).trans rfl; have hfz14_0 := blk_frozen BK187.out 0; have hfz14_1 := blk_frozen BK187.out 1) | ((with_reducible refine gate_callee (f := 19) rfl ?_); refine goesL_ (some 15) rfl rfl Try.func19 (by kernel_rfl) rfl #[.agg #[.slice A0_0 l0_0.length c0_0, .slice A0_1 l0_1.length c0_1], .int .i64 1] rfl (by (try simp only [List.map_toArray, List.map_cons, List.map_nil]); first | done | rfl | (simp only [List.length_drop, List.length_take]; rfl)) ?_; (with_reducible refine (root_Read.calls _ _ l0_0 _ _ l0_1 1 t194 t195 t196 t197 _ ?side1 ?side2 ?side3 ?side4 A3.out).mono ?_); (case side1 => exact Kd.C_below HR0_0.out (by repeat (first | exact beU HB.out | refine below_set ?_ (Aside0.out ‹_›) | apply below_alloc | apply pw_below_drewN | apply below_drew1))); (case side2 => exact HC0_0.out); (case side3 => exact Kd.C_below HR0_1.out (by repeat (first | exact beU HB.out | refine below_set ?_ (Aside0.out ‹_›) | apply below_alloc | apply pw_below_drewN | apply below_drew1))); (case side4 => exact HC0_1.out); rintro e w15 ⟨rfl, hb⟩; refine ⟨_, rfl, ?_⟩; replace BK187 := Aside0.mk (blk_below (g := gb187) (o := .cells #[.slice A0_0 l0_0.length c0_0, .slice A0_1 l0_1.length c0_1] 25 (0, 0)) (by (with_reducible repeat (first | refine blk_drewN ?_ _ | refine blk_drew ?_ | refine blk_alloc ?_ _)); refine blk_far ?_ NB187_193.out _; (with_reducible repeat (first | refine blk_drewN ?_ _ | refine blk_drew ?_ | refine blk_alloc ?_ _)); refine blk_far ?_ NB187_193.out _; (with_reducible repeat (first | refine blk_drewN ?_ _ | refine blk_drew ?_ | refine blk_alloc ?_ _)); refine blk_far ?_ NB187_193.out _; (with_reducible repeat (first | refine blk_drewN ?_ _ | refine blk_drew ?_ | refine blk_alloc ?_ _)); exact BK187.out) hb); replace BK188 := Aside0.mk (blk_below (g := gb188) (o := .cells #[.int .i64 0, .int .i64 0, .int .i64 0] 27 (0, 0)) (by (with_reducible repeat (first | refine blk_drewN ?_ _ | refine blk_drew ?_ | refine blk_alloc ?_ _)); refine blk_far ?_ NB188_193.out _; (with_reducible repeat (first | refine blk_drewN ?_ _ | refine blk_drew ?_ | refine blk_alloc ?_ _)); refine blk_far ?_ NB188_193.out _; (with_reducible repeat (first | refine blk_drewN ?_ _ | refine blk_drew ?_ | refine blk_alloc ?_ _)); refine blk_far ?_ NB188_193.out _; (with_reducible repeat (first | refine blk_drewN ?_ _ | refine blk_drew ?_ | refine blk_alloc ?_ _)); exact BK188.out) hb); replace BK193 := Aside0.mk (blk_below (g := gb193) (o := .cells #[.int .i64 t189, .int .i64 t190, .int .i64 t191] 27 (0, 0)) (by (with_reducible repeat (first | refine blk_drewN ?_ _ | refine blk_drew ?_ | refine blk_alloc ?_ _)); refine blk_put (cs := #[.int .i64 t189, .int .i64 t190, .int .i64 0]) ?_ 2 _ rfl; (with_reducible repeat (first | refine blk_drewN ?_ _ | refine blk_drew ?_ | refine blk_alloc ?_ _)); refine blk_put (cs := #[.int .i64 t189, .int .i64 0, .int .i64 0]) ?_ 1 _ rfl; (with_reducible repeat (first | refine blk_drewN ?_ _ | refine blk_drew ?_ | refine blk_alloc ?_ _)); refine blk_put (cs := #[.int .i64 0, .int .i64 0, .int .i64 0]) ?_ 0 _ rfl; (with_reducible repeat (first | refine blk_drewN ?_ _ | refine blk_drew ?_ | refine blk_alloc ?_ _)); exact BK193.out) hb); replace HB := Aside0.mk (below_step (by repeat (first | exact beU HB.out | refine below_set ?_ (Aside0.out ‹_›) | apply below_alloc | apply pw_below_drewN | apply below_drew1)) hb); (try clear hb); (try clear hb2); (try clear hk); (try clear hi)) | ((with_reducible refine gate_dst (N := 6) rfl ?_); refine box_event ?hg (N := 6) ?hd (cs := #[.int .i64 0, .int .i64 0, .int .i64 0]) (t := 27) ?hr ?_; (case hd => rfl); (case hg => rfl); (case hr => first | (go_simp; done) | (go_simp; rfl)); intro gb198 hg w16 hbox hb; have BK198 := Aside0.mk (hbox); have GW198 := Aside0.mk ((by first | exact geU HB.out hg | (rw [hg]; exact below_size (by repeat (first | exact beU HB.out | refine below_set ?_ (Aside0.out ‹_›) | apply below_alloc | apply pw_below_drewN | apply below_drew1))))); have GE198 := Aside0.mk ((by first | exact geU HB.out hg | (rw [hg]; exact below_size (by repeat (first | exact beU HB.out | refine below_set ?_ (Aside0.out ‹_›) | apply below_alloc | apply pw_below_drewN | apply below_drew1))))); have NB187_198 := Aside0.mk ((neU BK187.out hg)); have NB198_187 := Aside0.mk ((enU BK187.out hg)); have NB188_198 := Aside0.mk ((neU BK188.out hg)); have NB198_188 := Aside0.mk ((enU BK188.out hg)); have NB193_198 := Aside0.mk ((neU BK193.out hg)); have NB198_193 := Aside0.mk ((enU BK193.out hg)); replace BK187 := Aside0.mk (blk_below (bU BK187.out) hb); replace BK188 := Aside0.mk (blk_below (bU BK188.out) hb); replace BK193 := Aside0.mk (blk_below (bU BK193.out) hb); replace HB := Aside0.mk (below_step (by repeat (first | exact beU HB.out | refine below_set ?_ (Aside0.out ‹_›) | apply below_alloc | apply pw_below_drewN | apply below_drew1)) hb); clear hb hbox hg; have hnb17 := NB198_187.out; have hnc17 := NB187_198.out; have hnb18 := NB198_188.out; have hnc18 := NB188_198.out; have hnb19 := NB198_193.out; have hnc19 := NB193_198.out; have hcz20_0 : w16.cell? ⟨gb198, 0, none⟩ = some (.int .i64 0) := (blk_cell BK198.out 0).trans rfl; have hcz20_1 : w16.cell? ⟨gb198, 1, none⟩ = some (.int .i64 0) := (blk_cell BK198.out 1).trans rfl; have hcz20_2 : w16.cell? ⟨gb198, 2, none⟩ = some (.int .i64 0) := (blk_cell BK198.out 2).trans rfl; have hfz20_0 := blk_frozen BK198.out 0; have hfz20_1 := blk_frozen BK198.out 1; have hfz20_2 := blk_frozen BK198.out 2))
 (try simp only [Act.put, List.setIfInBounds_toArray, List.set_cons_zero, List.set_cons_succ])
 go_cut [18] (fun v18 wc => ∃ (kq : Nat) (x18_3 : Bool), v18 = .bool x18_3 ∧ Aside0 (root_Best.j0 kq t197 x18_3 t189 t190 t191 t194 t195 t196 = some (r1, r2, r3, r4)) ∧ Aside0 (kq ≤ k) ∧ Aside0 (wc.heap[gb187]? = some (.cells #[(.slice A0_0 l0_0.length c0_0), (.slice A0_1 l0_1.length c0_1)] 25 (0, 0))) ∧ Aside0 (wc.heap[gb188]? = some (.cells #[.int .i64 0, .int .i64 0, .int .i64 0] 27 (0, 0))) ∧ Aside0 (wc.heap[gb193]? = some (.cells #[.int .i64 t189, .int .i64 t190, .int .i64 t191] 27 (0, 0))) ∧ Aside0 (wc.heap[gb198]? = some (.cells #[.int .i64 t194, .int .i64 t195, .int .i64 t196] 27 (0, 0))) ∧ Aside0 (Below w.heap.size w wc))
 case first =>
  have H := HC4.out
  clear HC4
  by_cases c21 : t192 = true
  ·subst c21
   have H1 : (if t197 = true then (root_Best.j0 k t197 (decide (t189 > t194)) t189 t190 t191 t194 t195 t196) else (root_Best.j0 k t197 true t189 t190 t191 t194 t195 t196)) = some (r1, r2, r3, r4) := by rw [if_pos rfl] at H; exact H
   clear H
   have H := H1
   clear H1
   by_cases c22 : t197 = true
   ·subst c22
    have H1 : (root_Best.j0 k true (decide (t189 > t194)) t189 t190 t191 t194 t195 t196) = some (r1, r2, r3, r4) := by rw [if_pos rfl] at H; exact H
    clear H
    have H := H1
    clear H1
    have H' := Aside0.mk H
    clear H
    have hnb23 := NB193_187.out
    have hnc23 := NB187_193.out
    have hnb24 := NB193_188.out
    have hnc24 := NB188_193.out
    have hnb25 := NB193_198.out
    have hnc25 := NB198_193.out
    have hcz26_0 : w16.cell? ⟨gb193, 0, none⟩ = some (.int .i64 t189) := (blk_cell BK193.out 0).trans rfl
    have hcz26_1 : w16.cell? ⟨gb193, 1, none⟩ = some (.int .i64 t190) := (blk_cell BK193.out 1).trans rfl
    have hcz26_2 : w16.cell? ⟨gb193, 2, none⟩ = some (.int .i64 t191) := (blk_cell BK193.out 2).trans rfl
    have hfz26_0 := blk_frozen BK193.out 0
    have hfz26_1 := blk_frozen BK193.out 1
    have hfz26_2 := blk_frozen BK193.out 2
    have hnb27 := NB198_187.out
    have hnc27 := NB187_198.out
    have hnb28 := NB198_188.out
    have hnc28 := NB188_198.out
    have hcz29_0 : w16.cell? ⟨gb198, 0, none⟩ = some (.int .i64 0) := (blk_cell BK198.out 0).trans rfl
    have hcz29_1 : w16.cell? ⟨gb198, 1, none⟩ = some (.int .i64 0) := (blk_cell BK198.out 1).trans rfl
    have hcz29_2 : w16.cell? ⟨gb198, 2, none⟩ = some (.int .i64 0) := (blk_cell BK198.out 2).trans rfl
    have hfz29_0 := blk_frozen BK198.out 0
    have hfz29_1 := blk_frozen BK198.out 1
    have hfz29_2 := blk_frozen BK198.out 2
    go_wp2
    go_meet
    case rel => exact ⟨_, (decide (t189 > t194)), (by first | rfl | (simp; done) | (simp [*]; done)), H', ⟨by first | omega | exact Nat.le_refl _⟩, ⟨by (with_reducible repeat (first | refine blk_drewN ?_ _ | refine blk_drew ?_ | refine blk_alloc ?_ _)); refine blk_far ?_ NB187_198.out _; (with_reducible repeat (first | refine blk_drewN ?_ _ | refine blk_drew ?_ | refine blk_alloc ?_ _)); refine blk_far ?_ NB187_198.out _; (with_reducible repeat (first | refine blk_drewN ?_ _ | refine blk_drew ?_ | refine blk_alloc ?_ _)); refine blk_far ?_ NB187_198.out _; (with_reducible repeat (first | refine blk_drewN ?_ _ | refine blk_drew ?_ | refine blk_alloc ?_ _)); exact BK187.out⟩, ⟨by (with_reducible repeat (first | refine blk_drewN ?_ _ | refine blk_drew ?_ | refine blk_alloc ?_ _)); refine blk_far ?_ NB188_198.out _; (with_reducible repeat (first | refine blk_drewN ?_ _ | refine blk_drew ?_ | refine blk_alloc ?_ _)); refine blk_far ?_ NB188_198.out _; (with_reducible repeat (first | refine blk_drewN ?_ _ | refine blk_drew ?_ | refine blk_alloc ?_ _)); refine blk_far ?_ NB188_198.out _; (with_reducible repeat (first | refine blk_drewN ?_ _ | refine blk_drew ?_ | refine blk_alloc ?_ _)); exact BK188.out⟩, ⟨by (with_reducible repeat (first | refine blk_drewN ?_ _ | refine blk_drew ?_ | refine blk_alloc ?_ _)); refine blk_far ?_ NB193_198.out _; (with_reducible repeat (first | refine blk_drewN ?_ _ | refine blk_drew ?_ | refine blk_alloc ?_ _)); refine blk_far ?_ NB193_198.out _; (with_reducible repeat (first | refine blk_drewN ?_ _ | refine blk_drew ?_ | refine blk_alloc ?_ _)); refine blk_far ?_ NB193_198.out _; (with_reducible repeat (first | refine blk_drewN ?_ _ | refine blk_drew ?_ | refine blk_alloc ?_ _)); exact BK193.out⟩, ⟨by (with_reducible repeat (first | refine blk_drewN ?_ _ | refine blk_drew ?_ | refine blk_alloc ?_ _)); refine blk_put (cs := #[.int .i64 t194, .int .i64 t195, .int .i64 0]) ?_ 2 _ rfl; (with_reducible repeat (first | refine blk_drewN ?_ _ | refine blk_drew ?_ | refine blk_alloc ?_ _)); refine blk_put (cs := #[.int .i64 t194, .int .i64 0, .int .i64 0]) ?_ 1 _ rfl; (with_reducible repeat (first | refine blk_drewN ?_ _ | refine blk_drew ?_ | refine blk_alloc ?_ _)); refine blk_put (cs := #[.int .i64 0, .int .i64 0, .int .i64 0]) ?_ 0 _ rfl; (with_reducible repeat (first | refine blk_drewN ?_ _ | refine blk_drew ?_ | refine blk_alloc ?_ _)); exact BK198.out⟩, ⟨by repeat (first | (with_reducible first | exact HB.out | apply below_alloc | apply pw_below_drewN | apply below_drew1 | refine below_set ?_ GE187.out | refine below_set ?_ GE188.out | refine below_set ?_ GE193.out | refine below_set ?_ GE198.out) | exact HB.out)⟩⟩
   ·replace c22 := Bool.eq_false_iff.mpr c22
    subst c22
    have H1 : (root_Best.j0 k false true t189 t190 t191 t194 t195 t196) = some (r1, r2, r3, r4) := by rw [if_neg (show ¬ (false = true) by decide)] at H; exact H
    clear H
    have H := H1
    clear H1
    have H' := Aside0.mk H
    clear H
    go_wp2
    go_meet
    case rel => exact ⟨_, (true), (by first | rfl | (simp; done) | (simp [*]; done)), H', ⟨by first | omega | exact Nat.le_refl _⟩, ⟨by (with_reducible repeat (first | refine blk_drewN ?_ _ | refine blk_drew ?_ | refine blk_alloc ?_ _)); refine blk_far ?_ NB187_198.out _; (with_reducible repeat (first | refine blk_drewN ?_ _ | refine blk_drew ?_ | refine blk_alloc ?_ _)); refine blk_far ?_ NB187_198.out _; (with_reducible repeat (first | refine blk_drewN ?_ _ | refine blk_drew ?_ | refine blk_alloc ?_ _)); refine blk_far ?_ NB187_198.out _; (with_reducible repeat (first | refine blk_drewN ?_ _ | refine blk_drew ?_ | refine blk_alloc ?_ _)); exact BK187.out⟩, ⟨by (with_reducible repeat (first | refine blk_drewN ?_ _ | refine blk_drew ?_ | refine blk_alloc ?_ _)); refine blk_far ?_ NB188_198.out _; (with_reducible repeat (first | refine blk_drewN ?_ _ | refine blk_drew ?_ | refine blk_alloc ?_ _)); refine blk_far ?_ NB188_198.out _; (with_reducible repeat (first | refine blk_drewN ?_ _ | refine blk_drew ?_ | refine blk_alloc ?_ _)); refine blk_far ?_ NB188_198.out _; (with_reducible repeat (first | refine blk_drewN ?_ _ | refine blk_drew ?_ | refine blk_alloc ?_ _)); exact BK188.out⟩, ⟨by (with_reducible repeat (first | refine blk_drewN ?_ _ | refine blk_drew ?_ | refine blk_alloc ?_ _)); refine blk_far ?_ NB193_198.out _; (with_reducible repeat (first | refine blk_drewN ?_ _ | refine blk_drew ?_ | refine blk_alloc ?_ _)); refine blk_far ?_ NB193_198.out _; (with_reducible repeat (first | refine blk_drewN ?_ _ | refine blk_drew ?_ | refine blk_alloc ?_ _)); refine blk_far ?_ NB193_198.out _; (with_reducible repeat (first | refine blk_drewN ?_ _ | refine blk_drew ?_ | refine blk_alloc ?_ _)); exact BK193.out⟩, ⟨by (with_reducible repeat (first | refine blk_drewN ?_ _ | refine blk_drew ?_ | refine blk_alloc ?_ _)); refine blk_put (cs := #[.int .i64 t194, .int .i64 t195, .int .i64 0]) ?_ 2 _ rfl; (with_reducible repeat (first | refine blk_drewN ?_ _ | refine blk_drew ?_ | refine blk_alloc ?_ _)); refine blk_put (cs := #[.int .i64 t194, .int .i64 0, .int .i64 0]) ?_ 1 _ rfl; (with_reducible repeat (first | refine blk_drewN ?_ _ | refine blk_drew ?_ | refine blk_alloc ?_ _)); refine blk_put (cs := #[.int .i64 0, .int .i64 0, .int .i64 0]) ?_ 0 _ rfl; (with_reducible repeat (first | refine blk_drewN ?_ _ | refine blk_drew ?_ | refine blk_alloc ?_ _)); exact BK198.out⟩, ⟨by repeat (first | (with_reducible first | exact HB.out | apply below_alloc | apply pw_below_drewN | apply below_drew1 | refine below_set ?_ GE187.out | refine below_set ?_ GE188.out | refine below_set ?_ GE193.out | refine below_set ?_ GE198.out) | exact HB.out)⟩⟩
  ·replace c21 := Bool.eq_false_iff.mpr c21
   subst c21
   have H1 : (root_Best.j0 k t197 false t189 t190 t191 t194 t195 t196) = some (r1, r2, r3, r4) := by rw [if_neg (show ¬ (false = true) by decide)] at H; exact H
   clear H
   have H := H1
   clear H1
   have H' := Aside0.mk H
   clear H
   go_wp2
   go_meet
   case rel => exact ⟨_, (false), (by first | rfl | (simp; done) | (simp [*]; done)), H', ⟨by first | omega | exact Nat.le_refl _⟩, ⟨by (with_reducible repeat (first | refine blk_drewN ?_ _ | refine blk_drew ?_ | refine blk_alloc ?_ _)); refine blk_far ?_ NB187_198.out _; (with_reducible repeat (first | refine blk_drewN ?_ _ | refine blk_drew ?_ | refine blk_alloc ?_ _)); refine blk_far ?_ NB187_198.out _; (with_reducible repeat (first | refine blk_drewN ?_ _ | refine blk_drew ?_ | refine blk_alloc ?_ _)); refine blk_far ?_ NB187_198.out _; (with_reducible repeat (first | refine blk_drewN ?_ _ | refine blk_drew ?_ | refine blk_alloc ?_ _)); exact BK187.out⟩, ⟨by (with_reducible repeat (first | refine blk_drewN ?_ _ | refine blk_drew ?_ | refine blk_alloc ?_ _)); refine blk_far ?_ NB188_198.out _; (with_reducible repeat (first | refine blk_drewN ?_ _ | refine blk_drew ?_ | refine blk_alloc ?_ _)); refine blk_far ?_ NB188_198.out _; (with_reducible repeat (first | refine blk_drewN ?_ _ | refine blk_drew ?_ | refine blk_alloc ?_ _)); refine blk_far ?_ NB188_198.out _; (with_reducible repeat (first | refine blk_drewN ?_ _ | refine blk_drew ?_ | refine blk_alloc ?_ _)); exact BK188.out⟩, ⟨by (with_reducible repeat (first | refine blk_drewN ?_ _ | refine blk_drew ?_ | refine blk_alloc ?_ _)); refine blk_far ?_ NB193_198.out _; (with_reducible repeat (first | refine blk_drewN ?_ _ | refine blk_drew ?_ | refine blk_alloc ?_ _)); refine blk_far ?_ NB193_198.out _; (with_reducible repeat (first | refine blk_drewN ?_ _ | refine blk_drew ?_ | refine blk_alloc ?_ _)); refine blk_far ?_ NB193_198.out _; (with_reducible repeat (first | refine blk_drewN ?_ _ | refine blk_drew ?_ | refine blk_alloc ?_ _)); exact BK193.out⟩, ⟨by (with_reducible repeat (first | refine blk_drewN ?_ _ | refine blk_drew ?_ | refine blk_alloc ?_ _)); refine blk_put (cs := #[.int .i64 t194, .int .i64 t195, .int .i64 0]) ?_ 2 _ rfl; (with_reducible repeat (first | refine blk_drewN ?_ _ | refine blk_drew ?_ | refine blk_alloc ?_ _)); refine blk_put (cs := #[.int .i64 t194, .int .i64 0, .int .i64 0]) ?_ 1 _ rfl; (with_reducible repeat (first | refine blk_drewN ?_ _ | refine blk_drew ?_ | refine blk_alloc ?_ _)); refine blk_put (cs := #[.int .i64 0, .int .i64 0, .int .i64 0]) ?_ 0 _ rfl; (with_reducible repeat (first | refine blk_drewN ?_ _ | refine blk_drew ?_ | refine blk_alloc ?_ _)); exact BK198.out⟩, ⟨by repeat (first | (with_reducible first | exact HB.out | apply below_alloc | apply pw_below_drewN | apply below_drew1 | refine below_set ?_ GE187.out | refine below_set ?_ GE188.out | refine below_set ?_ GE193.out | refine below_set ?_ GE198.out) | exact HB.out)⟩⟩
 case rest =>
  clear HC4
  try clear c1
  try clear c2
  try clear p2
  try clear c7
  try clear c11
  try clear c12
  try clear c17
  try clear c18
  try clear c19
  try clear c21
  try clear c22
  try clear c23
  try clear c24
  try clear c25
  try clear c27
  try clear c28
  try clear hcz13_0
  try clear hcz13_1
  try clear hcz13_2
  try clear hcz14_0
  try clear hcz14_1
  try clear hcz20_0
  try clear hcz20_1
  try clear hcz20_2
  try clear hcz26_0
  try clear hcz26_1
  try clear hcz26_2
  try clear hcz29_0
  try clear hcz29_1
  try clear hcz29_2
  try clear hcz8_0
  try clear hcz8_1
  try clear hfz13_0
  try clear hfz13_1
  try clear hfz13_2
  try clear hfz14_0
  try clear hfz14_1
  try clear hfz20_0
  try clear hfz20_1
  try clear hfz20_2
  try clear hfz26_0
  try clear hfz26_1
  try clear hfz26_2
  try clear hfz29_0
  try clear hfz29_1
  try clear hfz29_2
  try clear hfz8_0
  try clear hfz8_1
  obtain ⟨kq, x18_3, rfl, HA, HJ3, BK187, BK188, BK193, BK198, HB⟩ := hcut
  cases kq with
  | zero => exact absurd HA.out (by simp [root_Best.j0])
  | succ kj3 =>
   have H := HA.out
   clear HA
   simp only [root_Best.j0] at H
   by_cases c30 : x18_3 = true
   ·subst c30
    have H1 : (some (t189, t190, t191, 0)) = some (r1, r2, r3, r4) := by rw [if_pos rfl] at H; exact H
    clear H
    have H := H1
    clear H1
    simp only [Option.some.injEq, Prod.mk.injEq] at H
    obtain ⟨rfl, rfl, rfl, rfl⟩ := H
    have hnb31 := NB193_187.out
    have hnc31 := NB187_193.out
    have hnb32 := NB193_188.out
    have hnc32 := NB188_193.out
    have hnb33 := NB193_198.out
    have hnc33 := NB198_193.out
    have hcz34_0 : wc.cell? ⟨gb193, 0, none⟩ = some (.int .i64 t189) := (blk_cell BK193.out 0).trans rfl
    have hcz34_1 : wc.cell? ⟨gb193, 1, none⟩ = some (.int .i64 t190) := (blk_cell BK193.out 1).trans rfl
    have hcz34_2 : wc.cell? ⟨gb193, 2, none⟩ = some (.int .i64 t191) := (blk_cell BK193.out 2).trans rfl
    have hfz34_0 := blk_frozen BK193.out 0
    have hfz34_1 := blk_frozen BK193.out 1
    have hfz34_2 := blk_frozen BK193.out 2
    have hnb35 := NB188_187.out
    have hnc35 := NB187_188.out
    have hnb36 := NB188_198.out
    have hnc36 := NB198_188.out
    have hcz37_0 : wc.cell? ⟨gb188, 0, none⟩ = some (.int .i64 0) := (blk_cell BK188.out 0).trans rfl
    have hcz37_1 : wc.cell? ⟨gb188, 1, none⟩ = some (.int .i64 0) := (blk_cell BK188.out 1).trans rfl
    have hcz37_2 : wc.cell? ⟨gb188, 2, none⟩ = some (.int .i64 0) := (blk_cell BK188.out 2).trans rfl
    have hfz37_0 := blk_frozen BK188.out 0
    have hfz37_1 := blk_frozen BK188.out 1
    have hfz37_2 := blk_frozen BK188.out 2
    go_wp2
    refine bodyPost_ret (results_ct rfl _ _ gb188 27 #[.int .i64 t189, .int .i64 t190, .int .i64 t191] (0, 0) _ rfl (by (with_reducible repeat (first | refine blk_drewN ?_ _ | refine blk_drew ?_ | refine blk_alloc ?_ _)); refine blk_put (cs := #[.int .i64 t189, .int .i64 t190, .int .i64 0]) ?_ 2 _ rfl; (with_reducible repeat (first | refine blk_drewN ?_ _ | refine blk_drew ?_ | refine blk_alloc ?_ _)); refine blk_put (cs := #[.int .i64 t189, .int .i64 0, .int .i64 0]) ?_ 1 _ rfl; (with_reducible repeat (first | refine blk_drewN ?_ _ | refine blk_drew ?_ | refine blk_alloc ?_ _)); refine blk_put (cs := #[.int .i64 0, .int .i64 0, .int .i64 0]) ?_ 0 _ rfl; (with_reducible repeat (first | refine blk_drewN ?_ _ | refine blk_drew ?_ | refine blk_alloc ?_ _)); exact BK188.out) Try.underlying27 rfl (by kernel_rfl)) rfl ?_
    exact ⟨by first | rfl | (simp [errW_none, errW_some] <;> rfl) | (simp [*, errW_none, errW_some] <;> rfl), by repeat (first | (with_reducible first | exact HB.out | apply below_alloc | apply pw_below_drewN | apply below_drew1 | refine below_set ?_ GE187.out | refine below_set ?_ GE188.out | refine below_set ?_ GE193.out | refine below_set ?_ GE198.out) | exact HB.out)⟩
   ·replace c30 := Bool.eq_false_iff.mpr c30
    subst c30
    have H1 : (if t197 = true then (some (t194, t195, t196, 0)) else (some (0, 0, 0, 3))) = some (r1, r2, r3, r4) := by rw [if_neg (show ¬ (false = true) by decide)] at H; exact H
    clear H
    have H := H1
    clear H1
    by_cases c38 : t197 = true
    ·subst c38
     have H1 : (some (t194, t195, t196, 0)) = some (r1, r2, r3, r4) := by rw [if_pos rfl] at H; exact H
     clear H
     have H := H1
     clear H1
     simp only [Option.some.injEq, Prod.mk.injEq] at H
     obtain ⟨rfl, rfl, rfl, rfl⟩ := H
     have hnb39 := NB198_187.out
     have hnc39 := NB187_198.out
     have hnb40 := NB198_188.out
     have hnc40 := NB188_198.out
     have hnb41 := NB198_193.out
     have hnc41 := NB193_198.out
     have hcz42_0 : wc.cell? ⟨gb198, 0, none⟩ = some (.int .i64 t194) := (blk_cell BK198.out 0).trans rfl
     have hcz42_1 : wc.cell? ⟨gb198, 1, none⟩ = some (.int .i64 t195) := (blk_cell BK198.out 1).trans rfl
     have hcz42_2 : wc.cell? ⟨gb198, 2, none⟩ = some (.int .i64 t196) := (blk_cell BK198.out 2).trans rfl
     have hfz42_0 := blk_frozen BK198.out 0
     have hfz42_1 := blk_frozen BK198.out 1
     have hfz42_2 := blk_frozen BK198.out 2
     have hnb43 := NB188_187.out
     have hnc43 := NB187_188.out
     have hnb44 := NB188_193.out
     have hnc44 := NB193_188.out
     have hcz45_0 : wc.cell? ⟨gb188, 0, none⟩ = some (.int .i64 0) := (blk_cell BK188.out 0).trans rfl
     have hcz45_1 : wc.cell? ⟨gb188, 1, none⟩ = some (.int .i64 0) := (blk_cell BK188.out 1).trans rfl
     have hcz45_2 : wc.cell? ⟨gb188, 2, none⟩ = some (.int .i64 0) := (blk_cell BK188.out 2).trans rfl
     have hfz45_0 := blk_frozen BK188.out 0
     have hfz45_1 := blk_frozen BK188.out 1
     have hfz45_2 := blk_frozen BK188.out 2
     go_wp2
     refine bodyPost_ret (results_ct rfl _ _ gb188 27 #[.int .i64 t194, .int .i64 t195, .int .i64 t196] (0, 0) _ rfl (by (with_reducible repeat (first | refine blk_drewN ?_ _ | refine blk_drew ?_ | refine blk_alloc ?_ _)); refine blk_put (cs := #[.int .i64 t194, .int .i64 t195, .int .i64 0]) ?_ 2 _ rfl; (with_reducible repeat (first | refine blk_drewN ?_ _ | refine blk_drew ?_ | refine blk_alloc ?_ _)); refine blk_put (cs := #[.int .i64 t194, .int .i64 0, .int .i64 0]) ?_ 1 _ rfl; (with_reducible repeat (first | refine blk_drewN ?_ _ | refine blk_drew ?_ | refine blk_alloc ?_ _)); refine blk_put (cs := #[.int .i64 0, .int .i64 0, .int .i64 0]) ?_ 0 _ rfl; (with_reducible repeat (first | refine blk_drewN ?_ _ | refine blk_drew ?_ | refine blk_alloc ?_ _)); exact BK188.out) Try.underlying27 rfl (by kernel_rfl)) rfl ?_
     exact ⟨by first | rfl | (simp [errW_none, errW_some] <;> rfl) | (simp [*, errW_none, errW_some] <;> rfl), by repeat (first | (with_reducible first | exact HB.out | apply below_alloc | apply pw_below_drewN | apply below_drew1 | refine below_set ?_ GE187.out | refine below_set ?_ GE188.out | refine below_set ?_ GE193.out | refine below_set ?_ GE198.out) | exact HB.out)⟩
    ·replace c38 := Bool.eq_false_iff.mpr c38
     subst c38
     have H1 : (some (0, 0, 0, 3)) = some (r1, r2, r3, r4) := by rw [if_neg (show ¬ (false = true) by decide)] at H; exact H
     clear H
     have H := H1
     clear H1
     simp only [Option.some.injEq, Prod.mk.injEq] at H
     obtain ⟨rfl, rfl, rfl, rfl⟩ := H
     have hnb46 := NB188_187.out
     have hnc46 := NB187_188.out
     have hnb47 := NB188_193.out
     have hnc47 := NB193_188.out
     have hnb48 := NB188_198.out
     have hnc48 := NB198_188.out
     have hcz49_0 : wc.cell? ⟨gb188, 0, none⟩ = some (.int .i64 0) := (blk_cell BK188.out 0).trans rfl
     have hcz49_1 : wc.cell? ⟨gb188, 1, none⟩ = some (.int .i64 0) := (blk_cell BK188.out 1).trans rfl
     have hcz49_2 : wc.cell? ⟨gb188, 2, none⟩ = some (.int .i64 0) := (blk_cell BK188.out 2).trans rfl
     have hfz49_0 := blk_frozen BK188.out 0
     have hfz49_1 := blk_frozen BK188.out 1
     have hfz49_2 := blk_frozen BK188.out 2
     go_wp2
     refine bodyPost_ret (results_ct rfl _ _ gb188 27 #[.int .i64 0, .int .i64 0, .int .i64 0] (0, 0) _ rfl (by (with_reducible repeat (first | refine blk_drewN ?_ _ | refine blk_drew ?_ | refine blk_alloc ?_ _)); refine blk_put (cs := #[.int .i64 0, .int .i64 0, .int .i64 0]) ?_ 2 _ rfl; (with_reducible repeat (first | refine blk_drewN ?_ _ | refine blk_drew ?_ | refine blk_alloc ?_ _)); refine blk_put (cs := #[.int .i64 0, .int .i64 0, .int .i64 0]) ?_ 1 _ rfl; (with_reducible repeat (first | refine blk_drewN ?_ _ | refine blk_drew ?_ | refine blk_alloc ?_ _)); refine blk_put (cs := #[.int .i64 0, .int .i64 0, .int .i64 0]) ?_ 0 _ rfl; (with_reducible repeat (first | refine blk_drewN ?_ _ | refine blk_drew ?_ | refine blk_alloc ?_ _)); exact BK188.out) Try.underlying27 rfl (by kernel_rfl)) rfl ?_
     exact ⟨by first | rfl | (simp [errW_none, errW_some] <;> rfl) | (simp [*, errW_none, errW_some] <;> rfl), by repeat (first | (with_reducible first | exact HB.out | apply below_alloc | apply pw_below_drewN | apply below_drew1 | refine below_set ?_ GE187.out | refine below_set ?_ GE188.out | refine below_set ?_ GE193.out | refine below_set ?_ GE198.out) | exact HB.out)⟩
-- NOT PRINTED: function 50 (slices_Repeat_string_string)
end Go.Proofs.Ythcohkgpbjcliaa.F
