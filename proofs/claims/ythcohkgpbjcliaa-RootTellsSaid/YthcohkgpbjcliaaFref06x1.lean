import Derived.Test.YthcohkgpbjcliaaFUp
import Derived.Test.YthcohkgpbjcliaaFPre
import Derived.Test.YthcohkgpbjcliaaFref01
import Derived.Test.YthcohkgpbjcliaaFref02
import Derived.Test.YthcohkgpbjcliaaFref04x0
import Derived.Test.YthcohkgpbjcliaaFref06x0
namespace Go.Proofs.Ythcohkgpbjcliaa.F
open Go.RowKit Go.Proofs.YthcohkgpbjcliaaW.PrintWords Go.Proofs.YthcohkgpbjcliaaW.PrintLast Go.Proofs.YthcohkgpbjcliaaW.PrintMore
attribute [local go_sem] max2_int min2_int max_two min_two max_three min_three max_four min_four
set_option linter.unusedVariables false
set_option linter.unusedSimpArgs false
mutual
def weirkeeperref06_Read.j0 : Nat → ByteArray → Int → ByteArray → Bool → Option (ByteArray × Int)
 | 0, _, _, _, _ => none
 | k + 1, x8, x10, x11, x45 => if x45 = true then (some ((⟨#[]⟩ : ByteArray), 2)) else ((weirkeeperref01_Take.f k x11 3).bind fun bt325 => (weirkeeperref06_Read.l0 k x8 x10 bt325.1 bt325.2.1 (wrap64 (x10))))
def weirkeeperref06_Read.l0 : Nat → ByteArray → Int → Int → ByteArray → Int → Option (ByteArray × Int)
 | 0, _, _, _, _, _ => none
 | k + 1, x8, x10, x13, x14, x16 => if x16 < (x14.size : Int) then (if 0 ≤ x16 then (if (bt x14 x16) = 0 then (weirkeeperref06_Read.l0 k x8 x10 x13 x14 (wrap64 (x16 + 1))) else (some ((⟨#[]⟩ : ByteArray), 4))) else (none)) else (if 0 ≤ 4 then (if 4 ≤ (x8.size : Int) then (if 0 ≤ x10 then (if x10 ≤ (x14.size : Int) then (if (x8.extract 0 4).size + (x14.extract 0 (x10 : Int).toNat).size ≤ 9223372036854775807 then ((weirkeeperref02_Sum.f k ((x8.extract 0 4) ++ (x14.extract 0 (x10 : Int).toNat))).bind fun t328 => (if (IntKind.u64.wrap (t328)) = x13 then (some (x14.extract 0 (x10 : Int).toNat, 0)) else (some ((⟨#[]⟩ : ByteArray), 4)))) else (none)) else (none)) else (none)) else (none)) else (none))
end
def weirkeeperref06_Read.f (k : Nat) (l0_0 : List ByteArray) (l0_1 : List (S84)) (a1 : Int) (a2 : Int) : Option (ByteArray × Int) := (weirkeeperref04_Read.f k l0_0 l0_1 a1 a2).bind fun bt319 => (if bt319.2 = 0 then ((weirkeeperref01_Take.f k bt319.1 4).bind fun bt321 => (if bt321.2.2 = 0 then (if bt321.1 > 65535 then (weirkeeperref06_Read.j0 k bt319.1 bt321.1 bt321.2.1 true) else ((weirkeeperref06_Need.f k (wrap64 (bt321.1))).bind fun t324 => (weirkeeperref06_Read.j0 k bt319.1 bt321.1 bt321.2.1 (t324 != a2)))) else (weirkeeperref06_Read.j0 k bt319.1 bt321.1 bt321.2.1 true))) else (some ((⟨#[]⟩ : ByteArray), bt319.2)))
theorem weirkeeperref06_Read.mono_l : ∀ k, (∀ y0 y1 y2 y3, LeO (weirkeeperref06_Read.j0 k y0 y1 y2 y3) (weirkeeperref06_Read.j0 (k + 1) y0 y1 y2 y3)) ∧ (∀ y0 y1 y2 y3 y4, LeO (weirkeeperref06_Read.l0 k y0 y1 y2 y3 y4) (weirkeeperref06_Read.l0 (k + 1) y0 y1 y2 y3 y4))
 | 0 => ⟨fun _ _ _ _ r h => by simp [weirkeeperref06_Read.j0] at h, fun _ _ _ _ _ r h => by simp [weirkeeperref06_Read.l0] at h⟩
 | k + 1 => by
  obtain ⟨ih0, ih1⟩ := weirkeeperref06_Read.mono_l k
  refine ⟨?_, ?_⟩
  ·intro y0 y1 y2 y3
   unfold weirkeeperref06_Read.j0
   repeat' first
   | (with_reducible exact ih0 _ _ _ _)
   | (with_reducible exact ih1 _ _ _ _ _)
   | (with_reducible exact weirkeeperref01_Take.mono _ _ _)
   | (with_reducible exact weirkeeperref02_Sum.mono _ _)
   | (with_reducible exact weirkeeperref04_Read.mono _ _ _ _ _)
   | (with_reducible exact weirkeeperref06_Need.mono _ _)
   | (with_reducible exact LeO.refl _)
   | (with_reducible exact LeO.none _)
   | (with_reducible refine LeO.ite ?_ ?_)
   | (with_reducible refine LeO.bind ?_ (fun _ => ?_))
   | exact ih0 _ _ _ _
   | exact ih1 _ _ _ _ _
   | exact LeO.none _
   | refine LeO.ite ?_ ?_
   | refine LeO.bind ?_ (fun _ => ?_)
  ·intro y0 y1 y2 y3 y4
   unfold weirkeeperref06_Read.l0
   repeat' first
   | (with_reducible exact ih0 _ _ _ _)
   | (with_reducible exact ih1 _ _ _ _ _)
   | (with_reducible exact weirkeeperref01_Take.mono _ _ _)
   | (with_reducible exact weirkeeperref02_Sum.mono _ _)
   | (with_reducible exact weirkeeperref04_Read.mono _ _ _ _ _)
   | (with_reducible exact weirkeeperref06_Need.mono _ _)
   | (with_reducible exact LeO.refl _)
   | (with_reducible exact LeO.none _)
   | (with_reducible refine LeO.ite ?_ ?_)
   | (with_reducible refine LeO.bind ?_ (fun _ => ?_))
   | exact ih0 _ _ _ _
   | exact ih1 _ _ _ _ _
   | exact LeO.none _
   | refine LeO.ite ?_ ?_
   | refine LeO.bind ?_ (fun _ => ?_)
theorem weirkeeperref06_Read.mono : ∀ a0 a1 a2 a3 k, LeO (weirkeeperref06_Read.f k a0 a1 a2 a3) (weirkeeperref06_Read.f (k + 1) a0 a1 a2 a3) := by
 intro a0 a1 a2 a3 k
 obtain ⟨ih0, ih1⟩ := weirkeeperref06_Read.mono_l k
 unfold weirkeeperref06_Read.f
 repeat' first
   | (with_reducible exact ih0 _ _ _ _)
   | (with_reducible exact ih1 _ _ _ _ _)
   | (with_reducible exact weirkeeperref01_Take.mono _ _ _)
   | (with_reducible exact weirkeeperref02_Sum.mono _ _)
   | (with_reducible exact weirkeeperref04_Read.mono _ _ _ _ _)
   | (with_reducible exact weirkeeperref06_Need.mono _ _)
   | (with_reducible exact LeO.refl _)
   | (with_reducible exact LeO.none _)
   | (with_reducible refine LeO.ite ?_ ?_)
   | (with_reducible refine LeO.bind ?_ (fun _ => ?_))
   | exact ih0 _ _ _ _
   | exact ih1 _ _ _ _ _
   | exact LeO.none _
   | refine LeO.ite ?_ ?_
   | refine LeO.bind ?_ (fun _ => ?_)
set_option maxHeartbeats 8000000 in
set_option maxRecDepth 100000 in
theorem weirkeeperref06_Read.calls (k : Nat) (A0_0 : Option Addr) (c0_0 : Nat) (l0_0 : List ByteArray) (A0_1 : Option Addr) (c0_1 : Nat) (l0_1 : List (S84)) (a1 : Int) (a2 : Int) (r1 : ByteArray) (r2 : Int) (w : World) (hr0_0 : Kd.C Kd.string w A0_0 l0_0.length l0_0) (hc0_0 : l0_0.length ≤ c0_0) (hr0_1 : Kd.C k84 w A0_1 l0_1.length l0_1) (hc0_1 : l0_1.length ≤ c0_1) (h : weirkeeperref06_Read.f k l0_0 l0_1 a1 a2 = some (r1, r2)) :
  Calls Try.prog 47 #[.agg #[.slice A0_0 l0_0.length c0_0, .slice A0_1 l0_1.length c0_1], .int .i64 a1, .int .i64 a2] w fun e w' => e = .returned (.tuple #[.string r1, .int .i64 r2]) ∧ Below w.heap.size w w' := by
 have hu30 := Try.underlying30
 have HR0_0 := Aside0.mk hr0_0
 have HC0_0 := Aside0.mk hc0_0
 clear hr0_0 hc0_0
 have HR0_1 := Aside0.mk hr0_1
 have HC0_1 := Aside0.mk hc0_1
 clear hr0_1 hc0_1
 have HB := Aside0.mk (Below.refl w.heap.size w)
 have H : ((weirkeeperref04_Read.f k l0_0 l0_1 a1 a2).bind fun bt319 => (if bt319.2 = 0 then ((weirkeeperref01_Take.f k bt319.1 4).bind fun bt321 => (if bt321.2.2 = 0 then (if bt321.1 > 65535 then (weirkeeperref06_Read.j0 k bt319.1 bt321.1 bt321.2.1 true) else ((weirkeeperref06_Need.f k (wrap64 (bt321.1))).bind fun t324 => (weirkeeperref06_Read.j0 k bt319.1 bt321.1 bt321.2.1 (t324 != a2)))) else (weirkeeperref06_Read.j0 k bt319.1 bt321.1 bt321.2.1 true))) else (some ((⟨#[]⟩ : ByteArray), bt319.2)))) = some (r1, r2) := h
 clear h
 replace H := Option.bind_eq_some_iff.mp H
 obtain ⟨⟨t319, t320⟩, A40, H⟩ := H
 try dsimp only at H
 have A4 := Aside0.mk A40
 clear A40
 by_cases c5 : t320 = 0
 ·rw [if_pos c5] at H
  have c5b0 : (t320 == 0) = true := beq_iff_eq.mpr c5
  have c5b1 : (t320 != 0) = false := bne_eq_false_iff_eq.mpr c5
  clear c5
  replace H := Option.bind_eq_some_iff.mp H
  obtain ⟨⟨t321, t322, t323⟩, A60, H⟩ := H
  try dsimp only at H
  have A6 := Aside0.mk A60
  clear A60
  have HC7 := Aside0.mk H
  clear H
  go_enter Try.func47, Try.ntmps47
  go_upto_region 5 with (first | ((with_reducible refine gate_dst (N := 3) rfl ?_); refine box_event ?hg (N := 3) ?hd (cs := #[.slice A0_0 l0_0.length c0_0, .slice A0_1 l0_1.length c0_1]) (t := 30) ?hr ?_; (case hd => rfl); (case hg => rfl); (case hr => first | (go_simp; done) | (go_simp; rfl)); intro gb318 hg w8 hbox hb; have BK318 := Aside0.mk (hbox); have GW318 := Aside0.mk ((geU HB.out hg)); have GE318 := Aside0.mk ((geU HB.out hg)); replace HB := Aside0.mk (below_step (beU HB.out) hb); clear hb hbox hg; have hcz9_0 : w8.cell? ⟨gb318, 0, none⟩ = some (.slice A0_0 l0_0.length c0_0) := (blk_cell BK318.out 0).trans rfl; have hcz9_1 : w8.cell? ⟨gb318, 1, none⟩ = some (.slice A0_1 l0_1.length c0_1) := (blk_cell BK318.out 1).trans rfl; have hfz9_0 := blk_frozen BK318.out 0; have hfz9_1 := blk_frozen BK318.out 1) | (go_at_call 72; (with_reducible refine (weirkeeperref04_Read.calls k _ _ l0_0 _ _ l0_1 a1 a2 t319 t320 _ ?side1 ?side2 ?side3 ?side4 A4.out).mono ?_); (case side1 => repeat (first | exact (Kd.C_below HR0_0.out HB.out) | (with_reducible refine Kd.C_alloc ?_ _) | (with_reducible refine Kd.C_drewN ?_ _) | (with_reducible refine Kd.C_drew ?_))); (case side2 => exact HC0_0.out); (case side3 => repeat (first | exact (Kd.C_below HR0_1.out HB.out) | (with_reducible refine Kd.C_alloc ?_ _) | (with_reducible refine Kd.C_drewN ?_ _) | (with_reducible refine Kd.C_drew ?_))); (case side4 => exact HC0_1.out); rintro e w10 ⟨rfl, hb⟩; replace BK318 := Aside0.mk (blk_below (bU BK318.out) hb); replace HB := Aside0.mk (below_step (by repeat (first | exact beU HB.out | refine below_set ?_ (Aside0.out ‹_›) | apply below_alloc | apply pw_below_drewN | apply below_drew1)) hb); (try clear hb); (try clear hb2); (try clear hk); (try clear hi)) | (go_at_call 48; (with_reducible refine (weirkeeperref01_Take.calls k t319 4 t321 t322 t323 _ A6.out).mono ?_); rintro e w' ⟨rfl, ⟨nd, rfl⟩⟩; (try first | exact ⟨rfl, _, World.drewN_drewN _ _ _⟩ | exact ⟨rfl, _, Eq.trans (World.drewN_drewN _ _ _) (congrArg (World.drewN _) (Nat.add_assoc _ _ _))⟩)))
  repeat (go_quiet (first | ((with_reducible refine gate_dst (N := 3) rfl ?_); refine box_event ?hg (N := 3) ?hd (cs := #[.slice A0_0 l0_0.length c0_0, .slice A0_1 l0_1.length c0_1]) (t := 30) ?hr ?_; (case hd => rfl); (case hg => rfl); (case hr => first | (go_simp; done) | (go_simp; rfl)); intro gb318 hg w8 hbox hb; have BK318 := Aside0.mk (hbox); have GW318 := Aside0.mk ((geU HB.out hg)); have GE318 := Aside0.mk ((geU HB.out hg)); replace HB := Aside0.mk (below_step (beU HB.out) hb); clear hb hbox hg; have hcz9_0 : w8.cell? ⟨gb318, 0, none⟩ = some (.slice A0_0 l0_0.length c0_0) := (blk_cell BK318.out 0).trans rfl; have hcz9_1 : w8.cell? ⟨gb318, 1, none⟩ = some (.slice A0_1 l0_1.length c0_1) := (blk_cell BK318.out 1).trans rfl; have hfz9_0 := blk_frozen BK318.out 0; have hfz9_1 := blk_frozen BK318.out 1) | (go_at_call 72; (with_reducible refine (weirkeeperref04_Read.calls k _ _ l0_0 _ _ l0_1 a1 a2 t319 t320 _ ?side1 ?side2 ?side3 ?side4 A4.out).mono ?_); (case side1 => repeat (first | exact (Kd.C_below HR0_0.out HB.out) | (with_reducible refine Kd.C_alloc ?_ _) | (with_reducible refine Kd.C_drewN ?_ _) | (with_reducible refine Kd.C_drew ?_))); (case side2 => exact HC0_0.out); (case side3 => repeat (first | exact (Kd.C_below HR0_1.out HB.out) | (with_reducible refine Kd.C_alloc ?_ _) | (with_reducible refine Kd.C_drewN ?_ _) | (with_reducible refine Kd.C_drew ?_))); (case side4 => exact HC0_1.out); rintro e w10 ⟨rfl, hb⟩; replace BK318 := Aside0.mk (blk_below (bU BK318.out) hb); replace HB := Aside0.mk (below_step (by repeat (first | exact beU HB.out | refine below_set ?_ (Aside0.out ‹_›) | apply below_alloc | apply pw_below_drewN | apply below_drew1)) hb); (try clear hb); (try clear hb2); (try clear hk); (try clear hi)) | (go_at_call 48; (with_reducible refine (weirkeeperref01_Take.calls k t319 4 t321 t322 t323 _ A6.out).mono ?_); rintro e w' ⟨rfl, ⟨nd, rfl⟩⟩; (try first | exact ⟨rfl, _, World.drewN_drewN _ _ _⟩ | exact ⟨rfl, _, Eq.trans (World.drewN_drewN _ _ _) (congrArg (World.drewN _) (Nat.add_assoc _ _ _))⟩))); go_upto_region 5 with (first | ((with_reducible refine gate_dst (N := 3) rfl ?_); refine box_event ?hg (N := 3) ?hd (cs := #[.slice A0_0 l0_0.length c0_0, .slice A0_1 l0_1.length c0_1]) (t := 30) ?hr ?_; (case hd => rfl); (case hg => rfl); (case hr => first | (go_simp; done) | (go_simp; rfl)); intro gb318 hg w8 hbox hb; have BK318 := Aside0.mk (hbox); have GW318 := Aside0.mk ((geU HB.out hg)); have GE318 := Aside0.mk ((geU HB.out hg)); replace HB := Aside0.mk (below_step (beU HB.out) hb); clear hb hbox hg; have hcz9_0 : w8.cell? ⟨gb318, 0, none⟩ = some (.slice A0_0 l0_0.length c0_0) := (blk_cell BK318.out 0).trans rfl; have hcz9_1 : w8.cell? ⟨gb318, 1, none⟩ = some (.slice A0_1 l0_1.length c0_1) := (blk_cell BK318.out 1).trans rfl; have hfz9_0 := blk_frozen BK318.out 0; have hfz9_1 := blk_frozen BK318.out 1) | (go_at_call 72; (with_reducible refine (weirkeeperref04_Read.calls k _ _ l0_0 _ _ l0_1 a1 a2 t319 t320 _ ?side1 ?side2 ?side3 ?side4 A4.out).mono ?_); (case side1 => repeat (first | exact (Kd.C_below HR0_0.out HB.out) | (with_reducible refine Kd.C_alloc ?_ _) | (with_reducible refine Kd.C_drewN ?_ _) | (with_reducible refine Kd.C_drew ?_))); (case side2 => exact HC0_0.out); (case side3 => repeat (first | exact (Kd.C_below HR0_1.out HB.out) | (with_reducible refine Kd.C_alloc ?_ _) | (with_reducible refine Kd.C_drewN ?_ _) | (with_reducible refine Kd.C_drew ?_))); (case side4 => exact HC0_1.out); rintro e w10 ⟨rfl, hb⟩; replace BK318 := Aside0.mk (blk_below (bU BK318.out) hb); replace HB := Aside0.mk (below_step (by repeat (first | exact beU HB.out | refine below_set ?_ (Aside0.out ‹_›) | apply below_alloc | apply pw_below_drewN | apply below_drew1)) hb); (try clear hb); (try clear hb2); (try clear hk); (try clear hi)) | (go_at_call 48; (with_reducible refine (weirkeeperref01_Take.calls k t319 4 t321 t322 t323 _ A6.out).mono ?_); rintro e w' ⟨rfl, ⟨nd, rfl⟩⟩; (try first | exact ⟨rfl, _, World.drewN_drewN _ _ _⟩ | exact ⟨rfl, _, Eq.trans (World.drewN_drewN _ _ _) (congrArg (World.drewN _) (Nat.add_assoc _ _ _))⟩))))
  (try simp only [Act.put, List.setIfInBounds_toArray, List.set_cons_zero, List.set_cons_succ])
  go_cut [45] (fun v45 wc => ∃ (kq : Nat) (x45_6 : Bool), v45 = .bool x45_6 ∧ Aside0 (weirkeeperref06_Read.j0 kq t319 t321 t322 x45_6 = some (r1, r2)) ∧ Aside0 (kq ≤ k) ∧ Aside0 (wc.heap[gb318]? = some (.cells #[(.slice A0_0 l0_0.length c0_0), (.slice A0_1 l0_1.length c0_1)] 30 (0, 0))) ∧ Aside0 (Below w.heap.size w wc))
  case first =>
   have H := HC7.out
   clear HC7
   by_cases c11 : t323 = 0
   ·rw [if_pos c11] at H
    have c11b0 : (t323 == 0) = true := beq_iff_eq.mpr c11
    have c11b1 : (t323 != 0) = false := bne_eq_false_iff_eq.mpr c11
    clear c11
    (first | rw [c11b0] | (simp only [i64_w, i32_w]; rw [c11b0]) | skip)
    by_cases c12 : t321 > 65535
    ·rw [if_pos c12] at H
     have c12b0 : decide (65535 < t321) = true := decide_eq_true c12
     clear c12
     have H' := Aside0.mk H
     clear H
     go_wp2
     repeat (go_quiet (fail); try go_wp2)
     go_meet
     case rel => exact ⟨_, (true), (by first | rfl | (simp; done) | (simp [*]; done)), H', ⟨by first | omega | exact Nat.le_refl _⟩, ⟨by (with_reducible repeat (first | refine blk_drewN ?_ _ | refine blk_drew ?_ | refine blk_alloc ?_ _)); exact BK318.out⟩, ⟨by repeat (first | (with_reducible first | exact HB.out | apply below_alloc | apply pw_below_drewN | apply below_drew1 | refine below_set ?_ GE318.out) | exact HB.out)⟩⟩
    ·rw [if_neg c12] at H
     have c12b0 : decide (65535 < t321) = false := decide_eq_false c12
     clear c12
     replace H := Option.bind_eq_some_iff.mp H
     obtain ⟨t324, A130, H⟩ := H
     try dsimp only at H
     have A13 := Aside0.mk A130
     clear A130
     have H' := Aside0.mk H
     clear H
     go_wp2_with (first | (go_at_call 73; (with_reducible refine (weirkeeperref06_Need.calls k (wrap64 (t321)) t324 _ A13.out).mono ?_); rintro e w' ⟨rfl, ⟨nd, rfl⟩⟩; (try first | exact ⟨rfl, _, World.drewN_drewN _ _ _⟩ | exact ⟨rfl, _, Eq.trans (World.drewN_drewN _ _ _) (congrArg (World.drewN _) (Nat.add_assoc _ _ _))⟩)))
     repeat (go_quiet (first | (go_at_call 73; (with_reducible refine (weirkeeperref06_Need.calls k (wrap64 (t321)) t324 _ A13.out).mono ?_); rintro e w' ⟨rfl, ⟨nd, rfl⟩⟩; (try first | exact ⟨rfl, _, World.drewN_drewN _ _ _⟩ | exact ⟨rfl, _, Eq.trans (World.drewN_drewN _ _ _) (congrArg (World.drewN _) (Nat.add_assoc _ _ _))⟩))); try go_wp2_with (first | (go_at_call 73; (with_reducible refine (weirkeeperref06_Need.calls k (wrap64 (t321)) t324 _ A13.out).mono ?_); rintro e w' ⟨rfl, ⟨nd, rfl⟩⟩; (try first | exact ⟨rfl, _, World.drewN_drewN _ _ _⟩ | exact ⟨rfl, _, Eq.trans (World.drewN_drewN _ _ _) (congrArg (World.drewN _) (Nat.add_assoc _ _ _))⟩))))
     go_meet
     case rel => exact ⟨_, ((t324 != a2)), (by first | rfl | (simp; done) | (simp [*]; done)), H', ⟨by first | omega | exact Nat.le_refl _⟩, ⟨by (with_reducible repeat (first | refine blk_drewN ?_ _ | refine blk_drew ?_ | refine blk_alloc ?_ _)); exact BK318.out⟩, ⟨by repeat (first | (with_reducible first | exact HB.out | apply below_alloc | apply pw_below_drewN | apply below_drew1 | refine below_set ?_ GE318.out) | exact HB.out)⟩⟩
   ·rw [if_neg c11] at H
    have c11b0 : (t323 == 0) = false := beq_eq_false_iff_ne.mpr c11
    have c11b1 : (t323 != 0) = true := bne_iff_ne.mpr c11
    (first | rw [c11b0] | (simp only [i64_w, i32_w]; rw [c11b0]) | skip)
    have H' := Aside0.mk H
    clear H
    go_wp2
    repeat (go_quiet (fail); try go_wp2)
    go_meet
    case rel => exact ⟨_, (true), (by first | rfl | (simp; done) | (simp [*]; done)), H', ⟨by first | omega | exact Nat.le_refl _⟩, ⟨by (with_reducible repeat (first | refine blk_drewN ?_ _ | refine blk_drew ?_ | refine blk_alloc ?_ _)); exact BK318.out⟩, ⟨by repeat (first | (with_reducible first | exact HB.out | apply below_alloc | apply pw_below_drewN | apply below_drew1 | refine below_set ?_ GE318.out) | exact HB.out)⟩⟩
  case rest =>
   clear HC7
   try clear c1
   try clear p2
   try clear c4
   try clear c5
   try clear c5b0
   try clear c5b1
   try clear p6
   try clear c11
   try clear c11b0
   try clear c11b1
   try clear c12
   try clear c12b0
   try clear hcz9_0
   try clear hcz9_1
   try clear hfz9_0
   try clear hfz9_1
   obtain ⟨kq, x45_6, rfl, HA, HJ6, BK318, HB⟩ := hcut
   cases kq with
   | zero => exact absurd HA.out (by simp [weirkeeperref06_Read.j0])
   | succ kj6 =>
    have H := HA.out
    clear HA
    simp only [weirkeeperref06_Read.j0] at H
    by_cases c14 : x45_6 = true
    ·subst c14
     have H1 : (some ((⟨#[]⟩ : ByteArray), 2)) = some (r1, r2) := by rw [if_pos rfl] at H; exact H
     clear H
     have H := H1
     clear H1
     simp only [Option.some.injEq, Prod.mk.injEq] at H
     obtain ⟨rfl, rfl⟩ := H
     go_wp2
     repeat (go_quiet (fail); try go_wp2)
     go_ret2
     exact ⟨by first | rfl | (simp [errW_none, errW_some] <;> rfl) | (simp [*, errW_none, errW_some] <;> rfl), by repeat (first | (with_reducible first | exact HB.out | apply below_alloc | apply pw_below_drewN | apply below_drew1 | refine below_set ?_ GE318.out) | exact HB.out)⟩
    ·replace c14 := Bool.eq_false_iff.mpr c14
     subst c14
     have H1 : ((weirkeeperref01_Take.f kj6 t322 3).bind fun bt325 => (weirkeeperref06_Read.l0 kj6 t319 t321 bt325.1 bt325.2.1 (wrap64 (t321)))) = some (r1, r2) := by rw [if_neg (show ¬ (false = true) by decide)] at H; exact H
     clear H
     have H := H1
     clear H1
     replace H := Option.bind_eq_some_iff.mp H
     obtain ⟨⟨t325, t326, t327⟩, A150, H⟩ := H
     try dsimp only at H
     have A15 := Aside0.mk A150
     clear A150
     have H' := Aside0.mk H
     clear H
     go_wp2_with (first | (go_at_call 48; (with_reducible refine (weirkeeperref01_Take.calls kj6 t322 3 t325 t326 t327 _ A15.out).mono ?_); rintro e w' ⟨rfl, ⟨nd, rfl⟩⟩; (try first | exact ⟨rfl, _, World.drewN_drewN _ _ _⟩ | exact ⟨rfl, _, Eq.trans (World.drewN_drewN _ _ _) (congrArg (World.drewN _) (Nat.add_assoc _ _ _))⟩)))
     repeat (go_quiet (first | (go_at_call 48; (with_reducible refine (weirkeeperref01_Take.calls kj6 t322 3 t325 t326 t327 _ A15.out).mono ?_); rintro e w' ⟨rfl, ⟨nd, rfl⟩⟩; (try first | exact ⟨rfl, _, World.drewN_drewN _ _ _⟩ | exact ⟨rfl, _, Eq.trans (World.drewN_drewN _ _ _) (congrArg (World.drewN _) (Nat.add_assoc _ _ _))⟩))); try go_wp2_with (first | (go_at_call 48; (with_reducible refine (weirkeeperref01_Take.calls kj6 t322 3 t325 t326 t327 _ A15.out).mono ?_); rintro e w' ⟨rfl, ⟨nd, rfl⟩⟩; (try first | exact ⟨rfl, _, World.drewN_drewN _ _ _⟩ | exact ⟨rfl, _, Eq.trans (World.drewN_drewN _ _ _) (congrArg (World.drewN _) (Nat.add_assoc _ _ _))⟩))))
     go_loopg [16] kj6 (fun kq v16 w' => ∃ (x16_2 : Int), v16 = .int .i64 x16_2 ∧ Aside0 (weirkeeperref06_Read.l0 kq t319 t321 t325 t326 x16_2 = some (r1, r2)) ∧ Aside0 (kq ≤ kj6) ∧ Aside0 (w'.heap[gb318]? = some (.cells #[(.slice A0_0 l0_0.length c0_0), (.slice A0_1 l0_1.length c0_1)] 30 (0, 0))) ∧ Aside0 (Below w.heap.size w w'))
     case atStart => exact ⟨(wrap64 (t321)), (by first | rfl | (simp; done) | (simp [*]; done)), H', ⟨Nat.le_refl _⟩, ⟨by (with_reducible repeat (first | refine blk_drewN ?_ _ | refine blk_drew ?_ | refine blk_alloc ?_ _)); exact BK318.out⟩, ⟨by repeat (first | (with_reducible first | exact HB.out | apply below_alloc | apply pw_below_drewN | apply below_drew1 | refine below_set ?_ GE318.out) | exact HB.out)⟩⟩
     case round =>
      clear H'
      try clear c1
      try clear p2
      try clear c4
      try clear c5
      try clear c5b0
      try clear c5b1
      try clear p6
      try clear c11
      try clear c11b0
      try clear c11b1
      try clear c12
      try clear c12b0
      try clear c14
      try clear hcz9_0
      try clear hcz9_1
      try clear hfz9_0
      try clear hfz9_1
      try clear p2
      try clear p6
      obtain ⟨x16_2, rfl, HA, HK2, BK318, HB⟩ := hrel
      cases gk with
      | zero => exact absurd HA.out (by simp [weirkeeperref06_Read.l0])
      | succ k2 =>
       have H := HA.out
       clear HA
       simp only [weirkeeperref06_Read.l0] at H
       by_cases c16 : x16_2 < (t326.size : Int)
       ·rw [if_pos c16] at H
        have c16b0 : decide (x16_2 < (t326.size : Int)) = true := decide_eq_true c16
        clear c16
        by_cases c17 : 0 ≤ x16_2
        ·rw [if_pos c17] at H
         have c17b0 : decide (0 ≤ x16_2) = true := decide_eq_true c17
         clear c17
         by_cases c19 : (bt t326 x16_2) = 0
         ·rw [if_pos c19] at H
          have c19b0 : ((bt t326 x16_2) == 0) = true := beq_iff_eq.mpr c19
          have c19b1 : ((bt t326 x16_2) != 0) = false := bne_eq_false_iff_eq.mpr c19
          clear c19
          have H' := Aside0.mk H
          clear H
          have p18 : 0 ≤ (x16_2 : Int) := of_decide_eq_true (by first | (with_reducible assumption) | assumption)
          have q18 : x16_2 < (t326.size : Int) := of_decide_eq_true (by first | (with_reducible assumption) | assumption)
          have hx18 := bt_at t326 x16_2
          replace p18 := eq_true p18
          replace q18 := eq_true q18
          go_wp2
          repeat (go_quiet (fail); try go_wp2)
          go_roundg k2
          case measure => have := HJ6.out; have := HK2.out; omega
          case rel => exact ⟨(wrap64 (x16_2 + 1)), (by first | rfl | (simp; done) | (simp [*]; done)), H', ⟨by have := HJ6.out; have := HK2.out; omega⟩, ⟨by (with_reducible repeat (first | refine blk_drewN ?_ _ | refine blk_drew ?_ | refine blk_alloc ?_ _)); exact BK318.out⟩, ⟨by repeat (first | (with_reducible first | exact HB.out | apply below_alloc | apply pw_below_drewN | apply below_drew1 | refine below_set ?_ GE318.out) | exact HB.out)⟩⟩
         ·rw [if_neg c19] at H
          have c19b0 : ((bt t326 x16_2) == 0) = false := beq_eq_false_iff_ne.mpr c19
          have c19b1 : ((bt t326 x16_2) != 0) = true := bne_iff_ne.mpr c19
          simp only [Option.some.injEq, Prod.mk.injEq] at H
          obtain ⟨rfl, rfl⟩ := H
          have p18 : 0 ≤ (x16_2 : Int) := of_decide_eq_true (by first | (with_reducible assumption) | assumption)
          have q18 : x16_2 < (t326.size : Int) := of_decide_eq_true (by first | (with_reducible assumption) | assumption)
          have hx18 := bt_at t326 x16_2
          replace p18 := eq_true p18
          replace q18 := eq_true q18
          go_wp2
          repeat (go_quiet (fail); try go_wp2)
          go_ret2
          exact ⟨by first | rfl | (simp [errW_none, errW_some] <;> rfl) | (simp [*, errW_none, errW_some] <;> rfl), by repeat (first | (with_reducible first | exact HB.out | apply below_alloc | apply pw_below_drewN | apply below_drew1 | refine below_set ?_ GE318.out) | exact HB.out)⟩
        ·rw [if_neg c17] at H
         exact absurd H (by simp)
       ·rw [if_neg c16] at H
        have c16b0 : decide (x16_2 < (t326.size : Int)) = false := decide_eq_false c16
        clear c16
        by_cases c20 : 0 ≤ 4
        ·rw [if_pos c20] at H
         have c20b0 := eq_true c20
         have c20b1 : decide (0 ≤ 4) = true := decide_eq_true c20
         clear c20
         by_cases c21 : 4 ≤ (t319.size : Int)
         ·rw [if_pos c21] at H
          have c21b0 := eq_true c21
          have c21b1 : decide (4 ≤ (t319.size : Int)) = true := decide_eq_true c21
          clear c21
          by_cases c22 : 0 ≤ t321
          ·rw [if_pos c22] at H
           have c22b0 := eq_true c22
           have c22b1 : decide (0 ≤ t321) = true := decide_eq_true c22
           clear c22
           by_cases c23 : t321 ≤ (t326.size : Int)
           ·rw [if_pos c23] at H
            have c23b0 := eq_true c23
            have c23b1 : decide (t321 ≤ (t326.size : Int)) = true := decide_eq_true c23
            clear c23
            by_cases c24 : (t319.extract 0 4).size + (t326.extract 0 (t321 : Int).toNat).size ≤ 9223372036854775807
            ·rw [if_pos c24] at H
             have c24b0 := eq_true c24
             have c24b1 : decide ((t319.extract 0 4).size + (t326.extract 0 (t321 : Int).toNat).size ≤ 9223372036854775807) = true := decide_eq_true c24
             have c24b8 : (9223372036854775807 < min 4 t319.size + t321.toNat) = False := eq_false (by have h1 := of_decide_eq_true c24b1; have h2 := of_decide_eq_true c23b1; rw [ByteArray.size_extract, ByteArray.size_extract] at h1; omega)
             try have c24b2 : (9223372036854775807 < (t319.extract 0 4).size + (t326.extract 0 (t321 : Int).toNat).size) = False := eq_false (Nat.not_lt.2 c24)
             clear c24
             try (have c24b9 := c24b2; simp only [ByteArray.size_append, ByteArray.size_extract, Nat.min_self] at c24b9)
             replace H := Option.bind_eq_some_iff.mp H
             obtain ⟨t328, A250, H⟩ := H
             try dsimp only at H
             have A25 := Aside0.mk A250
             clear A250
             by_cases c26 : (IntKind.u64.wrap (t328)) = t325
             ·rw [if_pos c26] at H
              have c26b0 : ((IntKind.u64.wrap (t328)) == t325) = true := beq_iff_eq.mpr c26
              have c26b1 : ((IntKind.u64.wrap (t328)) != t325) = false := bne_eq_false_iff_eq.mpr c26
              clear c26
              have c27b0 := eq_true (of_decide_eq_true (by first | (with_reducible assumption) | assumption) : 0 ≤ t321)
              have c28b0 := eq_true (of_decide_eq_true (by first | (with_reducible assumption) | assumption) : t321 ≤ (t326.size : Int))
              simp only [Option.some.injEq, Prod.mk.injEq] at H
              obtain ⟨rfl, rfl⟩ := H
              go_wp2_with (first | (go_at_call 74; (with_reducible refine (weirkeeperref02_Sum.calls k2 ((t319.extract 0 4) ++ (t326.extract 0 (t321 : Int).toNat)) t328 _ A25.out).mono ?_); rintro e w' ⟨rfl, ⟨nd, rfl⟩⟩; (try first | exact ⟨rfl, _, World.drewN_drewN _ _ _⟩ | exact ⟨rfl, _, Eq.trans (World.drewN_drewN _ _ _) (congrArg (World.drewN _) (Nat.add_assoc _ _ _))⟩)))
              repeat (go_quiet (first | (go_at_call 74; (with_reducible refine (weirkeeperref02_Sum.calls k2 ((t319.extract 0 4) ++ (t326.extract 0 (t321 : Int).toNat)) t328 _ A25.out).mono ?_); rintro e w' ⟨rfl, ⟨nd, rfl⟩⟩; (try first | exact ⟨rfl, _, World.drewN_drewN _ _ _⟩ | exact ⟨rfl, _, Eq.trans (World.drewN_drewN _ _ _) (congrArg (World.drewN _) (Nat.add_assoc _ _ _))⟩))); try go_wp2_with (first | (go_at_call 74; (with_reducible refine (weirkeeperref02_Sum.calls k2 ((t319.extract 0 4) ++ (t326.extract 0 (t321 : Int).toNat)) t328 _ A25.out).mono ?_); rintro e w' ⟨rfl, ⟨nd, rfl⟩⟩; (try first | exact ⟨rfl, _, World.drewN_drewN _ _ _⟩ | exact ⟨rfl, _, Eq.trans (World.drewN_drewN _ _ _) (congrArg (World.drewN _) (Nat.add_assoc _ _ _))⟩))))
              go_ret2
              exact ⟨by first | rfl | (simp [errW_none, errW_some] <;> rfl) | (simp [*, errW_none, errW_some] <;> rfl), by repeat (first | (with_reducible first | exact HB.out | apply below_alloc | apply pw_below_drewN | apply below_drew1 | refine below_set ?_ GE318.out) | exact HB.out)⟩
             ·rw [if_neg c26] at H
              have c26b0 : ((IntKind.u64.wrap (t328)) == t325) = false := beq_eq_false_iff_ne.mpr c26
              have c26b1 : ((IntKind.u64.wrap (t328)) != t325) = true := bne_iff_ne.mpr c26
              simp only [Option.some.injEq, Prod.mk.injEq] at H
              obtain ⟨rfl, rfl⟩ := H
              go_wp2_with (first | (go_at_call 74; (with_reducible refine (weirkeeperref02_Sum.calls k2 ((t319.extract 0 4) ++ (t326.extract 0 (t321 : Int).toNat)) t328 _ A25.out).mono ?_); rintro e w' ⟨rfl, ⟨nd, rfl⟩⟩; (try first | exact ⟨rfl, _, World.drewN_drewN _ _ _⟩ | exact ⟨rfl, _, Eq.trans (World.drewN_drewN _ _ _) (congrArg (World.drewN _) (Nat.add_assoc _ _ _))⟩)))
              repeat (go_quiet (first | (go_at_call 74; (with_reducible refine (weirkeeperref02_Sum.calls k2 ((t319.extract 0 4) ++ (t326.extract 0 (t321 : Int).toNat)) t328 _ A25.out).mono ?_); rintro e w' ⟨rfl, ⟨nd, rfl⟩⟩; (try first | exact ⟨rfl, _, World.drewN_drewN _ _ _⟩ | exact ⟨rfl, _, Eq.trans (World.drewN_drewN _ _ _) (congrArg (World.drewN _) (Nat.add_assoc _ _ _))⟩))); try go_wp2_with (first | (go_at_call 74; (with_reducible refine (weirkeeperref02_Sum.calls k2 ((t319.extract 0 4) ++ (t326.extract 0 (t321 : Int).toNat)) t328 _ A25.out).mono ?_); rintro e w' ⟨rfl, ⟨nd, rfl⟩⟩; (try first | exact ⟨rfl, _, World.drewN_drewN _ _ _⟩ | exact ⟨rfl, _, Eq.trans (World.drewN_drewN _ _ _) (congrArg (World.drewN _) (Nat.add_assoc _ _ _))⟩))))
              go_ret2
              exact ⟨by first | rfl | (simp [errW_none, errW_some] <;> rfl) | (simp [*, errW_none, errW_some] <;> rfl), by repeat (first | (with_reducible first | exact HB.out | apply below_alloc | apply pw_below_drewN | apply below_drew1 | refine below_set ?_ GE318.out) | exact HB.out)⟩
            ·rw [if_neg c24] at H
             exact absurd H (by simp)
           ·rw [if_neg c23] at H
            exact absurd H (by simp)
          ·rw [if_neg c22] at H
           exact absurd H (by simp)
         ·rw [if_neg c21] at H
          exact absurd H (by simp)
        ·rw [if_neg c20] at H
         exact absurd H (by simp)
 ·rw [if_neg c5] at H
  have c5b0 : (t320 == 0) = false := beq_eq_false_iff_ne.mpr c5
  have c5b1 : (t320 != 0) = true := bne_iff_ne.mpr c5
  simp only [Option.some.injEq, Prod.mk.injEq] at H
  obtain ⟨rfl, rfl⟩ := H
  go_enter Try.func47, Try.ntmps47
  go_wp2_with (first | ((with_reducible refine gate_dst (N := 3) rfl ?_); refine box_event ?hg (N := 3) ?hd (cs := #[.slice A0_0 l0_0.length c0_0, .slice A0_1 l0_1.length c0_1]) (t := 30) ?hr ?_; (case hd => rfl); (case hg => rfl); (case hr => first | (go_simp; done) | (go_simp; rfl)); intro gb318 hg w29 hbox hb; have BK318 := Aside0.mk (hbox); have GW318 := Aside0.mk ((geU HB.out hg)); have GE318 := Aside0.mk ((geU HB.out hg)); replace HB := Aside0.mk (below_step (beU HB.out) hb); clear hb hbox hg; have hcz30_0 : w29.cell? ⟨gb318, 0, none⟩ = some (.slice A0_0 l0_0.length c0_0) := (blk_cell BK318.out 0).trans rfl; have hcz30_1 : w29.cell? ⟨gb318, 1, none⟩ = some (.slice A0_1 l0_1.length c0_1) := (blk_cell BK318.out 1).trans rfl; have hfz30_0 := blk_frozen BK318.out 0; have hfz30_1 := blk_frozen BK318.out 1) | (go_at_call 72; (with_reducible refine (weirkeeperref04_Read.calls k _ _ l0_0 _ _ l0_1 a1 a2 t319 t320 _ ?side1 ?side2 ?side3 ?side4 A4.out).mono ?_); (case side1 => repeat (first | exact (Kd.C_below HR0_0.out HB.out) | (with_reducible refine Kd.C_alloc ?_ _) | (with_reducible refine Kd.C_drewN ?_ _) | (with_reducible refine Kd.C_drew ?_))); (case side2 => exact HC0_0.out); (case side3 => repeat (first | exact (Kd.C_below HR0_1.out HB.out) | (with_reducible refine Kd.C_alloc ?_ _) | (with_reducible refine Kd.C_drewN ?_ _) | (with_reducible refine Kd.C_drew ?_))); (case side4 => exact HC0_1.out); rintro e w31 ⟨rfl, hb⟩; replace BK318 := Aside0.mk (blk_below (bU BK318.out) hb); replace HB := Aside0.mk (below_step (by repeat (first | exact beU HB.out | refine below_set ?_ (Aside0.out ‹_›) | apply below_alloc | apply pw_below_drewN | apply below_drew1)) hb); (try clear hb); (try clear hb2); (try clear hk); (try clear hi)))
  repeat (go_quiet (first | ((with_reducible refine gate_dst (N := 3) rfl ?_); refine box_event ?hg (N := 3) ?hd (cs := #[.slice A0_0 l0_0.length c0_0, .slice A0_1 l0_1.length c0_1]) (t := 30) ?hr ?_; (case hd => rfl); (case hg => rfl); (case hr => first | (go_simp; done) | (go_simp; rfl)); intro gb318 hg w29 hbox hb; have BK318 := Aside0.mk (hbox); have GW318 := Aside0.mk ((geU HB.out hg)); have GE318 := Aside0.mk ((geU HB.out hg)); replace HB := Aside0.mk (below_step (beU HB.out) hb); clear hb hbox hg; have hcz30_0 : w29.cell? ⟨gb318, 0, none⟩ = some (.slice A0_0 l0_0.length c0_0) := (blk_cell BK318.out 0).trans rfl; have hcz30_1 : w29.cell? ⟨gb318, 1, none⟩ = some (.slice A0_1 l0_1.length c0_1) := (blk_cell BK318.out 1).trans rfl; have hfz30_0 := blk_frozen BK318.out 0; have hfz30_1 := blk_frozen BK318.out 1) | (go_at_call 72; (with_reducible refine (weirkeeperref04_Read.calls k _ _ l0_0 _ _ l0_1 a1 a2 t319 t320 _ ?side1 ?side2 ?side3 ?side4 A4.out).mono ?_); (case side1 => repeat (first | exact (Kd.C_below HR0_0.out HB.out) | (with_reducible refine Kd.C_alloc ?_ _) | (with_reducible refine Kd.C_drewN ?_ _) | (with_reducible refine Kd.C_drew ?_))); (case side2 => exact HC0_0.out); (case side3 => repeat (first | exact (Kd.C_below HR0_1.out HB.out) | (with_reducible refine Kd.C_alloc ?_ _) | (with_reducible refine Kd.C_drewN ?_ _) | (with_reducible refine Kd.C_drew ?_))); (case side4 => exact HC0_1.out); rintro e w31 ⟨rfl, hb⟩; replace BK318 := Aside0.mk (blk_below (bU BK318.out) hb); replace HB := Aside0.mk (below_step (by repeat (first | exact beU HB.out | refine below_set ?_ (Aside0.out ‹_›) | apply below_alloc | apply pw_below_drewN | apply below_drew1)) hb); (try clear hb); (try clear hb2); (try clear hk); (try clear hi))); try go_wp2_with (first | ((with_reducible refine gate_dst (N := 3) rfl ?_); refine box_event ?hg (N := 3) ?hd (cs := #[.slice A0_0 l0_0.length c0_0, .slice A0_1 l0_1.length c0_1]) (t := 30) ?hr ?_; (case hd => rfl); (case hg => rfl); (case hr => first | (go_simp; done) | (go_simp; rfl)); intro gb318 hg w29 hbox hb; have BK318 := Aside0.mk (hbox); have GW318 := Aside0.mk ((geU HB.out hg)); have GE318 := Aside0.mk ((geU HB.out hg)); replace HB := Aside0.mk (below_step (beU HB.out) hb); clear hb hbox hg; have hcz30_0 : w29.cell? ⟨gb318, 0, none⟩ = some (.slice A0_0 l0_0.length c0_0) := (blk_cell BK318.out 0).trans rfl; have hcz30_1 : w29.cell? ⟨gb318, 1, none⟩ = some (.slice A0_1 l0_1.length c0_1) := (blk_cell BK318.out 1).trans rfl; have hfz30_0 := blk_frozen BK318.out 0; have hfz30_1 := blk_frozen BK318.out 1) | (go_at_call 72; (with_reducible refine (weirkeeperref04_Read.calls k _ _ l0_0 _ _ l0_1 a1 a2 t319 t320 _ ?side1 ?side2 ?side3 ?side4 A4.out).mono ?_); (case side1 => repeat (first | exact (Kd.C_below HR0_0.out HB.out) | (with_reducible refine Kd.C_alloc ?_ _) | (with_reducible refine Kd.C_drewN ?_ _) | (with_reducible refine Kd.C_drew ?_))); (case side2 => exact HC0_0.out); (case side3 => repeat (first | exact (Kd.C_below HR0_1.out HB.out) | (with_reducible refine Kd.C_alloc ?_ _) | (with_reducible refine Kd.C_drewN ?_ _) | (with_reducible refine Kd.C_drew ?_))); (case side4 => exact HC0_1.out); rintro e w31 ⟨rfl, hb⟩; replace BK318 := Aside0.mk (blk_below (bU BK318.out) hb); replace HB := Aside0.mk (below_step (by repeat (first | exact beU HB.out | refine below_set ?_ (Aside0.out ‹_›) | apply below_alloc | apply pw_below_drewN | apply below_drew1)) hb); (try clear hb); (try clear hb2); (try clear hk); (try clear hi))))
  go_ret2
  exact ⟨by first | rfl | (simp [errW_none, errW_some] <;> rfl) | (simp [*, errW_none, errW_some] <;> rfl), by repeat (first | (with_reducible first | exact HB.out | apply below_alloc | apply pw_below_drewN | apply below_drew1 | refine below_set ?_ GE318.out) | exact HB.out)⟩
end Go.Proofs.Ythcohkgpbjcliaa.F
