/- Contracts of Go functions of the seat Ythidkdlmpkeogaa: what a call comes to; no condition but those that each theorem names. -/
import Derived.Test.YthidkdlmpkeogaaFlaw04DiskOnceR
import Derived.Test.YthidkdlmpkeogaaFUp
import Derived.Test.YthidkdlmpkeogaaFPre
import Derived.Test.YthidkdlmpkeogaaFdiskC
import Derived.Test.YthidkdlmpkeogaaFdiskE
import Derived.Test.YthidkdlmpkeogaaFdiskB
import Derived.Test.YthidkdlmpkeogaaFlaw04Ref
import Derived.Test.YthidkdlmpkeogaaFlaw04awake
import Derived.Test.YthidkdlmpkeogaaFlaw04same
import Derived.Test.YthidkdlmpkeogaaFref04
namespace Go.Proofs.Ythidkdlmpkeogaa.F
open Go.RowKit Go.Proofs.YthidkdlmpkeogaaW.PrintWords Go.Proofs.YthidkdlmpkeogaaW.PrintLast Go.Proofs.YthidkdlmpkeogaaW.PrintMore
attribute [local go_sem] max2_int min2_int max_two min_two max_three min_three max_four min_four   -- for this text's walks alone
set_option linter.unusedVariables false
set_option linter.unusedSimpArgs false

attribute [local go_sem] fieldD86_0 fieldD86_1
/-! ### weirkeeperlaw04_DiskOnce: function 12 -/
set_option maxHeartbeats 8000000 in
set_option maxRecDepth 100000 in
theorem weirkeeperlaw04_DiskOnce.calls (k : Nat) (A0_0 : Option Addr) (c0_0 : Nat) (l0_0 : List ByteArray) (A0_1 : Option Addr) (c0_1 : Nat) (l0_1 : List (S104)) (a1 : Int) (A2 : Option Addr) (c2 : Nat) (l2 : List ByteArray) (A3 : Option Addr) (c3 : Nat) (l3 : List ByteArray) (A4 : Option Addr) (c4 : Nat) (l4 : List Bool) (A5 : Option Addr) (c5 : Nat) (l5 : List Bool) (w : World) (hr0_0 : Kd.C Kd.string w A0_0 l0_0.length l0_0) (hc0_0 : l0_0.length ≤ c0_0) (hr0_1 : Kd.C k104 w A0_1 l0_1.length l0_1) (hc0_1 : l0_1.length ≤ c0_1) (hr2 : Kd.C Kd.string w A2 l2.length l2) (hc2 : l2.length ≤ c2) (hr3 : Kd.C Kd.string w A3 l3.length l3) (hc3 : l3.length ≤ c3) (hr4 : Kd.C Kd.bool w A4 l4.length l4) (hc4 : l4.length ≤ c4) (hr5 : Kd.C Kd.bool w A5 l5.length l5) (hc5 : l5.length ≤ c5) (h : weirkeeperlaw04_DiskOnce.f k l0_0 l0_1 a1 l2 l3 l4 l5 = some true) :
  Calls Try.prog 12 #[.agg #[.slice A0_0 l0_0.length c0_0, .slice A0_1 l0_1.length c0_1], .int .i64 a1, .slice A2 l2.length c2, .slice A3 l3.length c3, .slice A4 l4.length c4, .slice A5 l5.length c5] w fun e w' => e = .returned (.bool true) ∧ Below w.heap.size w w' := by
 have hu86 := Try.underlying86
 have HR0_0 := Aside0.mk hr0_0
 have HC0_0 := Aside0.mk hc0_0
 clear hr0_0 hc0_0
 have HR0_1 := Aside0.mk hr0_1
 have HC0_1 := Aside0.mk hc0_1
 clear hr0_1 hc0_1
 have HR2 := Aside0.mk hr2
 have HC2 := Aside0.mk hc2
 clear hr2 hc2
 have HR3 := Aside0.mk hr3
 have HC3 := Aside0.mk hc3
 clear hr3 hc3
 have HR4 := Aside0.mk hr4
 have HC4 := Aside0.mk hc4
 clear hr4 hc4
 have HR5 := Aside0.mk hr5
 have HC5 := Aside0.mk hc5
 clear hr5 hc5
 have HB := Aside0.mk (Below.refl w.heap.size w)
 have H : ((weirkeeperlaw04_Ref.f k l0_0 l0_1).bind fun bt862 => ((weirkeeperref04_Small.f bt862.1 bt862.2).bind fun t868 => (if t868 = true then (if (l2.length : Int) > 30 then (weirkeeperlaw04_DiskOnce.j0 k a1 l2 l3 l4 l5 true l0_0 l0_1) else (if (l3.length : Int) > 30 then (weirkeeperlaw04_DiskOnce.j0 k a1 l2 l3 l4 l5 true l0_0 l0_1) else (if (l4.length : Int) > 60 then (weirkeeperlaw04_DiskOnce.j0 k a1 l2 l3 l4 l5 true l0_0 l0_1) else (if (l5.length : Int) > 60 then (weirkeeperlaw04_DiskOnce.j0 k a1 l2 l3 l4 l5 true l0_0 l0_1) else ((disk_Right.f l0_0 l0_1).bind fun t869 => (weirkeeperlaw04_DiskOnce.j0 k a1 l2 l3 l4 l5 (!t869) l0_0 l0_1)))))) else (weirkeeperlaw04_DiskOnce.j0 k a1 l2 l3 l4 l5 true l0_0 l0_1)))) = some true := h
 clear h
 have HC7 := Aside0.mk H
 clear H
 go_enter Try.func12, Try.ntmps12
 go_upto_region 1 with (first | ((with_reducible refine gate_dst (N := 6) rfl ?_); (try (refine gate_guard (by rfl) ?_; dsimp only)); refine box_event ?hg (N := 6) ?hd (cs := #[.slice A0_0 l0_0.length c0_0, .slice A0_1 l0_1.length c0_1]) (t := 86) ?hr ?_; (case hd => rfl); (case hg => rfl); (case hr => first | (go_simp; done) | (go_simp; rfl)); intro gb861 hg w8 hbox hb; have BK861 := Aside0.mk (hbox); have GW861 := Aside0.mk ((geU HB.out hg)); have GE861 := Aside0.mk ((geU HB.out hg)); replace HB := Aside0.mk (below_step (beU HB.out) hb); clear hb hbox hg))
 (try simp only [Act.put, List.setIfInBounds_toArray, List.set_cons_zero, List.set_cons_succ])
 go_cut [48] (fun v48 wc => ∃ (kq : Nat) (x48_6 : Bool), v48 = .bool x48_6 ∧ Aside0 (weirkeeperlaw04_DiskOnce.j0 kq a1 l2 l3 l4 l5 x48_6 l0_0 l0_1 = some true) ∧ Aside0 (kq ≤ k) ∧ Aside0 (wc.heap[gb861]? = some (.cells #[(.slice A0_0 l0_0.length c0_0), (.slice A0_1 l0_1.length c0_1)] 86 (0, 0))) ∧ Aside0 (Below w.heap.size w wc))
 case first =>
  have H := HC7.out
  clear HC7
  replace H := Option.bind_eq_some_iff.mp H
  obtain ⟨⟨t862, t865⟩, A90, H⟩ := H
  try dsimp only at H
  have A9 := Aside0.mk A90
  clear A90
  replace H := Option.bind_eq_some_iff.mp H
  obtain ⟨t868, A100, H⟩ := H
  try dsimp only at H
  have A10 := Aside0.mk A100
  clear A100
  by_cases c11 : t868 = true
  ·subst c11
   have H1 : (if (l2.length : Int) > 30 then (weirkeeperlaw04_DiskOnce.j0 k a1 l2 l3 l4 l5 true l0_0 l0_1) else (if (l3.length : Int) > 30 then (weirkeeperlaw04_DiskOnce.j0 k a1 l2 l3 l4 l5 true l0_0 l0_1) else (if (l4.length : Int) > 60 then (weirkeeperlaw04_DiskOnce.j0 k a1 l2 l3 l4 l5 true l0_0 l0_1) else (if (l5.length : Int) > 60 then (weirkeeperlaw04_DiskOnce.j0 k a1 l2 l3 l4 l5 true l0_0 l0_1) else ((disk_Right.f l0_0 l0_1).bind fun t869 => (weirkeeperlaw04_DiskOnce.j0 k a1 l2 l3 l4 l5 (!t869) l0_0 l0_1)))))) = some true := by rw [if_pos rfl] at H; exact H
   clear H
   have H := H1
   clear H1
   by_cases c12 : (l2.length : Int) > 30
   ·rw [if_pos c12] at H
    have c12b0 : decide (30 < (l2.length : Int)) = true := decide_eq_true c12
    have c12b1 : decide (30 < l2.length) = true := decide_eq_true (by omega)
    clear c12
    (first | rw [c12b0] | (simp only [i64_w, i32_w]; rw [c12b0]) | skip)
    have H' := Aside0.mk H
    clear H
    have hcz13_0 : w8.cell? ⟨gb861, 0, none⟩ = some (.slice A0_0 l0_0.length c0_0) := (blk_cell BK861.out 0).trans rfl
    have hcz13_1 : w8.cell? ⟨gb861, 1, none⟩ = some (.slice A0_1 l0_1.length c0_1) := (blk_cell BK861.out 1).trans rfl
    have hfz13_0 := blk_frozen BK861.out 0
    have hfz13_1 := blk_frozen BK861.out 1
    go_wp2_with (first | ((with_reducible refine gate_callee (f := 47) rfl ?_); refine goesL_ (some 21) rfl rfl Try.func47 (by kernel_rfl) rfl #[.agg #[.slice A0_0 l0_0.length c0_0, .slice A0_1 l0_1.length c0_1]] rfl (by (try simp only [List.map_toArray, List.map_cons, List.map_nil]); first | done | rfl | (simp only [List.length_drop, List.length_take]; rfl)) ?_; (with_reducible refine (weirkeeperlaw04_Ref.calls k (fun k_ => k_ < w.heap.size) _ _ l0_0 _ _ l0_1 t862 t865 _ ?side1 ?side2 ?side3 A9.out).mono ?_); (case side1 => exact Kd.V_mk HC0_0.out (Kd.F_below (Kd.C_F Kd.heap_string HR0_0.out) (by repeat (first | exact beU HB.out | refine below_set ?_ (Aside0.out ‹_›) | apply below_alloc | apply pw_below_drewN | apply below_drew1)))); (case side2 => repeat (first | exact (Kd.C_below HR0_1.out HB.out) | (with_reducible refine Kd.C_alloc ?_ _) | (with_reducible refine Kd.C_drewN ?_ _) | (with_reducible refine Kd.C_drew ?_))); (case side3 => exact HC0_1.out); rintro e w14 ⟨v863, v866, rfl, ho0, ho1, hb⟩; refine ⟨_, rfl, ?_⟩; have HO864 := Aside0.mk (Kd.V_lower (Kd.V_mono (ok' := fun k_ => some k_ ≠ (v866 : Value).ownBlock ∧ k_ ≠ gb861) ho0 (fun k_ hk_ => ⟨hk_.2, Or.elim hk_.1 (fun hs_ => fun e_ => Nat.not_le.2 hs_ (by rw [e_]; exact GW861.out)) (fun hn_ => (Kd.freshB (g := gb861) (o := .cells #[.slice A0_0 l0_0.length c0_0, .slice A0_1 l0_1.length c0_1] 86 (0, 0)) (bU BK861.out) k_ hn_))⟩)) (below_size (by repeat (first | exact beU HB.out | refine below_set ?_ (Aside0.out ‹_›) | apply below_alloc | apply pw_below_drewN | apply below_drew1)))); have HO867 := Aside0.mk (Kd.R_lower (Kd.R_mono (ok' := fun k_ => True) ho1 (fun _ hk_ => trivial)) (below_size (by repeat (first | exact beU HB.out | refine below_set ?_ (Aside0.out ‹_›) | apply below_alloc | apply pw_below_drewN | apply below_drew1)))); replace BK861 := Aside0.mk (blk_below (bU BK861.out) hb); replace HB := Aside0.mk (below_step (by repeat (first | exact beU HB.out | refine below_set ?_ (Aside0.out ‹_›) | apply below_alloc | apply pw_below_drewN | apply below_drew1)) hb); (try clear hb); (try clear hb2); (try clear hk); (try clear hi); (try clear ho0); (try clear ho1); obtain ⟨Ao15, co15, eo15⟩ := Kd.V_slice HO864.out; subst eo15; obtain ⟨Ao16, co16, eo16⟩ := Kd.R_slice HO867.out; subst eo16) | ((with_reducible refine gate_callee (f := 46) rfl ?_); refine goesL_ (some 22) rfl rfl Try.func46 (by kernel_rfl) rfl #[.agg #[.slice Ao15 t862.length co15, .slice Ao16 t865.length co16]] rfl (by (try simp only [List.map_toArray, List.map_cons, List.map_nil]); first | done | rfl | (simp only [List.length_drop, List.length_take]; rfl)) ?_; (with_reducible refine (weirkeeperref04_Small.calls _ _ t862 _ _ t865 true _ ?side1 ?side2 ?side3 ?side4 A10.out).mono ?_); (case side1 => repeat (first | exact (Kd.V_reads' HO864.out).2.2 | (with_reducible refine Kd.C_alloc ?_ _) | (with_reducible refine Kd.C_drewN ?_ _) | (with_reducible refine Kd.C_drew ?_))); (case side2 => exact (Kd.V_reads' HO864.out).2.1); (case side3 => repeat (first | exact (Kd.R_reads' HO867.out).2.2 | (with_reducible refine Kd.C_alloc ?_ _) | (with_reducible refine Kd.C_drewN ?_ _) | (with_reducible refine Kd.C_drew ?_))); (case side4 => exact (Kd.R_reads' HO867.out).2.1); rintro e w17 ⟨rfl, hb⟩; refine ⟨_, rfl, ?_⟩; replace HO864 := Aside0.mk (Kd.V_below (vU HO864.out) hb); replace HO867 := Aside0.mk (Kd.R_below (rU HO867.out) hb); replace BK861 := Aside0.mk (blk_below (bU BK861.out) hb); replace HB := Aside0.mk (below_step (by repeat (first | exact beU HB.out | refine below_set ?_ (Aside0.out ‹_›) | apply below_alloc | apply pw_below_drewN | apply below_drew1)) hb); (try clear hb); (try clear hb2); (try clear hk); (try clear hi)))
    go_meet
    case rel => exact ⟨_, (true), (by first | rfl | (simp; done) | (simp [*]; done)), H', ⟨by first | omega | exact Nat.le_refl _⟩, ⟨by (with_reducible repeat (first | refine blk_drewN ?_ _ | refine blk_drew ?_ | refine blk_alloc ?_ _)); exact BK861.out⟩, ⟨by repeat (first | (with_reducible first | exact HB.out | apply below_alloc | apply pw_below_drewN | apply below_drew1 | refine below_set ?_ GE861.out) | exact HB.out)⟩⟩
   ·rw [if_neg c12] at H
    have c12b0 : decide (30 < (l2.length : Int)) = false := decide_eq_false c12
    have c12b1 : decide (30 < l2.length) = false := decide_eq_false (by omega)
    clear c12
    (first | rw [c12b0] | (simp only [i64_w, i32_w]; rw [c12b0]) | skip)
    by_cases c18 : (l3.length : Int) > 30
    ·rw [if_pos c18] at H
     have c18b0 : decide (30 < (l3.length : Int)) = true := decide_eq_true c18
     have c18b1 : decide (30 < l3.length) = true := decide_eq_true (by omega)
     clear c18
     have H' := Aside0.mk H
     clear H
     have hcz19_0 : w8.cell? ⟨gb861, 0, none⟩ = some (.slice A0_0 l0_0.length c0_0) := (blk_cell BK861.out 0).trans rfl
     have hcz19_1 : w8.cell? ⟨gb861, 1, none⟩ = some (.slice A0_1 l0_1.length c0_1) := (blk_cell BK861.out 1).trans rfl
     have hfz19_0 := blk_frozen BK861.out 0
     have hfz19_1 := blk_frozen BK861.out 1
     go_wp2_with (first | ((with_reducible refine gate_callee (f := 47) rfl ?_); refine goesL_ (some 21) rfl rfl Try.func47 (by kernel_rfl) rfl #[.agg #[.slice A0_0 l0_0.length c0_0, .slice A0_1 l0_1.length c0_1]] rfl (by (try simp only [List.map_toArray, List.map_cons, List.map_nil]); first | done | rfl | (simp only [List.length_drop, List.length_take]; rfl)) ?_; (with_reducible refine (weirkeeperlaw04_Ref.calls k (fun k_ => k_ < w.heap.size) _ _ l0_0 _ _ l0_1 t862 t865 _ ?side1 ?side2 ?side3 A9.out).mono ?_); (case side1 => exact Kd.V_mk HC0_0.out (Kd.F_below (Kd.C_F Kd.heap_string HR0_0.out) (by repeat (first | exact beU HB.out | refine below_set ?_ (Aside0.out ‹_›) | apply below_alloc | apply pw_below_drewN | apply below_drew1)))); (case side2 => repeat (first | exact (Kd.C_below HR0_1.out HB.out) | (with_reducible refine Kd.C_alloc ?_ _) | (with_reducible refine Kd.C_drewN ?_ _) | (with_reducible refine Kd.C_drew ?_))); (case side3 => exact HC0_1.out); rintro e w20 ⟨v863, v866, rfl, ho0, ho1, hb⟩; refine ⟨_, rfl, ?_⟩; have HO864 := Aside0.mk (Kd.V_lower (Kd.V_mono (ok' := fun k_ => some k_ ≠ (v866 : Value).ownBlock ∧ k_ ≠ gb861) ho0 (fun k_ hk_ => ⟨hk_.2, Or.elim hk_.1 (fun hs_ => fun e_ => Nat.not_le.2 hs_ (by rw [e_]; exact GW861.out)) (fun hn_ => (Kd.freshB (g := gb861) (o := .cells #[.slice A0_0 l0_0.length c0_0, .slice A0_1 l0_1.length c0_1] 86 (0, 0)) (bU BK861.out) k_ hn_))⟩)) (below_size (by repeat (first | exact beU HB.out | refine below_set ?_ (Aside0.out ‹_›) | apply below_alloc | apply pw_below_drewN | apply below_drew1)))); have HO867 := Aside0.mk (Kd.R_lower (Kd.R_mono (ok' := fun k_ => True) ho1 (fun _ hk_ => trivial)) (below_size (by repeat (first | exact beU HB.out | refine below_set ?_ (Aside0.out ‹_›) | apply below_alloc | apply pw_below_drewN | apply below_drew1)))); replace BK861 := Aside0.mk (blk_below (bU BK861.out) hb); replace HB := Aside0.mk (below_step (by repeat (first | exact beU HB.out | refine below_set ?_ (Aside0.out ‹_›) | apply below_alloc | apply pw_below_drewN | apply below_drew1)) hb); (try clear hb); (try clear hb2); (try clear hk); (try clear hi); (try clear ho0); (try clear ho1); obtain ⟨Ao21, co21, eo21⟩ := Kd.V_slice HO864.out; subst eo21; obtain ⟨Ao22, co22, eo22⟩ := Kd.R_slice HO867.out; subst eo22) | ((with_reducible refine gate_callee (f := 46) rfl ?_); refine goesL_ (some 22) rfl rfl Try.func46 (by kernel_rfl) rfl #[.agg #[.slice Ao21 t862.length co21, .slice Ao22 t865.length co22]] rfl (by (try simp only [List.map_toArray, List.map_cons, List.map_nil]); first | done | rfl | (simp only [List.length_drop, List.length_take]; rfl)) ?_; (with_reducible refine (weirkeeperref04_Small.calls _ _ t862 _ _ t865 true _ ?side1 ?side2 ?side3 ?side4 A10.out).mono ?_); (case side1 => repeat (first | exact (Kd.V_reads' HO864.out).2.2 | (with_reducible refine Kd.C_alloc ?_ _) | (with_reducible refine Kd.C_drewN ?_ _) | (with_reducible refine Kd.C_drew ?_))); (case side2 => exact (Kd.V_reads' HO864.out).2.1); (case side3 => repeat (first | exact (Kd.R_reads' HO867.out).2.2 | (with_reducible refine Kd.C_alloc ?_ _) | (with_reducible refine Kd.C_drewN ?_ _) | (with_reducible refine Kd.C_drew ?_))); (case side4 => exact (Kd.R_reads' HO867.out).2.1); rintro e w23 ⟨rfl, hb⟩; refine ⟨_, rfl, ?_⟩; replace HO864 := Aside0.mk (Kd.V_below (vU HO864.out) hb); replace HO867 := Aside0.mk (Kd.R_below (rU HO867.out) hb); replace BK861 := Aside0.mk (blk_below (bU BK861.out) hb); replace HB := Aside0.mk (below_step (by repeat (first | exact beU HB.out | refine below_set ?_ (Aside0.out ‹_›) | apply below_alloc | apply pw_below_drewN | apply below_drew1)) hb); (try clear hb); (try clear hb2); (try clear hk); (try clear hi)))
     go_meet
     case rel => exact ⟨_, (true), (by first | rfl | (simp; done) | (simp [*]; done)), H', ⟨by first | omega | exact Nat.le_refl _⟩, ⟨by (with_reducible repeat (first | refine blk_drewN ?_ _ | refine blk_drew ?_ | refine blk_alloc ?_ _)); exact BK861.out⟩, ⟨by repeat (first | (with_reducible first | exact HB.out | apply below_alloc | apply pw_below_drewN | apply below_drew1 | refine below_set ?_ GE861.out) | exact HB.out)⟩⟩
    ·rw [if_neg c18] at H
     have c18b0 : decide (30 < (l3.length : Int)) = false := decide_eq_false c18
     have c18b1 : decide (30 < l3.length) = false := decide_eq_false (by omega)
     clear c18
     by_cases c24 : (l4.length : Int) > 60
     ·rw [if_pos c24] at H
      have c24b0 : decide (60 < (l4.length : Int)) = true := decide_eq_true c24
      have c24b1 : decide (60 < l4.length) = true := decide_eq_true (by omega)
      clear c24
      have H' := Aside0.mk H
      clear H
      have hcz25_0 : w8.cell? ⟨gb861, 0, none⟩ = some (.slice A0_0 l0_0.length c0_0) := (blk_cell BK861.out 0).trans rfl
      have hcz25_1 : w8.cell? ⟨gb861, 1, none⟩ = some (.slice A0_1 l0_1.length c0_1) := (blk_cell BK861.out 1).trans rfl
      have hfz25_0 := blk_frozen BK861.out 0
      have hfz25_1 := blk_frozen BK861.out 1
      go_wp2_with (first | ((with_reducible refine gate_callee (f := 47) rfl ?_); refine goesL_ (some 21) rfl rfl Try.func47 (by kernel_rfl) rfl #[.agg #[.slice A0_0 l0_0.length c0_0, .slice A0_1 l0_1.length c0_1]] rfl (by (try simp only [List.map_toArray, List.map_cons, List.map_nil]); first | done | rfl | (simp only [List.length_drop, List.length_take]; rfl)) ?_; (with_reducible refine (weirkeeperlaw04_Ref.calls k (fun k_ => k_ < w.heap.size) _ _ l0_0 _ _ l0_1 t862 t865 _ ?side1 ?side2 ?side3 A9.out).mono ?_); (case side1 => exact Kd.V_mk HC0_0.out (Kd.F_below (Kd.C_F Kd.heap_string HR0_0.out) (by repeat (first | exact beU HB.out | refine below_set ?_ (Aside0.out ‹_›) | apply below_alloc | apply pw_below_drewN | apply below_drew1)))); (case side2 => repeat (first | exact (Kd.C_below HR0_1.out HB.out) | (with_reducible refine Kd.C_alloc ?_ _) | (with_reducible refine Kd.C_drewN ?_ _) | (with_reducible refine Kd.C_drew ?_))); (case side3 => exact HC0_1.out); rintro e w26 ⟨v863, v866, rfl, ho0, ho1, hb⟩; refine ⟨_, rfl, ?_⟩; have HO864 := Aside0.mk (Kd.V_lower (Kd.V_mono (ok' := fun k_ => some k_ ≠ (v866 : Value).ownBlock ∧ k_ ≠ gb861) ho0 (fun k_ hk_ => ⟨hk_.2, Or.elim hk_.1 (fun hs_ => fun e_ => Nat.not_le.2 hs_ (by rw [e_]; exact GW861.out)) (fun hn_ => (Kd.freshB (g := gb861) (o := .cells #[.slice A0_0 l0_0.length c0_0, .slice A0_1 l0_1.length c0_1] 86 (0, 0)) (bU BK861.out) k_ hn_))⟩)) (below_size (by repeat (first | exact beU HB.out | refine below_set ?_ (Aside0.out ‹_›) | apply below_alloc | apply pw_below_drewN | apply below_drew1)))); have HO867 := Aside0.mk (Kd.R_lower (Kd.R_mono (ok' := fun k_ => True) ho1 (fun _ hk_ => trivial)) (below_size (by repeat (first | exact beU HB.out | refine below_set ?_ (Aside0.out ‹_›) | apply below_alloc | apply pw_below_drewN | apply below_drew1)))); replace BK861 := Aside0.mk (blk_below (bU BK861.out) hb); replace HB := Aside0.mk (below_step (by repeat (first | exact beU HB.out | refine below_set ?_ (Aside0.out ‹_›) | apply below_alloc | apply pw_below_drewN | apply below_drew1)) hb); (try clear hb); (try clear hb2); (try clear hk); (try clear hi); (try clear ho0); (try clear ho1); obtain ⟨Ao27, co27, eo27⟩ := Kd.V_slice HO864.out; subst eo27; obtain ⟨Ao28, co28, eo28⟩ := Kd.R_slice HO867.out; subst eo28) | ((with_reducible refine gate_callee (f := 46) rfl ?_); refine goesL_ (some 22) rfl rfl Try.func46 (by kernel_rfl) rfl #[.agg #[.slice Ao27 t862.length co27, .slice Ao28 t865.length co28]] rfl (by (try simp only [List.map_toArray, List.map_cons, List.map_nil]); first | done | rfl | (simp only [List.length_drop, List.length_take]; rfl)) ?_; (with_reducible refine (weirkeeperref04_Small.calls _ _ t862 _ _ t865 true _ ?side1 ?side2 ?side3 ?side4 A10.out).mono ?_); (case side1 => repeat (first | exact (Kd.V_reads' HO864.out).2.2 | (with_reducible refine Kd.C_alloc ?_ _) | (with_reducible refine Kd.C_drewN ?_ _) | (with_reducible refine Kd.C_drew ?_))); (case side2 => exact (Kd.V_reads' HO864.out).2.1); (case side3 => repeat (first | exact (Kd.R_reads' HO867.out).2.2 | (with_reducible refine Kd.C_alloc ?_ _) | (with_reducible refine Kd.C_drewN ?_ _) | (with_reducible refine Kd.C_drew ?_))); (case side4 => exact (Kd.R_reads' HO867.out).2.1); rintro e w29 ⟨rfl, hb⟩; refine ⟨_, rfl, ?_⟩; replace HO864 := Aside0.mk (Kd.V_below (vU HO864.out) hb); replace HO867 := Aside0.mk (Kd.R_below (rU HO867.out) hb); replace BK861 := Aside0.mk (blk_below (bU BK861.out) hb); replace HB := Aside0.mk (below_step (by repeat (first | exact beU HB.out | refine below_set ?_ (Aside0.out ‹_›) | apply below_alloc | apply pw_below_drewN | apply below_drew1)) hb); (try clear hb); (try clear hb2); (try clear hk); (try clear hi)))
      go_meet
      case rel => exact ⟨_, (true), (by first | rfl | (simp; done) | (simp [*]; done)), H', ⟨by first | omega | exact Nat.le_refl _⟩, ⟨by (with_reducible repeat (first | refine blk_drewN ?_ _ | refine blk_drew ?_ | refine blk_alloc ?_ _)); exact BK861.out⟩, ⟨by repeat (first | (with_reducible first | exact HB.out | apply below_alloc | apply pw_below_drewN | apply below_drew1 | refine below_set ?_ GE861.out) | exact HB.out)⟩⟩
     ·rw [if_neg c24] at H
      have c24b0 : decide (60 < (l4.length : Int)) = false := decide_eq_false c24
      have c24b1 : decide (60 < l4.length) = false := decide_eq_false (by omega)
      clear c24
      by_cases c30 : (l5.length : Int) > 60
      ·rw [if_pos c30] at H
       have c30b0 : decide (60 < (l5.length : Int)) = true := decide_eq_true c30
       have c30b1 : decide (60 < l5.length) = true := decide_eq_true (by omega)
       clear c30
       have H' := Aside0.mk H
       clear H
       have hcz31_0 : w8.cell? ⟨gb861, 0, none⟩ = some (.slice A0_0 l0_0.length c0_0) := (blk_cell BK861.out 0).trans rfl
       have hcz31_1 : w8.cell? ⟨gb861, 1, none⟩ = some (.slice A0_1 l0_1.length c0_1) := (blk_cell BK861.out 1).trans rfl
       have hfz31_0 := blk_frozen BK861.out 0
       have hfz31_1 := blk_frozen BK861.out 1
       go_wp2_with (first | ((with_reducible refine gate_callee (f := 47) rfl ?_); refine goesL_ (some 21) rfl rfl Try.func47 (by kernel_rfl) rfl #[.agg #[.slice A0_0 l0_0.length c0_0, .slice A0_1 l0_1.length c0_1]] rfl (by (try simp only [List.map_toArray, List.map_cons, List.map_nil]); first | done | rfl | (simp only [List.length_drop, List.length_take]; rfl)) ?_; (with_reducible refine (weirkeeperlaw04_Ref.calls k (fun k_ => k_ < w.heap.size) _ _ l0_0 _ _ l0_1 t862 t865 _ ?side1 ?side2 ?side3 A9.out).mono ?_); (case side1 => exact Kd.V_mk HC0_0.out (Kd.F_below (Kd.C_F Kd.heap_string HR0_0.out) (by repeat (first | exact beU HB.out | refine below_set ?_ (Aside0.out ‹_›) | apply below_alloc | apply pw_below_drewN | apply below_drew1)))); (case side2 => repeat (first | exact (Kd.C_below HR0_1.out HB.out) | (with_reducible refine Kd.C_alloc ?_ _) | (with_reducible refine Kd.C_drewN ?_ _) | (with_reducible refine Kd.C_drew ?_))); (case side3 => exact HC0_1.out); rintro e w32 ⟨v863, v866, rfl, ho0, ho1, hb⟩; refine ⟨_, rfl, ?_⟩; have HO864 := Aside0.mk (Kd.V_lower (Kd.V_mono (ok' := fun k_ => some k_ ≠ (v866 : Value).ownBlock ∧ k_ ≠ gb861) ho0 (fun k_ hk_ => ⟨hk_.2, Or.elim hk_.1 (fun hs_ => fun e_ => Nat.not_le.2 hs_ (by rw [e_]; exact GW861.out)) (fun hn_ => (Kd.freshB (g := gb861) (o := .cells #[.slice A0_0 l0_0.length c0_0, .slice A0_1 l0_1.length c0_1] 86 (0, 0)) (bU BK861.out) k_ hn_))⟩)) (below_size (by repeat (first | exact beU HB.out | refine below_set ?_ (Aside0.out ‹_›) | apply below_alloc | apply pw_below_drewN | apply below_drew1)))); have HO867 := Aside0.mk (Kd.R_lower (Kd.R_mono (ok' := fun k_ => True) ho1 (fun _ hk_ => trivial)) (below_size (by repeat (first | exact beU HB.out | refine below_set ?_ (Aside0.out ‹_›) | apply below_alloc | apply pw_below_drewN | apply below_drew1)))); replace BK861 := Aside0.mk (blk_below (bU BK861.out) hb); replace HB := Aside0.mk (below_step (by repeat (first | exact beU HB.out | refine below_set ?_ (Aside0.out ‹_›) | apply below_alloc | apply pw_below_drewN | apply below_drew1)) hb); (try clear hb); (try clear hb2); (try clear hk); (try clear hi); (try clear ho0); (try clear ho1); obtain ⟨Ao33, co33, eo33⟩ := Kd.V_slice HO864.out; subst eo33; obtain ⟨Ao34, co34, eo34⟩ := Kd.R_slice HO867.out; subst eo34) | ((with_reducible refine gate_callee (f := 46) rfl ?_); refine goesL_ (some 22) rfl rfl Try.func46 (by kernel_rfl) rfl #[.agg #[.slice Ao33 t862.length co33, .slice Ao34 t865.length co34]] rfl (by (try simp only [List.map_toArray, List.map_cons, List.map_nil]); first | done | rfl | (simp only [List.length_drop, List.length_take]; rfl)) ?_; (with_reducible refine (weirkeeperref04_Small.calls _ _ t862 _ _ t865 true _ ?side1 ?side2 ?side3 ?side4 A10.out).mono ?_); (case side1 => repeat (first | exact (Kd.V_reads' HO864.out).2.2 | (with_reducible refine Kd.C_alloc ?_ _) | (with_reducible refine Kd.C_drewN ?_ _) | (with_reducible refine Kd.C_drew ?_))); (case side2 => exact (Kd.V_reads' HO864.out).2.1); (case side3 => repeat (first | exact (Kd.R_reads' HO867.out).2.2 | (with_reducible refine Kd.C_alloc ?_ _) | (with_reducible refine Kd.C_drewN ?_ _) | (with_reducible refine Kd.C_drew ?_))); (case side4 => exact (Kd.R_reads' HO867.out).2.1); rintro e w35 ⟨rfl, hb⟩; refine ⟨_, rfl, ?_⟩; replace HO864 := Aside0.mk (Kd.V_below (vU HO864.out) hb); replace HO867 := Aside0.mk (Kd.R_below (rU HO867.out) hb); replace BK861 := Aside0.mk (blk_below (bU BK861.out) hb); replace HB := Aside0.mk (below_step (by repeat (first | exact beU HB.out | refine below_set ?_ (Aside0.out ‹_›) | apply below_alloc | apply pw_below_drewN | apply below_drew1)) hb); (try clear hb); (try clear hb2); (try clear hk); (try clear hi)))
       go_meet
       case rel => exact ⟨_, (true), (by first | rfl | (simp; done) | (simp [*]; done)), H', ⟨by first | omega | exact Nat.le_refl _⟩, ⟨by (with_reducible repeat (first | refine blk_drewN ?_ _ | refine blk_drew ?_ | refine blk_alloc ?_ _)); exact BK861.out⟩, ⟨by repeat (first | (with_reducible first | exact HB.out | apply below_alloc | apply pw_below_drewN | apply below_drew1 | refine below_set ?_ GE861.out) | exact HB.out)⟩⟩
      ·rw [if_neg c30] at H
       have c30b0 : decide (60 < (l5.length : Int)) = false := decide_eq_false c30
       have c30b1 : decide (60 < l5.length) = false := decide_eq_false (by omega)
       clear c30
       replace H := Option.bind_eq_some_iff.mp H
       obtain ⟨t869, A360, H⟩ := H
       try dsimp only at H
       have A36 := Aside0.mk A360
       clear A360
       have H' := Aside0.mk H
       clear H
       have hcz37_0 : w8.cell? ⟨gb861, 0, none⟩ = some (.slice A0_0 l0_0.length c0_0) := (blk_cell BK861.out 0).trans rfl
       have hcz37_1 : w8.cell? ⟨gb861, 1, none⟩ = some (.slice A0_1 l0_1.length c0_1) := (blk_cell BK861.out 1).trans rfl
       have hfz37_0 := blk_frozen BK861.out 0
       have hfz37_1 := blk_frozen BK861.out 1
       go_wp2_with (first | ((with_reducible refine gate_callee (f := 47) rfl ?_); refine goesL_ (some 21) rfl rfl Try.func47 (by kernel_rfl) rfl #[.agg #[.slice A0_0 l0_0.length c0_0, .slice A0_1 l0_1.length c0_1]] rfl (by (try simp only [List.map_toArray, List.map_cons, List.map_nil]); first | done | rfl | (simp only [List.length_drop, List.length_take]; rfl)) ?_; (with_reducible refine (weirkeeperlaw04_Ref.calls k (fun k_ => k_ < w.heap.size) _ _ l0_0 _ _ l0_1 t862 t865 _ ?side1 ?side2 ?side3 A9.out).mono ?_); (case side1 => exact Kd.V_mk HC0_0.out (Kd.F_below (Kd.C_F Kd.heap_string HR0_0.out) (by repeat (first | exact beU HB.out | refine below_set ?_ (Aside0.out ‹_›) | apply below_alloc | apply pw_below_drewN | apply below_drew1)))); (case side2 => repeat (first | exact (Kd.C_below HR0_1.out HB.out) | (with_reducible refine Kd.C_alloc ?_ _) | (with_reducible refine Kd.C_drewN ?_ _) | (with_reducible refine Kd.C_drew ?_))); (case side3 => exact HC0_1.out); rintro e w38 ⟨v863, v866, rfl, ho0, ho1, hb⟩; refine ⟨_, rfl, ?_⟩; have HO864 := Aside0.mk (Kd.V_lower (Kd.V_mono (ok' := fun k_ => some k_ ≠ (v866 : Value).ownBlock ∧ k_ ≠ gb861) ho0 (fun k_ hk_ => ⟨hk_.2, Or.elim hk_.1 (fun hs_ => fun e_ => Nat.not_le.2 hs_ (by rw [e_]; exact GW861.out)) (fun hn_ => (Kd.freshB (g := gb861) (o := .cells #[.slice A0_0 l0_0.length c0_0, .slice A0_1 l0_1.length c0_1] 86 (0, 0)) (bU BK861.out) k_ hn_))⟩)) (below_size (by repeat (first | exact beU HB.out | refine below_set ?_ (Aside0.out ‹_›) | apply below_alloc | apply pw_below_drewN | apply below_drew1)))); have HO867 := Aside0.mk (Kd.R_lower (Kd.R_mono (ok' := fun k_ => True) ho1 (fun _ hk_ => trivial)) (below_size (by repeat (first | exact beU HB.out | refine below_set ?_ (Aside0.out ‹_›) | apply below_alloc | apply pw_below_drewN | apply below_drew1)))); replace BK861 := Aside0.mk (blk_below (bU BK861.out) hb); replace HB := Aside0.mk (below_step (by repeat (first | exact beU HB.out | refine below_set ?_ (Aside0.out ‹_›) | apply below_alloc | apply pw_below_drewN | apply below_drew1)) hb); (try clear hb); (try clear hb2); (try clear hk); (try clear hi); (try clear ho0); (try clear ho1); obtain ⟨Ao39, co39, eo39⟩ := Kd.V_slice HO864.out; subst eo39; obtain ⟨Ao40, co40, eo40⟩ := Kd.R_slice HO867.out; subst eo40) | ((with_reducible refine gate_callee (f := 46) rfl ?_); refine goesL_ (some 22) rfl rfl Try.func46 (by kernel_rfl) rfl #[.agg #[.slice Ao39 t862.length co39, .slice Ao40 t865.length co40]] rfl (by (try simp only [List.map_toArray, List.map_cons, List.map_nil]); first | done | rfl | (simp only [List.length_drop, List.length_take]; rfl)) ?_; (with_reducible refine (weirkeeperref04_Small.calls _ _ t862 _ _ t865 true _ ?side1 ?side2 ?side3 ?side4 A10.out).mono ?_); (case side1 => repeat (first | exact (Kd.V_reads' HO864.out).2.2 | (with_reducible refine Kd.C_alloc ?_ _) | (with_reducible refine Kd.C_drewN ?_ _) | (with_reducible refine Kd.C_drew ?_))); (case side2 => exact (Kd.V_reads' HO864.out).2.1); (case side3 => repeat (first | exact (Kd.R_reads' HO867.out).2.2 | (with_reducible refine Kd.C_alloc ?_ _) | (with_reducible refine Kd.C_drewN ?_ _) | (with_reducible refine Kd.C_drew ?_))); (case side4 => exact (Kd.R_reads' HO867.out).2.1); rintro e w41 ⟨rfl, hb⟩; refine ⟨_, rfl, ?_⟩; replace HO864 := Aside0.mk (Kd.V_below (vU HO864.out) hb); replace HO867 := Aside0.mk (Kd.R_below (rU HO867.out) hb); replace BK861 := Aside0.mk (blk_below (bU BK861.out) hb); replace HB := Aside0.mk (below_step (by repeat (first | exact beU HB.out | refine below_set ?_ (Aside0.out ‹_›) | apply below_alloc | apply pw_below_drewN | apply below_drew1)) hb); (try clear hb); (try clear hb2); (try clear hk); (try clear hi); have hcz42_0 : w41.cell? ⟨gb861, 0, none⟩ = some (.slice A0_0 l0_0.length c0_0) := (blk_cell BK861.out 0).trans rfl; have hcz42_1 : w41.cell? ⟨gb861, 1, none⟩ = some (.slice A0_1 l0_1.length c0_1) := (blk_cell BK861.out 1).trans rfl; have hfz42_0 := blk_frozen BK861.out 0; have hfz42_1 := blk_frozen BK861.out 1) | (go_at_call 45; (with_reducible refine (disk_Right.calls _ _ l0_0 _ _ l0_1 t869 _ ?side1 ?side2 ?side3 ?side4 A36.out).mono ?_); (case side1 => repeat (first | exact (Kd.C_below HR0_0.out HB.out) | (with_reducible refine Kd.C_alloc ?_ _) | (with_reducible refine Kd.C_drewN ?_ _) | (with_reducible refine Kd.C_drew ?_))); (case side2 => exact HC0_0.out); (case side3 => repeat (first | exact (Kd.C_below HR0_1.out HB.out) | (with_reducible refine Kd.C_alloc ?_ _) | (with_reducible refine Kd.C_drewN ?_ _) | (with_reducible refine Kd.C_drew ?_))); (case side4 => exact HC0_1.out); rintro e w43 ⟨rfl, hb⟩; replace HO864 := Aside0.mk (Kd.V_below (vU HO864.out) hb); replace HO867 := Aside0.mk (Kd.R_below (rU HO867.out) hb); replace BK861 := Aside0.mk (blk_below (bU BK861.out) hb); replace HB := Aside0.mk (below_step (by repeat (first | exact beU HB.out | refine below_set ?_ (Aside0.out ‹_›) | apply below_alloc | apply pw_below_drewN | apply below_drew1)) hb); (try clear hb); (try clear hb2); (try clear hk); (try clear hi)))
       go_meet
       case rel => exact ⟨_, (!t869), (by first | rfl | (simp; done) | (simp [*]; done)), H', ⟨by first | omega | exact Nat.le_refl _⟩, ⟨by (with_reducible repeat (first | refine blk_drewN ?_ _ | refine blk_drew ?_ | refine blk_alloc ?_ _)); exact BK861.out⟩, ⟨by repeat (first | (with_reducible first | exact HB.out | apply below_alloc | apply pw_below_drewN | apply below_drew1 | refine below_set ?_ GE861.out) | exact HB.out)⟩⟩
  ·replace c11 := Bool.eq_false_iff.mpr c11
   subst c11
   have H1 : (weirkeeperlaw04_DiskOnce.j0 k a1 l2 l3 l4 l5 true l0_0 l0_1) = some true := by rw [if_neg (show ¬ (false = true) by decide)] at H; exact H
   clear H
   have H := H1
   clear H1
   have H' := Aside0.mk H
   clear H
   have hcz44_0 : w8.cell? ⟨gb861, 0, none⟩ = some (.slice A0_0 l0_0.length c0_0) := (blk_cell BK861.out 0).trans rfl
   have hcz44_1 : w8.cell? ⟨gb861, 1, none⟩ = some (.slice A0_1 l0_1.length c0_1) := (blk_cell BK861.out 1).trans rfl
   have hfz44_0 := blk_frozen BK861.out 0
   have hfz44_1 := blk_frozen BK861.out 1
   go_wp2_with (first | ((with_reducible refine gate_callee (f := 47) rfl ?_); refine goesL_ (some 21) rfl rfl Try.func47 (by kernel_rfl) rfl #[.agg #[.slice A0_0 l0_0.length c0_0, .slice A0_1 l0_1.length c0_1]] rfl (by (try simp only [List.map_toArray, List.map_cons, List.map_nil]); first | done | rfl | (simp only [List.length_drop, List.length_take]; rfl)) ?_; (with_reducible refine (weirkeeperlaw04_Ref.calls k (fun k_ => k_ < w.heap.size) _ _ l0_0 _ _ l0_1 t862 t865 _ ?side1 ?side2 ?side3 A9.out).mono ?_); (case side1 => exact Kd.V_mk HC0_0.out (Kd.F_below (Kd.C_F Kd.heap_string HR0_0.out) (by repeat (first | exact beU HB.out | refine below_set ?_ (Aside0.out ‹_›) | apply below_alloc | apply pw_below_drewN | apply below_drew1)))); (case side2 => repeat (first | exact (Kd.C_below HR0_1.out HB.out) | (with_reducible refine Kd.C_alloc ?_ _) | (with_reducible refine Kd.C_drewN ?_ _) | (with_reducible refine Kd.C_drew ?_))); (case side3 => exact HC0_1.out); rintro e w45 ⟨v863, v866, rfl, ho0, ho1, hb⟩; refine ⟨_, rfl, ?_⟩; have HO864 := Aside0.mk (Kd.V_lower (Kd.V_mono (ok' := fun k_ => some k_ ≠ (v866 : Value).ownBlock ∧ k_ ≠ gb861) ho0 (fun k_ hk_ => ⟨hk_.2, Or.elim hk_.1 (fun hs_ => fun e_ => Nat.not_le.2 hs_ (by rw [e_]; exact GW861.out)) (fun hn_ => (Kd.freshB (g := gb861) (o := .cells #[.slice A0_0 l0_0.length c0_0, .slice A0_1 l0_1.length c0_1] 86 (0, 0)) (bU BK861.out) k_ hn_))⟩)) (below_size (by repeat (first | exact beU HB.out | refine below_set ?_ (Aside0.out ‹_›) | apply below_alloc | apply pw_below_drewN | apply below_drew1)))); have HO867 := Aside0.mk (Kd.R_lower (Kd.R_mono (ok' := fun k_ => True) ho1 (fun _ hk_ => trivial)) (below_size (by repeat (first | exact beU HB.out | refine below_set ?_ (Aside0.out ‹_›) | apply below_alloc | apply pw_below_drewN | apply below_drew1)))); replace BK861 := Aside0.mk (blk_below (bU BK861.out) hb); replace HB := Aside0.mk (below_step (by repeat (first | exact beU HB.out | refine below_set ?_ (Aside0.out ‹_›) | apply below_alloc | apply pw_below_drewN | apply below_drew1)) hb); (try clear hb); (try clear hb2); (try clear hk); (try clear hi); (try clear ho0); (try clear ho1); obtain ⟨Ao46, co46, eo46⟩ := Kd.V_slice HO864.out; subst eo46; obtain ⟨Ao47, co47, eo47⟩ := Kd.R_slice HO867.out; subst eo47) | ((with_reducible refine gate_callee (f := 46) rfl ?_); refine goesL_ (some 22) rfl rfl Try.func46 (by kernel_rfl) rfl #[.agg #[.slice Ao46 t862.length co46, .slice Ao47 t865.length co47]] rfl (by (try simp only [List.map_toArray, List.map_cons, List.map_nil]); first | done | rfl | (simp only [List.length_drop, List.length_take]; rfl)) ?_; (with_reducible refine (weirkeeperref04_Small.calls _ _ t862 _ _ t865 false _ ?side1 ?side2 ?side3 ?side4 A10.out).mono ?_); (case side1 => repeat (first | exact (Kd.V_reads' HO864.out).2.2 | (with_reducible refine Kd.C_alloc ?_ _) | (with_reducible refine Kd.C_drewN ?_ _) | (with_reducible refine Kd.C_drew ?_))); (case side2 => exact (Kd.V_reads' HO864.out).2.1); (case side3 => repeat (first | exact (Kd.R_reads' HO867.out).2.2 | (with_reducible refine Kd.C_alloc ?_ _) | (with_reducible refine Kd.C_drewN ?_ _) | (with_reducible refine Kd.C_drew ?_))); (case side4 => exact (Kd.R_reads' HO867.out).2.1); rintro e w48 ⟨rfl, hb⟩; refine ⟨_, rfl, ?_⟩; replace HO864 := Aside0.mk (Kd.V_below (vU HO864.out) hb); replace HO867 := Aside0.mk (Kd.R_below (rU HO867.out) hb); replace BK861 := Aside0.mk (blk_below (bU BK861.out) hb); replace HB := Aside0.mk (below_step (by repeat (first | exact beU HB.out | refine below_set ?_ (Aside0.out ‹_›) | apply below_alloc | apply pw_below_drewN | apply below_drew1)) hb); (try clear hb); (try clear hb2); (try clear hk); (try clear hi)))
   go_meet
   case rel => exact ⟨_, (true), (by first | rfl | (simp; done) | (simp [*]; done)), H', ⟨by first | omega | exact Nat.le_refl _⟩, ⟨by (with_reducible repeat (first | refine blk_drewN ?_ _ | refine blk_drew ?_ | refine blk_alloc ?_ _)); exact BK861.out⟩, ⟨by repeat (first | (with_reducible first | exact HB.out | apply below_alloc | apply pw_below_drewN | apply below_drew1 | refine below_set ?_ GE861.out) | exact HB.out)⟩⟩
 case rest =>
  clear HC7
  try clear c1
  try clear c2
  try clear p2
  try clear c3
  try clear c4
  try clear c5
  try clear c11
  try clear c12
  try clear c12b0
  try clear c12b1
  try clear c18
  try clear c18b0
  try clear c18b1
  try clear c24
  try clear c24b0
  try clear c24b1
  try clear c30
  try clear c30b0
  try clear c30b1
  try clear c46
  try clear c47
  try clear hcz13_0
  try clear hcz13_1
  try clear hcz19_0
  try clear hcz19_1
  try clear hcz25_0
  try clear hcz25_1
  try clear hcz31_0
  try clear hcz31_1
  try clear hcz37_0
  try clear hcz37_1
  try clear hcz42_0
  try clear hcz42_1
  try clear hcz44_0
  try clear hcz44_1
  try clear hfz13_0
  try clear hfz13_1
  try clear hfz19_0
  try clear hfz19_1
  try clear hfz25_0
  try clear hfz25_1
  try clear hfz31_0
  try clear hfz31_1
  try clear hfz37_0
  try clear hfz37_1
  try clear hfz42_0
  try clear hfz42_1
  try clear hfz44_0
  try clear hfz44_1
  obtain ⟨kq, x48_6, rfl, HA, HJ6, BK861, HB⟩ := hcut
  cases kq with
  | zero => exact absurd HA.out (by simp [weirkeeperlaw04_DiskOnce.j0])
  | succ kj6 =>
   have H := HA.out
   clear HA
   simp only [weirkeeperlaw04_DiskOnce.j0] at H
   by_cases c49 : x48_6 = true
   ·subst c49
    have H1 : ((weirkeeperlaw04_awake.f).bind fun t870 => (some t870)) = some true := by rw [if_pos rfl] at H; exact H
    clear H
    have H := H1
    clear H1
    replace H := Option.bind_eq_some_iff.mp H
    obtain ⟨t870, A500, H⟩ := H
    try dsimp only at H
    have A50 := Aside0.mk A500
    clear A500
    (have H9_ := Option.some.inj H; first | subst H9_ | (have h9_ := Aside0.mk H9_; clear H9_))
    go_wp2_with (first | ((with_reducible refine gate_callee (f := 43) rfl ?_); refine goesL_ (some 49) rfl rfl Try.func43 (by kernel_rfl) rfl #[] rfl (by (try simp only [List.map_toArray, List.map_cons, List.map_nil]); first | done | rfl | (simp only [List.length_drop, List.length_take]; rfl)) ?_; (with_reducible refine (weirkeeperlaw04_awake.calls _ A50.out).mono ?_); rintro e w51 ⟨rfl, hb⟩; refine ⟨_, rfl, ?_⟩; replace BK861 := Aside0.mk (blk_below (bU BK861.out) hb); replace HB := Aside0.mk (below_step (by repeat (first | exact beU HB.out | refine below_set ?_ (Aside0.out ‹_›) | apply below_alloc | apply pw_below_drewN | apply below_drew1)) hb); (try clear hb); (try clear hb2); (try clear hk); (try clear hi)))
    go_ret
    exact ⟨by first | rfl | (simp only [h9_.out]; done) | (have h8_ := h9_.out; simp [h8_]; done) | (simp [errW_none, errW_some] <;> rfl) | (simp [*, errW_none, errW_some] <;> rfl), by repeat (first | (with_reducible first | exact HB.out | apply below_alloc | apply pw_below_drewN | apply below_drew1 | refine below_set ?_ GE861.out) | exact HB.out)⟩
   ·replace c49 := Bool.eq_false_iff.mpr c49
    subst c49
    have H1 : ((disk_Flush.f l0_0 l0_1).bind fun bt871 => ((disk_Crash.f l0_0 l0_1 l4).bind fun bt877 => ((disk_Flush.f bt871.1 bt871.2).bind fun bt885 => ((weirkeeperlaw04_Ref.f kj6 bt871.1 bt871.2).bind fun bt891 => ((weirkeeperlaw04_same.f kj6 bt885.1 bt885.2 bt891.1 bt891.2).bind fun t897 => (if t897 = true then ((disk_Crash.f bt877.1 bt877.2 l5).bind fun bt898 => ((weirkeeperlaw04_Ref.f kj6 bt877.1 bt877.2).bind fun bt904 => ((weirkeeperlaw04_same.f kj6 bt898.1 bt898.2 bt904.1 bt904.2).bind fun t910 => (if t910 = true then ((disk_Flush.f bt877.1 bt877.2).bind fun bt911 => ((weirkeeperlaw04_Ref.f kj6 bt877.1 bt877.2).bind fun bt917 => ((weirkeeperlaw04_same.f kj6 bt911.1 bt911.2 bt917.1 bt917.2).bind fun t923 => (weirkeeperlaw04_DiskOnce.j1 kj6 a1 l2 l3 (!t923) l0_0 l0_1)))) else (weirkeeperlaw04_DiskOnce.j1 kj6 a1 l2 l3 true l0_0 l0_1))))) else (weirkeeperlaw04_DiskOnce.j1 kj6 a1 l2 l3 true l0_0 l0_1))))))) = some true := by rw [if_neg (show ¬ (false = true) by decide)] at H; exact H
    clear H
    have H := H1
    clear H1
    replace H := Option.bind_eq_some_iff.mp H
    obtain ⟨⟨t871, t874⟩, A520, H⟩ := H
    try dsimp only at H
    have A52 := Aside0.mk A520
    clear A520
    replace H := Option.bind_eq_some_iff.mp H
    obtain ⟨⟨t877, t880⟩, A530, H⟩ := H
    try dsimp only at H
    have A53 := Aside0.mk A530
    clear A530
    have HC54 := Aside0.mk H
    clear H
    try go_wp2
    replace BK861 := Aside0.mk (blk_drew BK861.out)
    replace HB := Aside0.mk (below_drew1 HB.out)
    refine start_ (n := 9) (S := fun w' => w'.cell? ⟨gb861, 0, none⟩ = some (.slice A0_0 l0_0.length c0_0) ∧ w'.cell? ⟨gb861, 1, none⟩ = some (.slice A0_1 l0_1.length c0_1)) (ds := []) #[false, false, false, false, false, false, false, false, false] (by kernel_rfl) rfl rfl ⟨(blk_cell BK861.out 0).trans rfl, (blk_cell BK861.out 1).trans rfl⟩ (fun hHeld => ?_); refine with_tabW weirkeeperlaw04_DiskOnce.tab3 weirkeeperlaw04_DiskOnce.bits3 (fun HT_ HW_ => ?_)
    generalize wc.drew = w55 at BK861 HB hHeld ⊢
    refine pure_ (i := 3) (N := some 53) (v := ?_) (a' := ?_) #[false, false, false, true, false, false, false, false, false] rfl rfl (any_of HT_.out (by kernel_rfl)) (fun _ _ _ h => h) (Or.inl ⟨by rfl, ?_⟩) ?_ ?_
    rotate_left
    ·intro w'
     go_simp
     with_reducible rfl
    rotate_left
    ·simp only [Act.put, List.setIfInBounds_toArray, List.set_cons_zero, List.set_cons_succ, i64_w, i32_w]
     rfl
    refine take_ (i := 0) (N := some 50) (v := ?_) (a' := ?_) #[true, false, false, true, false, false, false, false, false] rfl rfl (take_ofW HT_.out HW_.out (by kernel_rfl)) (fun _ _ _ h => h) (Or.inl ⟨by rfl, ?_⟩) hHeld ?_ ?_
    rotate_left
    ·rintro w' ⟨s0, s1⟩
     go_simp
     with_reducible rfl
    rotate_left
    ·simp only [Act.put, List.setIfInBounds_toArray, List.set_cons_zero, List.set_cons_succ, i64_w, i32_w]
     rfl
    refine take_ (i := 2) (N := some 52) (v := ?_) (a' := ?_) #[true, false, true, true, false, false, false, false, false] rfl rfl (take_ofW HT_.out HW_.out (by kernel_rfl)) (fun _ _ _ h => h) (Or.inl ⟨by rfl, ?_⟩) hHeld ?_ ?_
    rotate_left
    ·rintro w' ⟨s0, s1⟩
     go_simp
     with_reducible rfl
    rotate_left
    ·simp only [Act.put, List.setIfInBounds_toArray, List.set_cons_zero, List.set_cons_succ, i64_w, i32_w]
     rfl
    refine join_ (σ := Value × Value × Value × Value × Nat × Nat) 2 #[true, true, true, true, true, true, true, false, false] (fun s_ => [(51, .agg #[s_.1, s_.2.1]), (54, .agg #[s_.2.2.1, s_.2.2.2.1]), (13, .pointer (some ⟨s_.2.2.2.2.1, 0, none⟩)), (14, .pointer (some ⟨s_.2.2.2.2.2, 0, none⟩))]) (fun s_ w' => (w'.cell? ⟨gb861, 0, none⟩ = some (.slice A0_0 l0_0.length c0_0) ∧ w'.cell? ⟨gb861, 1, none⟩ = some (.slice A0_1 l0_1.length c0_1)) ∧ (Kd.R Kd.string 9 w' w.heap.size (fun k_ => some k_ ≠ (s_.2.2.1 : Value).ownBlock) s_.1 t871) ∧ (Kd.R k104 104 w' w.heap.size (fun k_ => some k_ ≠ (s_.2.2.2.1 : Value).ownBlock) s_.2.1 t874) ∧ (Kd.R Kd.string 9 w' w.heap.size (fun k_ => some k_ ≠ (s_.1 : Value).ownBlock) s_.2.2.1 t877) ∧ (Kd.R k104 104 w' w.heap.size (fun k_ => some k_ ≠ (s_.2.1 : Value).ownBlock) s_.2.2.2.1 t880) ∧ (w'.heap[gb861]? = some (.cells #[.slice A0_0 l0_0.length c0_0, .slice A0_1 l0_1.length c0_1] 86 (0, 0))) ∧ (w'.heap[s_.2.2.2.2.1]? = some (.cells #[.slice none 0 0, .slice none 0 0] 86 (0, 0))) ∧ (w'.heap[s_.2.2.2.2.2]? = some (.cells #[.slice none 0 0, .slice none 0 0] 86 (0, 0))) ∧ (w.heap.size ≤ s_.2.2.2.2.1) ∧ (w.heap.size ≤ s_.2.2.2.2.1) ∧ (gb861 ≠ s_.2.2.2.2.1) ∧ (s_.2.2.2.2.1 ≠ gb861) ∧ (s_.2.2.2.2.2 ≠ s_.2.2.2.2.1) ∧ (s_.2.2.2.2.1 ≠ s_.2.2.2.2.2) ∧ (w.heap.size ≤ s_.2.2.2.2.2) ∧ (w.heap.size ≤ s_.2.2.2.2.2) ∧ (gb861 ≠ s_.2.2.2.2.2) ∧ (s_.2.2.2.2.2 ≠ gb861) ∧ (Below w.heap.size w w')) ?_ ?_
    rotate_left
    ·intro hJ1_4_5_6
     refine join_ (σ := Value × Value × Value × Value × Nat) 3 #[true, true, true, true, true, true, false, false, false] (fun s_ => [(51, .agg #[s_.1, s_.2.1]), (54, .agg #[s_.2.2.1, s_.2.2.2.1]), (13, .pointer (some ⟨s_.2.2.2.2, 0, none⟩))]) (fun s_ w' => (w'.cell? ⟨gb861, 0, none⟩ = some (.slice A0_0 l0_0.length c0_0) ∧ w'.cell? ⟨gb861, 1, none⟩ = some (.slice A0_1 l0_1.length c0_1)) ∧ (Kd.R Kd.string 9 w' w.heap.size (fun k_ => some k_ ≠ (s_.2.2.1 : Value).ownBlock) s_.1 t871) ∧ (Kd.R k104 104 w' w.heap.size (fun k_ => some k_ ≠ (s_.2.2.2.1 : Value).ownBlock) s_.2.1 t874) ∧ (Kd.R Kd.string 9 w' w.heap.size (fun k_ => some k_ ≠ (s_.1 : Value).ownBlock) s_.2.2.1 t877) ∧ (Kd.R k104 104 w' w.heap.size (fun k_ => some k_ ≠ (s_.2.1 : Value).ownBlock) s_.2.2.2.1 t880) ∧ (w'.heap[gb861]? = some (.cells #[.slice A0_0 l0_0.length c0_0, .slice A0_1 l0_1.length c0_1] 86 (0, 0))) ∧ (w'.heap[s_.2.2.2.2]? = some (.cells #[.slice none 0 0, .slice none 0 0] 86 (0, 0))) ∧ (w.heap.size ≤ s_.2.2.2.2) ∧ (w.heap.size ≤ s_.2.2.2.2) ∧ (gb861 ≠ s_.2.2.2.2) ∧ (s_.2.2.2.2 ≠ gb861) ∧ (Below w.heap.size w w')) ?_ ?_
     rotate_left
     ·intro hJ1_4_5
      refine join_ (σ := Value × Value × Value × Value × Nat) 3 #[true, true, true, true, true, false, true, false, false] (fun s_ => [(51, .agg #[s_.1, s_.2.1]), (54, .agg #[s_.2.2.1, s_.2.2.2.1]), (14, .pointer (some ⟨s_.2.2.2.2, 0, none⟩))]) (fun s_ w' => (w'.cell? ⟨gb861, 0, none⟩ = some (.slice A0_0 l0_0.length c0_0) ∧ w'.cell? ⟨gb861, 1, none⟩ = some (.slice A0_1 l0_1.length c0_1)) ∧ (Kd.R Kd.string 9 w' w.heap.size (fun k_ => some k_ ≠ (s_.2.2.1 : Value).ownBlock) s_.1 t871) ∧ (Kd.R k104 104 w' w.heap.size (fun k_ => some k_ ≠ (s_.2.2.2.1 : Value).ownBlock) s_.2.1 t874) ∧ (Kd.R Kd.string 9 w' w.heap.size (fun k_ => some k_ ≠ (s_.1 : Value).ownBlock) s_.2.2.1 t877) ∧ (Kd.R k104 104 w' w.heap.size (fun k_ => some k_ ≠ (s_.2.1 : Value).ownBlock) s_.2.2.2.1 t880) ∧ (w'.heap[gb861]? = some (.cells #[.slice A0_0 l0_0.length c0_0, .slice A0_1 l0_1.length c0_1] 86 (0, 0))) ∧ (w'.heap[s_.2.2.2.2]? = some (.cells #[.slice none 0 0, .slice none 0 0] 86 (0, 0))) ∧ (w.heap.size ≤ s_.2.2.2.2) ∧ (w.heap.size ≤ s_.2.2.2.2) ∧ (gb861 ≠ s_.2.2.2.2) ∧ (s_.2.2.2.2 ≠ gb861) ∧ (Below w.heap.size w w')) ?_ ?_
      rotate_left
      ·intro hJ1_4_6
       refine join_ (σ := Value × Value × Nat × Nat) 3 #[true, true, true, true, false, true, true, false, false] (fun s_ => [(51, .agg #[s_.1, s_.2.1]), (13, .pointer (some ⟨s_.2.2.1, 0, none⟩)), (14, .pointer (some ⟨s_.2.2.2, 0, none⟩))]) (fun s_ w' => (w'.cell? ⟨gb861, 0, none⟩ = some (.slice A0_0 l0_0.length c0_0) ∧ w'.cell? ⟨gb861, 1, none⟩ = some (.slice A0_1 l0_1.length c0_1)) ∧ (Kd.R Kd.string 9 w' w.heap.size (fun _ => True) s_.1 t871) ∧ (Kd.R k104 104 w' w.heap.size (fun _ => True) s_.2.1 t874) ∧ (w'.heap[gb861]? = some (.cells #[.slice A0_0 l0_0.length c0_0, .slice A0_1 l0_1.length c0_1] 86 (0, 0))) ∧ (w'.heap[s_.2.2.1]? = some (.cells #[.slice none 0 0, .slice none 0 0] 86 (0, 0))) ∧ (w'.heap[s_.2.2.2]? = some (.cells #[.slice none 0 0, .slice none 0 0] 86 (0, 0))) ∧ (w.heap.size ≤ s_.2.2.1) ∧ (w.heap.size ≤ s_.2.2.1) ∧ (gb861 ≠ s_.2.2.1) ∧ (s_.2.2.1 ≠ gb861) ∧ (s_.2.2.2 ≠ s_.2.2.1) ∧ (s_.2.2.1 ≠ s_.2.2.2) ∧ (w.heap.size ≤ s_.2.2.2) ∧ (w.heap.size ≤ s_.2.2.2) ∧ (gb861 ≠ s_.2.2.2) ∧ (s_.2.2.2 ≠ gb861) ∧ (Below w.heap.size w w')) ?_ ?_
       rotate_left
       ·intro hJ1_5_6
        refine join_ (σ := Value × Value × Value × Value) 4 #[true, true, true, true, true, false, false, false, false] (fun s_ => [(51, .agg #[s_.1, s_.2.1]), (54, .agg #[s_.2.2.1, s_.2.2.2])]) (fun s_ w' => (w'.cell? ⟨gb861, 0, none⟩ = some (.slice A0_0 l0_0.length c0_0) ∧ w'.cell? ⟨gb861, 1, none⟩ = some (.slice A0_1 l0_1.length c0_1)) ∧ (Kd.R Kd.string 9 w' w.heap.size (fun k_ => some k_ ≠ (s_.2.2.1 : Value).ownBlock) s_.1 t871) ∧ (Kd.R k104 104 w' w.heap.size (fun k_ => some k_ ≠ (s_.2.2.2 : Value).ownBlock) s_.2.1 t874) ∧ (Kd.R Kd.string 9 w' w.heap.size (fun k_ => some k_ ≠ (s_.1 : Value).ownBlock) s_.2.2.1 t877) ∧ (Kd.R k104 104 w' w.heap.size (fun k_ => some k_ ≠ (s_.2.1 : Value).ownBlock) s_.2.2.2 t880) ∧ (w'.heap[gb861]? = some (.cells #[.slice A0_0 l0_0.length c0_0, .slice A0_1 l0_1.length c0_1] 86 (0, 0))) ∧ (Below w.heap.size w w')) ?_ ?_
        rotate_left
        ·intro hJ1_4
         refine join_ (σ := Value × Value × Nat) 4 #[true, true, true, true, false, true, false, false, false] (fun s_ => [(51, .agg #[s_.1, s_.2.1]), (13, .pointer (some ⟨s_.2.2, 0, none⟩))]) (fun s_ w' => (w'.cell? ⟨gb861, 0, none⟩ = some (.slice A0_0 l0_0.length c0_0) ∧ w'.cell? ⟨gb861, 1, none⟩ = some (.slice A0_1 l0_1.length c0_1)) ∧ (Kd.R Kd.string 9 w' w.heap.size (fun _ => True) s_.1 t871) ∧ (Kd.R k104 104 w' w.heap.size (fun _ => True) s_.2.1 t874) ∧ (w'.heap[gb861]? = some (.cells #[.slice A0_0 l0_0.length c0_0, .slice A0_1 l0_1.length c0_1] 86 (0, 0))) ∧ (w'.heap[s_.2.2]? = some (.cells #[.slice none 0 0, .slice none 0 0] 86 (0, 0))) ∧ (w.heap.size ≤ s_.2.2) ∧ (w.heap.size ≤ s_.2.2) ∧ (gb861 ≠ s_.2.2) ∧ (s_.2.2 ≠ gb861) ∧ (Below w.heap.size w w')) ?_ ?_
         rotate_left
         ·intro hJ1_5
          refine join_ (σ := Value × Value × Nat) 4 #[true, true, true, true, false, false, true, false, false] (fun s_ => [(51, .agg #[s_.1, s_.2.1]), (14, .pointer (some ⟨s_.2.2, 0, none⟩))]) (fun s_ w' => (w'.cell? ⟨gb861, 0, none⟩ = some (.slice A0_0 l0_0.length c0_0) ∧ w'.cell? ⟨gb861, 1, none⟩ = some (.slice A0_1 l0_1.length c0_1)) ∧ (Kd.R Kd.string 9 w' w.heap.size (fun _ => True) s_.1 t871) ∧ (Kd.R k104 104 w' w.heap.size (fun _ => True) s_.2.1 t874) ∧ (w'.heap[gb861]? = some (.cells #[.slice A0_0 l0_0.length c0_0, .slice A0_1 l0_1.length c0_1] 86 (0, 0))) ∧ (w'.heap[s_.2.2]? = some (.cells #[.slice none 0 0, .slice none 0 0] 86 (0, 0))) ∧ (w.heap.size ≤ s_.2.2) ∧ (w.heap.size ≤ s_.2.2) ∧ (gb861 ≠ s_.2.2) ∧ (s_.2.2 ≠ gb861) ∧ (Below w.heap.size w w')) ?_ ?_
          rotate_left
          ·intro hJ1_6
           refine join_ (σ := Nat × Nat) 4 #[true, false, true, true, false, true, true, false, false] (fun s_ => [(13, .pointer (some ⟨s_.1, 0, none⟩)), (14, .pointer (some ⟨s_.2, 0, none⟩))]) (fun s_ w' => (w'.cell? ⟨gb861, 0, none⟩ = some (.slice A0_0 l0_0.length c0_0) ∧ w'.cell? ⟨gb861, 1, none⟩ = some (.slice A0_1 l0_1.length c0_1)) ∧ (w'.heap[gb861]? = some (.cells #[.slice A0_0 l0_0.length c0_0, .slice A0_1 l0_1.length c0_1] 86 (0, 0))) ∧ (w'.heap[s_.1]? = some (.cells #[.slice none 0 0, .slice none 0 0] 86 (0, 0))) ∧ (w'.heap[s_.2]? = some (.cells #[.slice none 0 0, .slice none 0 0] 86 (0, 0))) ∧ (w.heap.size ≤ s_.1) ∧ (w.heap.size ≤ s_.1) ∧ (gb861 ≠ s_.1) ∧ (s_.1 ≠ gb861) ∧ (s_.2 ≠ s_.1) ∧ (s_.1 ≠ s_.2) ∧ (w.heap.size ≤ s_.2) ∧ (w.heap.size ≤ s_.2) ∧ (gb861 ≠ s_.2) ∧ (s_.2 ≠ gb861) ∧ (Below w.heap.size w w')) ?_ ?_
           rotate_left
           ·intro hJ5_6
            refine join_ (σ := Value × Value) 5 #[true, true, true, true, false, false, false, false, false] (fun s_ => [(51, .agg #[s_.1, s_.2])]) (fun s_ w' => (w'.cell? ⟨gb861, 0, none⟩ = some (.slice A0_0 l0_0.length c0_0) ∧ w'.cell? ⟨gb861, 1, none⟩ = some (.slice A0_1 l0_1.length c0_1)) ∧ (Kd.R Kd.string 9 w' w.heap.size (fun _ => True) s_.1 t871) ∧ (Kd.R k104 104 w' w.heap.size (fun _ => True) s_.2 t874) ∧ (w'.heap[gb861]? = some (.cells #[.slice A0_0 l0_0.length c0_0, .slice A0_1 l0_1.length c0_1] 86 (0, 0))) ∧ (Below w.heap.size w w')) ?_ ?_
            rotate_left
            ·intro hJ1
             refine join_ (σ := Nat) 5 #[true, false, true, true, false, true, false, false, false] (fun s_ => [(13, .pointer (some ⟨s_, 0, none⟩))]) (fun s_ w' => (w'.cell? ⟨gb861, 0, none⟩ = some (.slice A0_0 l0_0.length c0_0) ∧ w'.cell? ⟨gb861, 1, none⟩ = some (.slice A0_1 l0_1.length c0_1)) ∧ (w'.heap[gb861]? = some (.cells #[.slice A0_0 l0_0.length c0_0, .slice A0_1 l0_1.length c0_1] 86 (0, 0))) ∧ (w'.heap[s_]? = some (.cells #[.slice none 0 0, .slice none 0 0] 86 (0, 0))) ∧ (w.heap.size ≤ s_) ∧ (w.heap.size ≤ s_) ∧ (gb861 ≠ s_) ∧ (s_ ≠ gb861) ∧ (Below w.heap.size w w')) ?_ ?_
             rotate_left
             ·intro hJ5
              refine join_ (σ := Nat) 5 #[true, false, true, true, false, false, true, false, false] (fun s_ => [(14, .pointer (some ⟨s_, 0, none⟩))]) (fun s_ w' => (w'.cell? ⟨gb861, 0, none⟩ = some (.slice A0_0 l0_0.length c0_0) ∧ w'.cell? ⟨gb861, 1, none⟩ = some (.slice A0_1 l0_1.length c0_1)) ∧ (w'.heap[gb861]? = some (.cells #[.slice A0_0 l0_0.length c0_0, .slice A0_1 l0_1.length c0_1] 86 (0, 0))) ∧ (w'.heap[s_]? = some (.cells #[.slice none 0 0, .slice none 0 0] 86 (0, 0))) ∧ (w.heap.size ≤ s_) ∧ (w.heap.size ≤ s_) ∧ (gb861 ≠ s_) ∧ (s_ ≠ gb861) ∧ (Below w.heap.size w w')) ?_ ?_
              rotate_left
              ·intro hJ6
               refine three_ (i := 1) (j := 5) (k := 6) (Ni := some 51) (Nj := some 13) (Nk := some 14) #[true, true, true, true, false, false, false, false, false] #[true, false, true, true, false, true, false, false, false] #[true, false, true, true, false, false, true, false, false] rfl rfl rfl rfl rfl rfl (three_of HT_.out (by kernel_rfl)) (by decide) (by decide) (by decide) (fun K hK => ?_) (fun K hK => ?_) (fun K hK => ?_)
               ·skip
                refine goes_ Try.func50 (by kernel_rfl) rfl #[.agg #[.slice A0_0 l0_0.length c0_0, .slice A0_1 l0_1.length c0_1]] (by rfl) rfl rfl (by (try simp only [List.map_toArray, List.map_cons, List.map_nil]); first | done | rfl | (simp only [List.length_drop, List.length_take]; rfl)) ?_
                with_reducible refine (disk_Flush.calls _ _ l0_0 _ _ l0_1 t871 t874 _ ?side1 ?side2 ?side3 ?side4 A52.out).mono ?_
                (case side1 => repeat (first | exact (Kd.C_below HR0_0.out HB.out) | (with_reducible refine Kd.C_alloc ?_ _) | (with_reducible refine Kd.C_drewN ?_ _) | (with_reducible refine Kd.C_drew ?_)))
                (case side2 => exact HC0_0.out)
                (case side3 => repeat (first | exact (Kd.C_below HR0_1.out HB.out) | (with_reducible refine Kd.C_alloc ?_ _) | (with_reducible refine Kd.C_drewN ?_ _) | (with_reducible refine Kd.C_drew ?_)))
                (case side4 => exact HC0_1.out)
                rintro e w56 ⟨v872, v875, rfl, ho0, ho1, hb⟩
                refine ⟨_, rfl, ?_⟩
                have HO873 := Aside0.mk (Kd.R_lower ho0 (below_size (by repeat (first | exact beU HB.out | refine below_set ?_ (Aside0.out ‹_›) | apply below_alloc | apply pw_below_drewN | apply below_drew1))))
                have HO876 := Aside0.mk (Kd.R_lower ho1 (below_size (by repeat (first | exact beU HB.out | refine below_set ?_ (Aside0.out ‹_›) | apply below_alloc | apply pw_below_drewN | apply below_drew1))))
                replace BK861 := Aside0.mk (blk_below (bU BK861.out) hb)
                replace HB := Aside0.mk (below_step (by repeat (first | exact beU HB.out | refine below_set ?_ (Aside0.out ‹_›) | apply below_alloc | apply pw_below_drewN | apply below_drew1)) hb)
                (try clear hb)
                (try clear hb2)
                (try clear hk)
                (try clear hi)
                (try clear ho0)
                (try clear ho1)
                refine hK.out _ _ ⟨(blk_cell BK861.out 0).trans rfl, (blk_cell BK861.out 1).trans rfl⟩ (fun hHeld => ?_)
                clear hK K
                refine norm_ (a' := ?_) ?_ ?_
                rotate_left
                ·show Act.put _ (some 51) _ = _
                 simp only [Act.put, List.setIfInBounds_toArray, List.set_cons_zero, List.set_cons_succ, i64_w, i32_w]
                 rfl
                exact norm_ (by simp only [putAll, Act.put, List.setIfInBounds_toArray, List.set_cons_zero, List.set_cons_succ] <;> rfl) (hJ1 (v872, v875) _ ⟨hHeld, (rU HO873.out), (rU HO876.out), (bU BK861.out), (beU HB.out)⟩)
               ·skip
                refine box_step ?hg (N := 13) ?hd (cs := #[.slice none 0 0, .slice none 0 0]) (t := 86) ?hr ?_; (case hd => rfl); (case hg => rfl); (case hr => first | (go_simp; done) | (go_simp; rfl))
                intro gb883 hg w56 hbox hb
                have BK883 := Aside0.mk (hbox)
                have GW883 := Aside0.mk ((by first | exact geU HB.out hg | (rw [hg]; exact below_size (by repeat (first | exact beU HB.out | refine below_set ?_ (Aside0.out ‹_›) | apply below_alloc | apply pw_below_drewN | apply below_drew1)))))
                have GE883 := Aside0.mk ((by first | exact geU HB.out hg | (rw [hg]; exact below_size (by repeat (first | exact beU HB.out | refine below_set ?_ (Aside0.out ‹_›) | apply below_alloc | apply pw_below_drewN | apply below_drew1)))))
                have NB861_883 := Aside0.mk ((neU BK861.out hg))
                have NB883_861 := Aside0.mk ((enU BK861.out hg))
                replace BK861 := Aside0.mk (blk_below (bU BK861.out) hb)
                replace HB := Aside0.mk (below_step (by repeat (first | exact beU HB.out | refine below_set ?_ (Aside0.out ‹_›) | apply below_alloc | apply pw_below_drewN | apply below_drew1)) hb)
                clear hb hbox hg
                refine hK.out _ _ ⟨(blk_cell BK861.out 0).trans rfl, (blk_cell BK861.out 1).trans rfl⟩ (fun hHeld => ?_)
                clear hK K
                refine norm_ (a' := ?_) ?_ ?_
                rotate_left
                ·show Act.put _ (some 13) _ = _
                 simp only [Act.put, List.setIfInBounds_toArray, List.set_cons_zero, List.set_cons_succ, i64_w, i32_w]
                 rfl
                exact norm_ (by simp only [putAll, Act.put, List.setIfInBounds_toArray, List.set_cons_zero, List.set_cons_succ] <;> rfl) (hJ5 (gb883) _ ⟨hHeld, (bU BK861.out), (bU BK883.out), GW883.out, GE883.out, NB861_883.out, NB883_861.out, (beU HB.out)⟩)
               ·skip
                refine box_step ?hg (N := 14) ?hd (cs := #[.slice none 0 0, .slice none 0 0]) (t := 86) ?hr ?_; (case hd => rfl); (case hg => rfl); (case hr => first | (go_simp; done) | (go_simp; rfl))
                intro gb884 hg w56 hbox hb
                have BK884 := Aside0.mk (hbox)
                have GW884 := Aside0.mk ((by first | exact geU HB.out hg | (rw [hg]; exact below_size (by repeat (first | exact beU HB.out | refine below_set ?_ (Aside0.out ‹_›) | apply below_alloc | apply pw_below_drewN | apply below_drew1)))))
                have GE884 := Aside0.mk ((by first | exact geU HB.out hg | (rw [hg]; exact below_size (by repeat (first | exact beU HB.out | refine below_set ?_ (Aside0.out ‹_›) | apply below_alloc | apply pw_below_drewN | apply below_drew1)))))
                have NB861_884 := Aside0.mk ((neU BK861.out hg))
                have NB884_861 := Aside0.mk ((enU BK861.out hg))
                replace BK861 := Aside0.mk (blk_below (bU BK861.out) hb)
                replace HB := Aside0.mk (below_step (by repeat (first | exact beU HB.out | refine below_set ?_ (Aside0.out ‹_›) | apply below_alloc | apply pw_below_drewN | apply below_drew1)) hb)
                clear hb hbox hg
                refine hK.out _ _ ⟨(blk_cell BK861.out 0).trans rfl, (blk_cell BK861.out 1).trans rfl⟩ (fun hHeld => ?_)
                clear hK K
                refine norm_ (a' := ?_) ?_ ?_
                rotate_left
                ·show Act.put _ (some 14) _ = _
                 simp only [Act.put, List.setIfInBounds_toArray, List.set_cons_zero, List.set_cons_succ, i64_w, i32_w]
                 rfl
                exact norm_ (by simp only [putAll, Act.put, List.setIfInBounds_toArray, List.set_cons_zero, List.set_cons_succ] <;> rfl) (hJ6 (gb884) _ ⟨hHeld, (bU BK861.out), (bU BK884.out), GW884.out, GE884.out, NB861_884.out, NB884_861.out, (beU HB.out)⟩)
              ·skip
               rintro gb884 w57 ⟨hS_, h0_, h1_, h2_, h3_, h4_, h5_, h6_⟩
               have n0_ : Aside0 (w57.heap[gb861]? = some (.cells #[.slice A0_0 l0_0.length c0_0, .slice A0_1 l0_1.length c0_1] 86 (0, 0))) := ⟨h0_⟩
               have n1_ : Aside0 (w57.heap[gb884]? = some (.cells #[.slice none 0 0, .slice none 0 0] 86 (0, 0))) := ⟨h1_⟩
               have n2_ : Aside0 (w.heap.size ≤ gb884) := ⟨h2_⟩
               have n3_ : Aside0 (w.heap.size ≤ gb884) := ⟨h3_⟩
               have n4_ : Aside0 (gb861 ≠ gb884) := ⟨h4_⟩
               have n5_ : Aside0 (gb884 ≠ gb861) := ⟨h5_⟩
               have n6_ : Aside0 (Below w.heap.size w w57) := ⟨h6_⟩
               clear BK861
               clear HB
               clear h0_ h1_ h2_ h3_ h4_ h5_ h6_
               have BK861 := n0_
               have BK884 := n1_
               have GW884 := n2_
               have GE884 := n3_
               have NB861_884 := n4_
               have NB884_861 := n5_
               have HB := n6_
               clear n0_ n1_ n2_ n3_ n4_ n5_ n6_
               have hHeld : w57.cell? ⟨gb861, 0, none⟩ = some (.slice A0_0 l0_0.length c0_0) ∧ w57.cell? ⟨gb861, 1, none⟩ = some (.slice A0_1 l0_1.length c0_1) := hS_
               refine norm_ (a' := ?_) ?_ ?_
               rotate_left
               ·simp only [putAll, Act.put, List.setIfInBounds_toArray, List.set_cons_zero, List.set_cons_succ]
                rfl
               refine two_ (i := 1) (j := 5) (Ni := some 51) (Nj := some 13) #[true, true, true, true, false, false, true, false, false] #[true, false, true, true, false, true, true, false, false] rfl rfl rfl rfl (two_of HT_.out (by kernel_rfl)) (by decide) (by decide) (fun K hK => ?_) (fun K hK => ?_)
               ·skip
                refine goes_ Try.func50 (by kernel_rfl) rfl #[.agg #[.slice A0_0 l0_0.length c0_0, .slice A0_1 l0_1.length c0_1]] (by rfl) rfl rfl (by (try simp only [List.map_toArray, List.map_cons, List.map_nil]); first | done | rfl | (simp only [List.length_drop, List.length_take]; rfl)) ?_
                with_reducible refine (disk_Flush.calls _ _ l0_0 _ _ l0_1 t871 t874 _ ?side1 ?side2 ?side3 ?side4 A52.out).mono ?_
                (case side1 => repeat (first | exact (Kd.C_below HR0_0.out HB.out) | (with_reducible refine Kd.C_alloc ?_ _) | (with_reducible refine Kd.C_drewN ?_ _) | (with_reducible refine Kd.C_drew ?_)))
                (case side2 => exact HC0_0.out)
                (case side3 => repeat (first | exact (Kd.C_below HR0_1.out HB.out) | (with_reducible refine Kd.C_alloc ?_ _) | (with_reducible refine Kd.C_drewN ?_ _) | (with_reducible refine Kd.C_drew ?_)))
                (case side4 => exact HC0_1.out)
                rintro e w58 ⟨v872, v875, rfl, ho0, ho1, hb⟩
                refine ⟨_, rfl, ?_⟩
                have HO873 := Aside0.mk (Kd.R_lower ho0 (below_size (by repeat (first | exact beU HB.out | refine below_set ?_ (Aside0.out ‹_›) | apply below_alloc | apply pw_below_drewN | apply below_drew1))))
                have HO876 := Aside0.mk (Kd.R_lower ho1 (below_size (by repeat (first | exact beU HB.out | refine below_set ?_ (Aside0.out ‹_›) | apply below_alloc | apply pw_below_drewN | apply below_drew1))))
                replace BK861 := Aside0.mk (blk_below (bU BK861.out) hb)
                replace BK884 := Aside0.mk (blk_below (bU BK884.out) hb)
                replace HB := Aside0.mk (below_step (by repeat (first | exact beU HB.out | refine below_set ?_ (Aside0.out ‹_›) | apply below_alloc | apply pw_below_drewN | apply below_drew1)) hb)
                (try clear hb)
                (try clear hb2)
                (try clear hk)
                (try clear hi)
                (try clear ho0)
                (try clear ho1)
                refine hK.out _ _ ⟨(blk_cell BK861.out 0).trans rfl, (blk_cell BK861.out 1).trans rfl⟩ (fun hHeld => ?_)
                clear hK K
                refine norm_ (a' := ?_) ?_ ?_
                rotate_left
                ·show Act.put _ (some 51) _ = _
                 simp only [Act.put, List.setIfInBounds_toArray, List.set_cons_zero, List.set_cons_succ, i64_w, i32_w]
                 rfl
                exact norm_ (by simp only [putAll, Act.put, List.setIfInBounds_toArray, List.set_cons_zero, List.set_cons_succ] <;> rfl) (hJ1_6 (v872, v875, gb884) _ ⟨hHeld, (rU HO873.out), (rU HO876.out), (bU BK861.out), (bU BK884.out), GW884.out, GE884.out, NB861_884.out, NB884_861.out, (beU HB.out)⟩)
               ·skip
                refine box_step ?hg (N := 13) ?hd (cs := #[.slice none 0 0, .slice none 0 0]) (t := 86) ?hr ?_; (case hd => rfl); (case hg => rfl); (case hr => first | (go_simp; done) | (go_simp; rfl))
                intro gb883 hg w58 hbox hb
                have BK883 := Aside0.mk (hbox)
                have GW883 := Aside0.mk ((by first | exact geU HB.out hg | (rw [hg]; exact below_size (by repeat (first | exact beU HB.out | refine below_set ?_ (Aside0.out ‹_›) | apply below_alloc | apply pw_below_drewN | apply below_drew1)))))
                have GE883 := Aside0.mk ((by first | exact geU HB.out hg | (rw [hg]; exact below_size (by repeat (first | exact beU HB.out | refine below_set ?_ (Aside0.out ‹_›) | apply below_alloc | apply pw_below_drewN | apply below_drew1)))))
                have NB861_883 := Aside0.mk ((neU BK861.out hg))
                have NB883_861 := Aside0.mk ((enU BK861.out hg))
                have NB884_883 := Aside0.mk ((neU BK884.out hg))
                have NB883_884 := Aside0.mk ((enU BK884.out hg))
                replace BK861 := Aside0.mk (blk_below (bU BK861.out) hb)
                replace BK884 := Aside0.mk (blk_below (bU BK884.out) hb)
                replace HB := Aside0.mk (below_step (by repeat (first | exact beU HB.out | refine below_set ?_ (Aside0.out ‹_›) | apply below_alloc | apply pw_below_drewN | apply below_drew1)) hb)
                clear hb hbox hg
                refine hK.out _ _ ⟨(blk_cell BK861.out 0).trans rfl, (blk_cell BK861.out 1).trans rfl⟩ (fun hHeld => ?_)
                clear hK K
                refine norm_ (a' := ?_) ?_ ?_
                rotate_left
                ·show Act.put _ (some 13) _ = _
                 simp only [Act.put, List.setIfInBounds_toArray, List.set_cons_zero, List.set_cons_succ, i64_w, i32_w]
                 rfl
                exact norm_ (by simp only [putAll, Act.put, List.setIfInBounds_toArray, List.set_cons_zero, List.set_cons_succ] <;> rfl) (hJ5_6 (gb883, gb884) _ ⟨hHeld, (bU BK861.out), (bU BK883.out), (bU BK884.out), GW883.out, GE883.out, NB861_883.out, NB883_861.out, NB884_883.out, NB883_884.out, GW884.out, GE884.out, NB861_884.out, NB884_861.out, (beU HB.out)⟩)
             ·skip
              rintro gb883 w57 ⟨hS_, h0_, h1_, h2_, h3_, h4_, h5_, h6_⟩
              have n0_ : Aside0 (w57.heap[gb861]? = some (.cells #[.slice A0_0 l0_0.length c0_0, .slice A0_1 l0_1.length c0_1] 86 (0, 0))) := ⟨h0_⟩
              have n1_ : Aside0 (w57.heap[gb883]? = some (.cells #[.slice none 0 0, .slice none 0 0] 86 (0, 0))) := ⟨h1_⟩
              have n2_ : Aside0 (w.heap.size ≤ gb883) := ⟨h2_⟩
              have n3_ : Aside0 (w.heap.size ≤ gb883) := ⟨h3_⟩
              have n4_ : Aside0 (gb861 ≠ gb883) := ⟨h4_⟩
              have n5_ : Aside0 (gb883 ≠ gb861) := ⟨h5_⟩
              have n6_ : Aside0 (Below w.heap.size w w57) := ⟨h6_⟩
              clear BK861
              clear HB
              clear h0_ h1_ h2_ h3_ h4_ h5_ h6_
              have BK861 := n0_
              have BK883 := n1_
              have GW883 := n2_
              have GE883 := n3_
              have NB861_883 := n4_
              have NB883_861 := n5_
              have HB := n6_
              clear n0_ n1_ n2_ n3_ n4_ n5_ n6_
              have hHeld : w57.cell? ⟨gb861, 0, none⟩ = some (.slice A0_0 l0_0.length c0_0) ∧ w57.cell? ⟨gb861, 1, none⟩ = some (.slice A0_1 l0_1.length c0_1) := hS_
              refine norm_ (a' := ?_) ?_ ?_
              rotate_left
              ·simp only [putAll, Act.put, List.setIfInBounds_toArray, List.set_cons_zero, List.set_cons_succ]
               rfl
              refine two_ (i := 1) (j := 6) (Ni := some 51) (Nj := some 14) #[true, true, true, true, false, true, false, false, false] #[true, false, true, true, false, true, true, false, false] rfl rfl rfl rfl (two_of HT_.out (by kernel_rfl)) (by decide) (by decide) (fun K hK => ?_) (fun K hK => ?_)
              ·skip
               refine goes_ Try.func50 (by kernel_rfl) rfl #[.agg #[.slice A0_0 l0_0.length c0_0, .slice A0_1 l0_1.length c0_1]] (by rfl) rfl rfl (by (try simp only [List.map_toArray, List.map_cons, List.map_nil]); first | done | rfl | (simp only [List.length_drop, List.length_take]; rfl)) ?_
               with_reducible refine (disk_Flush.calls _ _ l0_0 _ _ l0_1 t871 t874 _ ?side1 ?side2 ?side3 ?side4 A52.out).mono ?_
               (case side1 => repeat (first | exact (Kd.C_below HR0_0.out HB.out) | (with_reducible refine Kd.C_alloc ?_ _) | (with_reducible refine Kd.C_drewN ?_ _) | (with_reducible refine Kd.C_drew ?_)))
               (case side2 => exact HC0_0.out)
               (case side3 => repeat (first | exact (Kd.C_below HR0_1.out HB.out) | (with_reducible refine Kd.C_alloc ?_ _) | (with_reducible refine Kd.C_drewN ?_ _) | (with_reducible refine Kd.C_drew ?_)))
               (case side4 => exact HC0_1.out)
               rintro e w58 ⟨v872, v875, rfl, ho0, ho1, hb⟩
               refine ⟨_, rfl, ?_⟩
               have HO873 := Aside0.mk (Kd.R_lower ho0 (below_size (by repeat (first | exact beU HB.out | refine below_set ?_ (Aside0.out ‹_›) | apply below_alloc | apply pw_below_drewN | apply below_drew1))))
               have HO876 := Aside0.mk (Kd.R_lower ho1 (below_size (by repeat (first | exact beU HB.out | refine below_set ?_ (Aside0.out ‹_›) | apply below_alloc | apply pw_below_drewN | apply below_drew1))))
               replace BK861 := Aside0.mk (blk_below (bU BK861.out) hb)
               replace BK883 := Aside0.mk (blk_below (bU BK883.out) hb)
               replace HB := Aside0.mk (below_step (by repeat (first | exact beU HB.out | refine below_set ?_ (Aside0.out ‹_›) | apply below_alloc | apply pw_below_drewN | apply below_drew1)) hb)
               (try clear hb)
               (try clear hb2)
               (try clear hk)
               (try clear hi)
               (try clear ho0)
               (try clear ho1)
               refine hK.out _ _ ⟨(blk_cell BK861.out 0).trans rfl, (blk_cell BK861.out 1).trans rfl⟩ (fun hHeld => ?_)
               clear hK K
               refine norm_ (a' := ?_) ?_ ?_
               rotate_left
               ·show Act.put _ (some 51) _ = _
                simp only [Act.put, List.setIfInBounds_toArray, List.set_cons_zero, List.set_cons_succ, i64_w, i32_w]
                rfl
               exact norm_ (by simp only [putAll, Act.put, List.setIfInBounds_toArray, List.set_cons_zero, List.set_cons_succ] <;> rfl) (hJ1_5 (v872, v875, gb883) _ ⟨hHeld, (rU HO873.out), (rU HO876.out), (bU BK861.out), (bU BK883.out), GW883.out, GE883.out, NB861_883.out, NB883_861.out, (beU HB.out)⟩)
              ·skip
               refine box_step ?hg (N := 14) ?hd (cs := #[.slice none 0 0, .slice none 0 0]) (t := 86) ?hr ?_; (case hd => rfl); (case hg => rfl); (case hr => first | (go_simp; done) | (go_simp; rfl))
               intro gb884 hg w58 hbox hb
               have BK884 := Aside0.mk (hbox)
               have GW884 := Aside0.mk ((by first | exact geU HB.out hg | (rw [hg]; exact below_size (by repeat (first | exact beU HB.out | refine below_set ?_ (Aside0.out ‹_›) | apply below_alloc | apply pw_below_drewN | apply below_drew1)))))
               have GE884 := Aside0.mk ((by first | exact geU HB.out hg | (rw [hg]; exact below_size (by repeat (first | exact beU HB.out | refine below_set ?_ (Aside0.out ‹_›) | apply below_alloc | apply pw_below_drewN | apply below_drew1)))))
               have NB861_884 := Aside0.mk ((neU BK861.out hg))
               have NB884_861 := Aside0.mk ((enU BK861.out hg))
               have NB883_884 := Aside0.mk ((neU BK883.out hg))
               have NB884_883 := Aside0.mk ((enU BK883.out hg))
               replace BK861 := Aside0.mk (blk_below (bU BK861.out) hb)
               replace BK883 := Aside0.mk (blk_below (bU BK883.out) hb)
               replace HB := Aside0.mk (below_step (by repeat (first | exact beU HB.out | refine below_set ?_ (Aside0.out ‹_›) | apply below_alloc | apply pw_below_drewN | apply below_drew1)) hb)
               clear hb hbox hg
               refine hK.out _ _ ⟨(blk_cell BK861.out 0).trans rfl, (blk_cell BK861.out 1).trans rfl⟩ (fun hHeld => ?_)
               clear hK K
               refine norm_ (a' := ?_) ?_ ?_
               rotate_left
               ·show Act.put _ (some 14) _ = _
                simp only [Act.put, List.setIfInBounds_toArray, List.set_cons_zero, List.set_cons_succ, i64_w, i32_w]
                rfl
               exact norm_ (by simp only [putAll, Act.put, List.setIfInBounds_toArray, List.set_cons_zero, List.set_cons_succ] <;> rfl) (hJ5_6 (gb883, gb884) _ ⟨hHeld, (bU BK861.out), (bU BK883.out), (bU BK884.out), GW883.out, GE883.out, NB861_883.out, NB883_861.out, NB884_883.out, NB883_884.out, GW884.out, GE884.out, NB861_884.out, NB884_861.out, (beU HB.out)⟩)
            ·skip
             rintro ⟨v872, v875⟩ w57 ⟨hS_, h0_, h1_, h2_, h3_⟩
             have n0_ : Aside0 (Kd.R Kd.string 9 w57 w.heap.size (fun _ => True) v872 t871) := ⟨h0_⟩
             have n1_ : Aside0 (Kd.R k104 104 w57 w.heap.size (fun _ => True) v875 t874) := ⟨h1_⟩
             have n2_ : Aside0 (w57.heap[gb861]? = some (.cells #[.slice A0_0 l0_0.length c0_0, .slice A0_1 l0_1.length c0_1] 86 (0, 0))) := ⟨h2_⟩
             have n3_ : Aside0 (Below w.heap.size w w57) := ⟨h3_⟩
             clear BK861
             clear HB
             clear h0_ h1_ h2_ h3_
             have HO873 := n0_
             have HO876 := n1_
             have BK861 := n2_
             have HB := n3_
             clear n0_ n1_ n2_ n3_
             have hHeld : w57.cell? ⟨gb861, 0, none⟩ = some (.slice A0_0 l0_0.length c0_0) ∧ w57.cell? ⟨gb861, 1, none⟩ = some (.slice A0_1 l0_1.length c0_1) := hS_
             refine norm_ (a' := ?_) ?_ ?_
             rotate_left
             ·simp only [putAll, Act.put, List.setIfInBounds_toArray, List.set_cons_zero, List.set_cons_succ]
              rfl
             refine three_ (i := 4) (j := 5) (k := 6) (Ni := some 54) (Nj := some 13) (Nk := some 14) #[true, true, true, true, true, false, false, false, false] #[true, true, true, true, false, true, false, false, false] #[true, true, true, true, false, false, true, false, false] rfl rfl rfl rfl rfl rfl (three_of HT_.out (by kernel_rfl)) (by decide) (by decide) (by decide) (fun K hK => ?_) (fun K hK => ?_) (fun K hK => ?_)
             ·skip
              refine goes_ Try.func51 (by kernel_rfl) rfl #[.agg #[.slice A0_0 l0_0.length c0_0, .slice A0_1 l0_1.length c0_1], .slice A4 l4.length c4] (by rfl) rfl rfl (by (try simp only [List.map_toArray, List.map_cons, List.map_nil]); first | done | rfl | (simp only [List.length_drop, List.length_take]; rfl)) ?_
              with_reducible refine (disk_Crash.calls _ _ l0_0 _ _ l0_1 _ _ l4 t877 t880 _ ?side1 ?side2 ?side3 ?side4 ?side5 ?side6 A53.out).mono ?_
              (case side1 => repeat (first | exact (Kd.C_below HR0_0.out HB.out) | (with_reducible refine Kd.C_alloc ?_ _) | (with_reducible refine Kd.C_drewN ?_ _) | (with_reducible refine Kd.C_drew ?_)))
              (case side2 => exact HC0_0.out)
              (case side3 => repeat (first | exact (Kd.C_below HR0_1.out HB.out) | (with_reducible refine Kd.C_alloc ?_ _) | (with_reducible refine Kd.C_drewN ?_ _) | (with_reducible refine Kd.C_drew ?_)))
              (case side4 => exact HC0_1.out)
              (case side5 => repeat (first | exact (Kd.C_below HR4.out HB.out) | (with_reducible refine Kd.C_alloc ?_ _) | (with_reducible refine Kd.C_drewN ?_ _) | (with_reducible refine Kd.C_drew ?_)))
              (case side6 => exact HC4.out)
              rintro e w58 ⟨v878, v881, rfl, ho0, ho1, hb⟩
              refine ⟨_, rfl, ?_⟩
              have HO879 := Aside0.mk (Kd.R_lower (Kd.R_new' ho0 (Kd.R_lt (rU HO873.out))) (below_size (by repeat (first | exact beU HB.out | refine below_set ?_ (Aside0.out ‹_›) | apply below_alloc | apply pw_below_drewN | apply below_drew1))))
              have HO882 := Aside0.mk (Kd.R_lower (Kd.R_new' ho1 (Kd.R_lt (rU HO876.out))) (below_size (by repeat (first | exact beU HB.out | refine below_set ?_ (Aside0.out ‹_›) | apply below_alloc | apply pw_below_drewN | apply below_drew1))))
              replace HO873 := Aside0.mk (Kd.R_elder' (rU HO873.out) (Kd.R_base ho0) hb)
              replace HO876 := Aside0.mk (Kd.R_elder' (rU HO876.out) (Kd.R_base ho1) hb)
              replace BK861 := Aside0.mk (blk_below (bU BK861.out) hb)
              replace HB := Aside0.mk (below_step (by repeat (first | exact beU HB.out | refine below_set ?_ (Aside0.out ‹_›) | apply below_alloc | apply pw_below_drewN | apply below_drew1)) hb)
              (try clear hb)
              (try clear hb2)
              (try clear hk)
              (try clear hi)
              (try clear ho0)
              (try clear ho1)
              refine hK.out _ _ ⟨(blk_cell BK861.out 0).trans rfl, (blk_cell BK861.out 1).trans rfl⟩ (fun hHeld => ?_)
              clear hK K
              refine norm_ (a' := ?_) ?_ ?_
              rotate_left
              ·show Act.put _ (some 54) _ = _
               simp only [Act.put, List.setIfInBounds_toArray, List.set_cons_zero, List.set_cons_succ, i64_w, i32_w]
               rfl
              exact norm_ (by simp only [putAll, Act.put, List.setIfInBounds_toArray, List.set_cons_zero, List.set_cons_succ] <;> rfl) (hJ1_4 (v872, v875, v878, v881) _ ⟨hHeld, (by (with_reducible repeat (first | apply Kd.R_alloc | apply Kd.R_drewN | apply Kd.R_drew)); exact Kd.R_mono HO873.out (fun _ hk => hk.2)), (by (with_reducible repeat (first | apply Kd.R_alloc | apply Kd.R_drewN | apply Kd.R_drew)); exact Kd.R_mono HO876.out (fun _ hk => hk.2)), (by (with_reducible repeat (first | apply Kd.R_alloc | apply Kd.R_drewN | apply Kd.R_drew)); exact Kd.R_mono HO879.out (fun _ hk => hk.2)), (by (with_reducible repeat (first | apply Kd.R_alloc | apply Kd.R_drewN | apply Kd.R_drew)); exact Kd.R_mono HO882.out (fun _ hk => hk.2)), (bU BK861.out), (beU HB.out)⟩)
             ·skip
              refine box_step ?hg (N := 13) ?hd (cs := #[.slice none 0 0, .slice none 0 0]) (t := 86) ?hr ?_; (case hd => rfl); (case hg => rfl); (case hr => first | (go_simp; done) | (go_simp; rfl))
              intro gb883 hg w58 hbox hb
              have BK883 := Aside0.mk (hbox)
              have GW883 := Aside0.mk ((by first | exact geU HB.out hg | (rw [hg]; exact below_size (by repeat (first | exact beU HB.out | refine below_set ?_ (Aside0.out ‹_›) | apply below_alloc | apply pw_below_drewN | apply below_drew1)))))
              have GE883 := Aside0.mk ((by first | exact geU HB.out hg | (rw [hg]; exact below_size (by repeat (first | exact beU HB.out | refine below_set ?_ (Aside0.out ‹_›) | apply below_alloc | apply pw_below_drewN | apply below_drew1)))))
              have NB861_883 := Aside0.mk ((neU BK861.out hg))
              have NB883_861 := Aside0.mk ((enU BK861.out hg))
              replace HO873 := Aside0.mk (Kd.R_below (rU HO873.out) hb)
              replace HO876 := Aside0.mk (Kd.R_below (rU HO876.out) hb)
              replace BK861 := Aside0.mk (blk_below (bU BK861.out) hb)
              replace HB := Aside0.mk (below_step (by repeat (first | exact beU HB.out | refine below_set ?_ (Aside0.out ‹_›) | apply below_alloc | apply pw_below_drewN | apply below_drew1)) hb)
              clear hb hbox hg
              refine hK.out _ _ ⟨(blk_cell BK861.out 0).trans rfl, (blk_cell BK861.out 1).trans rfl⟩ (fun hHeld => ?_)
              clear hK K
              refine norm_ (a' := ?_) ?_ ?_
              rotate_left
              ·show Act.put _ (some 13) _ = _
               simp only [Act.put, List.setIfInBounds_toArray, List.set_cons_zero, List.set_cons_succ, i64_w, i32_w]
               rfl
              exact norm_ (by simp only [putAll, Act.put, List.setIfInBounds_toArray, List.set_cons_zero, List.set_cons_succ] <;> rfl) (hJ1_5 (v872, v875, gb883) _ ⟨hHeld, (rU HO873.out), (rU HO876.out), (bU BK861.out), (bU BK883.out), GW883.out, GE883.out, NB861_883.out, NB883_861.out, (beU HB.out)⟩)
             ·skip
              refine box_step ?hg (N := 14) ?hd (cs := #[.slice none 0 0, .slice none 0 0]) (t := 86) ?hr ?_; (case hd => rfl); (case hg => rfl); (case hr => first | (go_simp; done) | (go_simp; rfl))
              intro gb884 hg w58 hbox hb
              have BK884 := Aside0.mk (hbox)
              have GW884 := Aside0.mk ((by first | exact geU HB.out hg | (rw [hg]; exact below_size (by repeat (first | exact beU HB.out | refine below_set ?_ (Aside0.out ‹_›) | apply below_alloc | apply pw_below_drewN | apply below_drew1)))))
              have GE884 := Aside0.mk ((by first | exact geU HB.out hg | (rw [hg]; exact below_size (by repeat (first | exact beU HB.out | refine below_set ?_ (Aside0.out ‹_›) | apply below_alloc | apply pw_below_drewN | apply below_drew1)))))
              have NB861_884 := Aside0.mk ((neU BK861.out hg))
              have NB884_861 := Aside0.mk ((enU BK861.out hg))
              replace HO873 := Aside0.mk (Kd.R_below (rU HO873.out) hb)
              replace HO876 := Aside0.mk (Kd.R_below (rU HO876.out) hb)
              replace BK861 := Aside0.mk (blk_below (bU BK861.out) hb)
              replace HB := Aside0.mk (below_step (by repeat (first | exact beU HB.out | refine below_set ?_ (Aside0.out ‹_›) | apply below_alloc | apply pw_below_drewN | apply below_drew1)) hb)
              clear hb hbox hg
              refine hK.out _ _ ⟨(blk_cell BK861.out 0).trans rfl, (blk_cell BK861.out 1).trans rfl⟩ (fun hHeld => ?_)
              clear hK K
              refine norm_ (a' := ?_) ?_ ?_
              rotate_left
              ·show Act.put _ (some 14) _ = _
               simp only [Act.put, List.setIfInBounds_toArray, List.set_cons_zero, List.set_cons_succ, i64_w, i32_w]
               rfl
              exact norm_ (by simp only [putAll, Act.put, List.setIfInBounds_toArray, List.set_cons_zero, List.set_cons_succ] <;> rfl) (hJ1_6 (v872, v875, gb884) _ ⟨hHeld, (rU HO873.out), (rU HO876.out), (bU BK861.out), (bU BK884.out), GW884.out, GE884.out, NB861_884.out, NB884_861.out, (beU HB.out)⟩)
           ·skip
            rintro ⟨gb883, gb884⟩ w58 ⟨hS_, h0_, h1_, h2_, h3_, h4_, h5_, h6_, h7_, h8_, h9_, h10_, h11_, h12_, h13_⟩
            have n0_ : Aside0 (w58.heap[gb861]? = some (.cells #[.slice A0_0 l0_0.length c0_0, .slice A0_1 l0_1.length c0_1] 86 (0, 0))) := ⟨h0_⟩
            have n1_ : Aside0 (w58.heap[gb883]? = some (.cells #[.slice none 0 0, .slice none 0 0] 86 (0, 0))) := ⟨h1_⟩
            have n2_ : Aside0 (w58.heap[gb884]? = some (.cells #[.slice none 0 0, .slice none 0 0] 86 (0, 0))) := ⟨h2_⟩
            have n3_ : Aside0 (w.heap.size ≤ gb883) := ⟨h3_⟩
            have n4_ : Aside0 (w.heap.size ≤ gb883) := ⟨h4_⟩
            have n5_ : Aside0 (gb861 ≠ gb883) := ⟨h5_⟩
            have n6_ : Aside0 (gb883 ≠ gb861) := ⟨h6_⟩
            have n7_ : Aside0 (gb884 ≠ gb883) := ⟨h7_⟩
            have n8_ : Aside0 (gb883 ≠ gb884) := ⟨h8_⟩
            have n9_ : Aside0 (w.heap.size ≤ gb884) := ⟨h9_⟩
            have n10_ : Aside0 (w.heap.size ≤ gb884) := ⟨h10_⟩
            have n11_ : Aside0 (gb861 ≠ gb884) := ⟨h11_⟩
            have n12_ : Aside0 (gb884 ≠ gb861) := ⟨h12_⟩
            have n13_ : Aside0 (Below w.heap.size w w58) := ⟨h13_⟩
            clear BK861
            clear HB
            clear h0_ h1_ h2_ h3_ h4_ h5_ h6_ h7_ h8_ h9_ h10_ h11_ h12_ h13_
            have BK861 := n0_
            have BK883 := n1_
            have BK884 := n2_
            have GW883 := n3_
            have GE883 := n4_
            have NB861_883 := n5_
            have NB883_861 := n6_
            have NB884_883 := n7_
            have NB883_884 := n8_
            have GW884 := n9_
            have GE884 := n10_
            have NB861_884 := n11_
            have NB884_861 := n12_
            have HB := n13_
            clear n0_ n1_ n2_ n3_ n4_ n5_ n6_ n7_ n8_ n9_ n10_ n11_ n12_ n13_
            have hHeld : w58.cell? ⟨gb861, 0, none⟩ = some (.slice A0_0 l0_0.length c0_0) ∧ w58.cell? ⟨gb861, 1, none⟩ = some (.slice A0_1 l0_1.length c0_1) := hS_
            refine norm_ (a' := ?_) ?_ ?_
            rotate_left
            ·simp only [putAll, Act.put, List.setIfInBounds_toArray, List.set_cons_zero, List.set_cons_succ]
             rfl
            refine one_ (i := 1) (N := some 51) #[true, true, true, true, false, true, true, false, false] rfl rfl (one_of HT_.out (by kernel_rfl)) (by decide) (fun K hK => ?_)
            refine goes_ Try.func50 (by kernel_rfl) rfl #[.agg #[.slice A0_0 l0_0.length c0_0, .slice A0_1 l0_1.length c0_1]] (by rfl) rfl rfl (by (try simp only [List.map_toArray, List.map_cons, List.map_nil]); first | done | rfl | (simp only [List.length_drop, List.length_take]; rfl)) ?_
            with_reducible refine (disk_Flush.calls _ _ l0_0 _ _ l0_1 t871 t874 _ ?side1 ?side2 ?side3 ?side4 A52.out).mono ?_
            (case side1 => repeat (first | exact (Kd.C_below HR0_0.out HB.out) | (with_reducible refine Kd.C_alloc ?_ _) | (with_reducible refine Kd.C_drewN ?_ _) | (with_reducible refine Kd.C_drew ?_)))
            (case side2 => exact HC0_0.out)
            (case side3 => repeat (first | exact (Kd.C_below HR0_1.out HB.out) | (with_reducible refine Kd.C_alloc ?_ _) | (with_reducible refine Kd.C_drewN ?_ _) | (with_reducible refine Kd.C_drew ?_)))
            (case side4 => exact HC0_1.out)
            rintro e w59 ⟨v872, v875, rfl, ho0, ho1, hb⟩
            refine ⟨_, rfl, ?_⟩
            have HO873 := Aside0.mk (Kd.R_lower ho0 (below_size (by repeat (first | exact beU HB.out | refine below_set ?_ (Aside0.out ‹_›) | apply below_alloc | apply pw_below_drewN | apply below_drew1))))
            have HO876 := Aside0.mk (Kd.R_lower ho1 (below_size (by repeat (first | exact beU HB.out | refine below_set ?_ (Aside0.out ‹_›) | apply below_alloc | apply pw_below_drewN | apply below_drew1))))
            replace BK861 := Aside0.mk (blk_below (bU BK861.out) hb)
            replace BK883 := Aside0.mk (blk_below (bU BK883.out) hb)
            replace BK884 := Aside0.mk (blk_below (bU BK884.out) hb)
            replace HB := Aside0.mk (below_step (by repeat (first | exact beU HB.out | refine below_set ?_ (Aside0.out ‹_›) | apply below_alloc | apply pw_below_drewN | apply below_drew1)) hb)
            (try clear hb)
            (try clear hb2)
            (try clear hk)
            (try clear hi)
            (try clear ho0)
            (try clear ho1)
            refine hK.out _ _ ⟨(blk_cell BK861.out 0).trans rfl, (blk_cell BK861.out 1).trans rfl⟩ (fun hHeld => ?_)
            clear hK K
            refine norm_ (a' := ?_) ?_ ?_
            rotate_left
            ·show Act.put _ (some 51) _ = _
             simp only [Act.put, List.setIfInBounds_toArray, List.set_cons_zero, List.set_cons_succ, i64_w, i32_w]
             rfl
            exact norm_ (by simp only [putAll, Act.put, List.setIfInBounds_toArray, List.set_cons_zero, List.set_cons_succ] <;> rfl) (hJ1_5_6 (v872, v875, gb883, gb884) _ ⟨hHeld, (rU HO873.out), (rU HO876.out), (bU BK861.out), (bU BK883.out), (bU BK884.out), GW883.out, GE883.out, NB861_883.out, NB883_861.out, NB884_883.out, NB883_884.out, GW884.out, GE884.out, NB861_884.out, NB884_861.out, (beU HB.out)⟩)
          ·skip
           rintro ⟨v872, v875, gb884⟩ w58 ⟨hS_, h0_, h1_, h2_, h3_, h4_, h5_, h6_, h7_, h8_⟩
           have n0_ : Aside0 (Kd.R Kd.string 9 w58 w.heap.size (fun _ => True) v872 t871) := ⟨h0_⟩
           have n1_ : Aside0 (Kd.R k104 104 w58 w.heap.size (fun _ => True) v875 t874) := ⟨h1_⟩
           have n2_ : Aside0 (w58.heap[gb861]? = some (.cells #[.slice A0_0 l0_0.length c0_0, .slice A0_1 l0_1.length c0_1] 86 (0, 0))) := ⟨h2_⟩
           have n3_ : Aside0 (w58.heap[gb884]? = some (.cells #[.slice none 0 0, .slice none 0 0] 86 (0, 0))) := ⟨h3_⟩
           have n4_ : Aside0 (w.heap.size ≤ gb884) := ⟨h4_⟩
           have n5_ : Aside0 (w.heap.size ≤ gb884) := ⟨h5_⟩
           have n6_ : Aside0 (gb861 ≠ gb884) := ⟨h6_⟩
           have n7_ : Aside0 (gb884 ≠ gb861) := ⟨h7_⟩
           have n8_ : Aside0 (Below w.heap.size w w58) := ⟨h8_⟩
           clear BK861
           clear HB
           clear h0_ h1_ h2_ h3_ h4_ h5_ h6_ h7_ h8_
           have HO873 := n0_
           have HO876 := n1_
           have BK861 := n2_
           have BK884 := n3_
           have GW884 := n4_
           have GE884 := n5_
           have NB861_884 := n6_
           have NB884_861 := n7_
           have HB := n8_
           clear n0_ n1_ n2_ n3_ n4_ n5_ n6_ n7_ n8_
           have hHeld : w58.cell? ⟨gb861, 0, none⟩ = some (.slice A0_0 l0_0.length c0_0) ∧ w58.cell? ⟨gb861, 1, none⟩ = some (.slice A0_1 l0_1.length c0_1) := hS_
           refine norm_ (a' := ?_) ?_ ?_
           rotate_left
           ·simp only [putAll, Act.put, List.setIfInBounds_toArray, List.set_cons_zero, List.set_cons_succ]
            rfl
           refine two_ (i := 4) (j := 5) (Ni := some 54) (Nj := some 13) #[true, true, true, true, true, false, true, false, false] #[true, true, true, true, false, true, true, false, false] rfl rfl rfl rfl (two_of HT_.out (by kernel_rfl)) (by decide) (by decide) (fun K hK => ?_) (fun K hK => ?_)
           ·skip
            refine goes_ Try.func51 (by kernel_rfl) rfl #[.agg #[.slice A0_0 l0_0.length c0_0, .slice A0_1 l0_1.length c0_1], .slice A4 l4.length c4] (by rfl) rfl rfl (by (try simp only [List.map_toArray, List.map_cons, List.map_nil]); first | done | rfl | (simp only [List.length_drop, List.length_take]; rfl)) ?_
            with_reducible refine (disk_Crash.calls _ _ l0_0 _ _ l0_1 _ _ l4 t877 t880 _ ?side1 ?side2 ?side3 ?side4 ?side5 ?side6 A53.out).mono ?_
            (case side1 => repeat (first | exact (Kd.C_below HR0_0.out HB.out) | (with_reducible refine Kd.C_alloc ?_ _) | (with_reducible refine Kd.C_drewN ?_ _) | (with_reducible refine Kd.C_drew ?_)))
            (case side2 => exact HC0_0.out)
            (case side3 => repeat (first | exact (Kd.C_below HR0_1.out HB.out) | (with_reducible refine Kd.C_alloc ?_ _) | (with_reducible refine Kd.C_drewN ?_ _) | (with_reducible refine Kd.C_drew ?_)))
            (case side4 => exact HC0_1.out)
            (case side5 => repeat (first | exact (Kd.C_below HR4.out HB.out) | (with_reducible refine Kd.C_alloc ?_ _) | (with_reducible refine Kd.C_drewN ?_ _) | (with_reducible refine Kd.C_drew ?_)))
            (case side6 => exact HC4.out)
            rintro e w59 ⟨v878, v881, rfl, ho0, ho1, hb⟩
            refine ⟨_, rfl, ?_⟩
            have HO879 := Aside0.mk (Kd.R_lower (Kd.R_new' ho0 (Kd.R_lt (rU HO873.out))) (below_size (by repeat (first | exact beU HB.out | refine below_set ?_ (Aside0.out ‹_›) | apply below_alloc | apply pw_below_drewN | apply below_drew1))))
            have HO882 := Aside0.mk (Kd.R_lower (Kd.R_new' ho1 (Kd.R_lt (rU HO876.out))) (below_size (by repeat (first | exact beU HB.out | refine below_set ?_ (Aside0.out ‹_›) | apply below_alloc | apply pw_below_drewN | apply below_drew1))))
            replace HO873 := Aside0.mk (Kd.R_elder' (rU HO873.out) (Kd.R_base ho0) hb)
            replace HO876 := Aside0.mk (Kd.R_elder' (rU HO876.out) (Kd.R_base ho1) hb)
            replace BK861 := Aside0.mk (blk_below (bU BK861.out) hb)
            replace BK884 := Aside0.mk (blk_below (bU BK884.out) hb)
            replace HB := Aside0.mk (below_step (by repeat (first | exact beU HB.out | refine below_set ?_ (Aside0.out ‹_›) | apply below_alloc | apply pw_below_drewN | apply below_drew1)) hb)
            (try clear hb)
            (try clear hb2)
            (try clear hk)
            (try clear hi)
            (try clear ho0)
            (try clear ho1)
            refine hK.out _ _ ⟨(blk_cell BK861.out 0).trans rfl, (blk_cell BK861.out 1).trans rfl⟩ (fun hHeld => ?_)
            clear hK K
            refine norm_ (a' := ?_) ?_ ?_
            rotate_left
            ·show Act.put _ (some 54) _ = _
             simp only [Act.put, List.setIfInBounds_toArray, List.set_cons_zero, List.set_cons_succ, i64_w, i32_w]
             rfl
            exact norm_ (by simp only [putAll, Act.put, List.setIfInBounds_toArray, List.set_cons_zero, List.set_cons_succ] <;> rfl) (hJ1_4_6 (v872, v875, v878, v881, gb884) _ ⟨hHeld, (by (with_reducible repeat (first | apply Kd.R_alloc | apply Kd.R_drewN | apply Kd.R_drew)); exact Kd.R_mono HO873.out (fun _ hk => hk.2)), (by (with_reducible repeat (first | apply Kd.R_alloc | apply Kd.R_drewN | apply Kd.R_drew)); exact Kd.R_mono HO876.out (fun _ hk => hk.2)), (by (with_reducible repeat (first | apply Kd.R_alloc | apply Kd.R_drewN | apply Kd.R_drew)); exact Kd.R_mono HO879.out (fun _ hk => hk.2)), (by (with_reducible repeat (first | apply Kd.R_alloc | apply Kd.R_drewN | apply Kd.R_drew)); exact Kd.R_mono HO882.out (fun _ hk => hk.2)), (bU BK861.out), (bU BK884.out), GW884.out, GE884.out, NB861_884.out, NB884_861.out, (beU HB.out)⟩)
           ·skip
            refine box_step ?hg (N := 13) ?hd (cs := #[.slice none 0 0, .slice none 0 0]) (t := 86) ?hr ?_; (case hd => rfl); (case hg => rfl); (case hr => first | (go_simp; done) | (go_simp; rfl))
            intro gb883 hg w59 hbox hb
            have BK883 := Aside0.mk (hbox)
            have GW883 := Aside0.mk ((by first | exact geU HB.out hg | (rw [hg]; exact below_size (by repeat (first | exact beU HB.out | refine below_set ?_ (Aside0.out ‹_›) | apply below_alloc | apply pw_below_drewN | apply below_drew1)))))
            have GE883 := Aside0.mk ((by first | exact geU HB.out hg | (rw [hg]; exact below_size (by repeat (first | exact beU HB.out | refine below_set ?_ (Aside0.out ‹_›) | apply below_alloc | apply pw_below_drewN | apply below_drew1)))))
            have NB861_883 := Aside0.mk ((neU BK861.out hg))
            have NB883_861 := Aside0.mk ((enU BK861.out hg))
            have NB884_883 := Aside0.mk ((neU BK884.out hg))
            have NB883_884 := Aside0.mk ((enU BK884.out hg))
            replace HO873 := Aside0.mk (Kd.R_below (rU HO873.out) hb)
            replace HO876 := Aside0.mk (Kd.R_below (rU HO876.out) hb)
            replace BK861 := Aside0.mk (blk_below (bU BK861.out) hb)
            replace BK884 := Aside0.mk (blk_below (bU BK884.out) hb)
            replace HB := Aside0.mk (below_step (by repeat (first | exact beU HB.out | refine below_set ?_ (Aside0.out ‹_›) | apply below_alloc | apply pw_below_drewN | apply below_drew1)) hb)
            clear hb hbox hg
            refine hK.out _ _ ⟨(blk_cell BK861.out 0).trans rfl, (blk_cell BK861.out 1).trans rfl⟩ (fun hHeld => ?_)
            clear hK K
            refine norm_ (a' := ?_) ?_ ?_
            rotate_left
            ·show Act.put _ (some 13) _ = _
             simp only [Act.put, List.setIfInBounds_toArray, List.set_cons_zero, List.set_cons_succ, i64_w, i32_w]
             rfl
            exact norm_ (by simp only [putAll, Act.put, List.setIfInBounds_toArray, List.set_cons_zero, List.set_cons_succ] <;> rfl) (hJ1_5_6 (v872, v875, gb883, gb884) _ ⟨hHeld, (rU HO873.out), (rU HO876.out), (bU BK861.out), (bU BK883.out), (bU BK884.out), GW883.out, GE883.out, NB861_883.out, NB883_861.out, NB884_883.out, NB883_884.out, GW884.out, GE884.out, NB861_884.out, NB884_861.out, (beU HB.out)⟩)
         ·skip
          rintro ⟨v872, v875, gb883⟩ w58 ⟨hS_, h0_, h1_, h2_, h3_, h4_, h5_, h6_, h7_, h8_⟩
          have n0_ : Aside0 (Kd.R Kd.string 9 w58 w.heap.size (fun _ => True) v872 t871) := ⟨h0_⟩
          have n1_ : Aside0 (Kd.R k104 104 w58 w.heap.size (fun _ => True) v875 t874) := ⟨h1_⟩
          have n2_ : Aside0 (w58.heap[gb861]? = some (.cells #[.slice A0_0 l0_0.length c0_0, .slice A0_1 l0_1.length c0_1] 86 (0, 0))) := ⟨h2_⟩
          have n3_ : Aside0 (w58.heap[gb883]? = some (.cells #[.slice none 0 0, .slice none 0 0] 86 (0, 0))) := ⟨h3_⟩
          have n4_ : Aside0 (w.heap.size ≤ gb883) := ⟨h4_⟩
          have n5_ : Aside0 (w.heap.size ≤ gb883) := ⟨h5_⟩
          have n6_ : Aside0 (gb861 ≠ gb883) := ⟨h6_⟩
          have n7_ : Aside0 (gb883 ≠ gb861) := ⟨h7_⟩
          have n8_ : Aside0 (Below w.heap.size w w58) := ⟨h8_⟩
          clear BK861
          clear HB
          clear h0_ h1_ h2_ h3_ h4_ h5_ h6_ h7_ h8_
          have HO873 := n0_
          have HO876 := n1_
          have BK861 := n2_
          have BK883 := n3_
          have GW883 := n4_
          have GE883 := n5_
          have NB861_883 := n6_
          have NB883_861 := n7_
          have HB := n8_
          clear n0_ n1_ n2_ n3_ n4_ n5_ n6_ n7_ n8_
          have hHeld : w58.cell? ⟨gb861, 0, none⟩ = some (.slice A0_0 l0_0.length c0_0) ∧ w58.cell? ⟨gb861, 1, none⟩ = some (.slice A0_1 l0_1.length c0_1) := hS_
          refine norm_ (a' := ?_) ?_ ?_
          rotate_left
          ·simp only [putAll, Act.put, List.setIfInBounds_toArray, List.set_cons_zero, List.set_cons_succ]
           rfl
          refine two_ (i := 4) (j := 6) (Ni := some 54) (Nj := some 14) #[true, true, true, true, true, true, false, false, false] #[true, true, true, true, false, true, true, false, false] rfl rfl rfl rfl (two_of HT_.out (by kernel_rfl)) (by decide) (by decide) (fun K hK => ?_) (fun K hK => ?_)
          ·skip
           refine goes_ Try.func51 (by kernel_rfl) rfl #[.agg #[.slice A0_0 l0_0.length c0_0, .slice A0_1 l0_1.length c0_1], .slice A4 l4.length c4] (by rfl) rfl rfl (by (try simp only [List.map_toArray, List.map_cons, List.map_nil]); first | done | rfl | (simp only [List.length_drop, List.length_take]; rfl)) ?_
           with_reducible refine (disk_Crash.calls _ _ l0_0 _ _ l0_1 _ _ l4 t877 t880 _ ?side1 ?side2 ?side3 ?side4 ?side5 ?side6 A53.out).mono ?_
           (case side1 => repeat (first | exact (Kd.C_below HR0_0.out HB.out) | (with_reducible refine Kd.C_alloc ?_ _) | (with_reducible refine Kd.C_drewN ?_ _) | (with_reducible refine Kd.C_drew ?_)))
           (case side2 => exact HC0_0.out)
           (case side3 => repeat (first | exact (Kd.C_below HR0_1.out HB.out) | (with_reducible refine Kd.C_alloc ?_ _) | (with_reducible refine Kd.C_drewN ?_ _) | (with_reducible refine Kd.C_drew ?_)))
           (case side4 => exact HC0_1.out)
           (case side5 => repeat (first | exact (Kd.C_below HR4.out HB.out) | (with_reducible refine Kd.C_alloc ?_ _) | (with_reducible refine Kd.C_drewN ?_ _) | (with_reducible refine Kd.C_drew ?_)))
           (case side6 => exact HC4.out)
           rintro e w59 ⟨v878, v881, rfl, ho0, ho1, hb⟩
           refine ⟨_, rfl, ?_⟩
           have HO879 := Aside0.mk (Kd.R_lower (Kd.R_new' ho0 (Kd.R_lt (rU HO873.out))) (below_size (by repeat (first | exact beU HB.out | refine below_set ?_ (Aside0.out ‹_›) | apply below_alloc | apply pw_below_drewN | apply below_drew1))))
           have HO882 := Aside0.mk (Kd.R_lower (Kd.R_new' ho1 (Kd.R_lt (rU HO876.out))) (below_size (by repeat (first | exact beU HB.out | refine below_set ?_ (Aside0.out ‹_›) | apply below_alloc | apply pw_below_drewN | apply below_drew1))))
           replace HO873 := Aside0.mk (Kd.R_elder' (rU HO873.out) (Kd.R_base ho0) hb)
           replace HO876 := Aside0.mk (Kd.R_elder' (rU HO876.out) (Kd.R_base ho1) hb)
           replace BK861 := Aside0.mk (blk_below (bU BK861.out) hb)
           replace BK883 := Aside0.mk (blk_below (bU BK883.out) hb)
           replace HB := Aside0.mk (below_step (by repeat (first | exact beU HB.out | refine below_set ?_ (Aside0.out ‹_›) | apply below_alloc | apply pw_below_drewN | apply below_drew1)) hb)
           (try clear hb)
           (try clear hb2)
           (try clear hk)
           (try clear hi)
           (try clear ho0)
           (try clear ho1)
           refine hK.out _ _ ⟨(blk_cell BK861.out 0).trans rfl, (blk_cell BK861.out 1).trans rfl⟩ (fun hHeld => ?_)
           clear hK K
           refine norm_ (a' := ?_) ?_ ?_
           rotate_left
           ·show Act.put _ (some 54) _ = _
            simp only [Act.put, List.setIfInBounds_toArray, List.set_cons_zero, List.set_cons_succ, i64_w, i32_w]
            rfl
           exact norm_ (by simp only [putAll, Act.put, List.setIfInBounds_toArray, List.set_cons_zero, List.set_cons_succ] <;> rfl) (hJ1_4_5 (v872, v875, v878, v881, gb883) _ ⟨hHeld, (by (with_reducible repeat (first | apply Kd.R_alloc | apply Kd.R_drewN | apply Kd.R_drew)); exact Kd.R_mono HO873.out (fun _ hk => hk.2)), (by (with_reducible repeat (first | apply Kd.R_alloc | apply Kd.R_drewN | apply Kd.R_drew)); exact Kd.R_mono HO876.out (fun _ hk => hk.2)), (by (with_reducible repeat (first | apply Kd.R_alloc | apply Kd.R_drewN | apply Kd.R_drew)); exact Kd.R_mono HO879.out (fun _ hk => hk.2)), (by (with_reducible repeat (first | apply Kd.R_alloc | apply Kd.R_drewN | apply Kd.R_drew)); exact Kd.R_mono HO882.out (fun _ hk => hk.2)), (bU BK861.out), (bU BK883.out), GW883.out, GE883.out, NB861_883.out, NB883_861.out, (beU HB.out)⟩)
          ·skip
           refine box_step ?hg (N := 14) ?hd (cs := #[.slice none 0 0, .slice none 0 0]) (t := 86) ?hr ?_; (case hd => rfl); (case hg => rfl); (case hr => first | (go_simp; done) | (go_simp; rfl))
           intro gb884 hg w59 hbox hb
           have BK884 := Aside0.mk (hbox)
           have GW884 := Aside0.mk ((by first | exact geU HB.out hg | (rw [hg]; exact below_size (by repeat (first | exact beU HB.out | refine below_set ?_ (Aside0.out ‹_›) | apply below_alloc | apply pw_below_drewN | apply below_drew1)))))
           have GE884 := Aside0.mk ((by first | exact geU HB.out hg | (rw [hg]; exact below_size (by repeat (first | exact beU HB.out | refine below_set ?_ (Aside0.out ‹_›) | apply below_alloc | apply pw_below_drewN | apply below_drew1)))))
           have NB861_884 := Aside0.mk ((neU BK861.out hg))
           have NB884_861 := Aside0.mk ((enU BK861.out hg))
           have NB883_884 := Aside0.mk ((neU BK883.out hg))
           have NB884_883 := Aside0.mk ((enU BK883.out hg))
           replace HO873 := Aside0.mk (Kd.R_below (rU HO873.out) hb)
           replace HO876 := Aside0.mk (Kd.R_below (rU HO876.out) hb)
           replace BK861 := Aside0.mk (blk_below (bU BK861.out) hb)
           replace BK883 := Aside0.mk (blk_below (bU BK883.out) hb)
           replace HB := Aside0.mk (below_step (by repeat (first | exact beU HB.out | refine below_set ?_ (Aside0.out ‹_›) | apply below_alloc | apply pw_below_drewN | apply below_drew1)) hb)
           clear hb hbox hg
           refine hK.out _ _ ⟨(blk_cell BK861.out 0).trans rfl, (blk_cell BK861.out 1).trans rfl⟩ (fun hHeld => ?_)
           clear hK K
           refine norm_ (a' := ?_) ?_ ?_
           rotate_left
           ·show Act.put _ (some 14) _ = _
            simp only [Act.put, List.setIfInBounds_toArray, List.set_cons_zero, List.set_cons_succ, i64_w, i32_w]
            rfl
           exact norm_ (by simp only [putAll, Act.put, List.setIfInBounds_toArray, List.set_cons_zero, List.set_cons_succ] <;> rfl) (hJ1_5_6 (v872, v875, gb883, gb884) _ ⟨hHeld, (rU HO873.out), (rU HO876.out), (bU BK861.out), (bU BK883.out), (bU BK884.out), GW883.out, GE883.out, NB861_883.out, NB883_861.out, NB884_883.out, NB883_884.out, GW884.out, GE884.out, NB861_884.out, NB884_861.out, (beU HB.out)⟩)
        ·skip
         rintro ⟨v872, v875, v878, v881⟩ w58 ⟨hS_, h0_, h1_, h2_, h3_, h4_, h5_⟩
         have n0_ : Aside0 (Kd.R Kd.string 9 w58 w.heap.size (fun k_ => some k_ ≠ (v878 : Value).ownBlock) v872 t871) := ⟨h0_⟩
         have n1_ : Aside0 (Kd.R k104 104 w58 w.heap.size (fun k_ => some k_ ≠ (v881 : Value).ownBlock) v875 t874) := ⟨h1_⟩
         have n2_ : Aside0 (Kd.R Kd.string 9 w58 w.heap.size (fun k_ => some k_ ≠ (v872 : Value).ownBlock) v878 t877) := ⟨h2_⟩
         have n3_ : Aside0 (Kd.R k104 104 w58 w.heap.size (fun k_ => some k_ ≠ (v875 : Value).ownBlock) v881 t880) := ⟨h3_⟩
         have n4_ : Aside0 (w58.heap[gb861]? = some (.cells #[.slice A0_0 l0_0.length c0_0, .slice A0_1 l0_1.length c0_1] 86 (0, 0))) := ⟨h4_⟩
         have n5_ : Aside0 (Below w.heap.size w w58) := ⟨h5_⟩
         clear BK861
         clear HB
         clear h0_ h1_ h2_ h3_ h4_ h5_
         have HO873 := n0_
         have HO876 := n1_
         have HO879 := n2_
         have HO882 := n3_
         have BK861 := n4_
         have HB := n5_
         clear n0_ n1_ n2_ n3_ n4_ n5_
         have hHeld : w58.cell? ⟨gb861, 0, none⟩ = some (.slice A0_0 l0_0.length c0_0) ∧ w58.cell? ⟨gb861, 1, none⟩ = some (.slice A0_1 l0_1.length c0_1) := hS_
         refine norm_ (a' := ?_) ?_ ?_
         rotate_left
         ·simp only [putAll, Act.put, List.setIfInBounds_toArray, List.set_cons_zero, List.set_cons_succ]
          rfl
         refine two_ (i := 5) (j := 6) (Ni := some 13) (Nj := some 14) #[true, true, true, true, true, true, false, false, false] #[true, true, true, true, true, false, true, false, false] rfl rfl rfl rfl (two_of HT_.out (by kernel_rfl)) (by decide) (by decide) (fun K hK => ?_) (fun K hK => ?_)
         ·skip
          refine box_step ?hg (N := 13) ?hd (cs := #[.slice none 0 0, .slice none 0 0]) (t := 86) ?hr ?_; (case hd => rfl); (case hg => rfl); (case hr => first | (go_simp; done) | (go_simp; rfl))
          intro gb883 hg w59 hbox hb
          have BK883 := Aside0.mk (hbox)
          have GW883 := Aside0.mk ((by first | exact geU HB.out hg | (rw [hg]; exact below_size (by repeat (first | exact beU HB.out | refine below_set ?_ (Aside0.out ‹_›) | apply below_alloc | apply pw_below_drewN | apply below_drew1)))))
          have GE883 := Aside0.mk ((by first | exact geU HB.out hg | (rw [hg]; exact below_size (by repeat (first | exact beU HB.out | refine below_set ?_ (Aside0.out ‹_›) | apply below_alloc | apply pw_below_drewN | apply below_drew1)))))
          have NB861_883 := Aside0.mk ((neU BK861.out hg))
          have NB883_861 := Aside0.mk ((enU BK861.out hg))
          replace HO873 := Aside0.mk (Kd.R_below (rU HO873.out) hb)
          replace HO876 := Aside0.mk (Kd.R_below (rU HO876.out) hb)
          replace HO879 := Aside0.mk (Kd.R_below (rU HO879.out) hb)
          replace HO882 := Aside0.mk (Kd.R_below (rU HO882.out) hb)
          replace BK861 := Aside0.mk (blk_below (bU BK861.out) hb)
          replace HB := Aside0.mk (below_step (by repeat (first | exact beU HB.out | refine below_set ?_ (Aside0.out ‹_›) | apply below_alloc | apply pw_below_drewN | apply below_drew1)) hb)
          clear hb hbox hg
          refine hK.out _ _ ⟨(blk_cell BK861.out 0).trans rfl, (blk_cell BK861.out 1).trans rfl⟩ (fun hHeld => ?_)
          clear hK K
          refine norm_ (a' := ?_) ?_ ?_
          rotate_left
          ·show Act.put _ (some 13) _ = _
           simp only [Act.put, List.setIfInBounds_toArray, List.set_cons_zero, List.set_cons_succ, i64_w, i32_w]
           rfl
          exact norm_ (by simp only [putAll, Act.put, List.setIfInBounds_toArray, List.set_cons_zero, List.set_cons_succ] <;> rfl) (hJ1_4_5 (v872, v875, v878, v881, gb883) _ ⟨hHeld, (rU HO873.out), (rU HO876.out), (rU HO879.out), (rU HO882.out), (bU BK861.out), (bU BK883.out), GW883.out, GE883.out, NB861_883.out, NB883_861.out, (beU HB.out)⟩)
         ·skip
          refine box_step ?hg (N := 14) ?hd (cs := #[.slice none 0 0, .slice none 0 0]) (t := 86) ?hr ?_; (case hd => rfl); (case hg => rfl); (case hr => first | (go_simp; done) | (go_simp; rfl))
          intro gb884 hg w59 hbox hb
          have BK884 := Aside0.mk (hbox)
          have GW884 := Aside0.mk ((by first | exact geU HB.out hg | (rw [hg]; exact below_size (by repeat (first | exact beU HB.out | refine below_set ?_ (Aside0.out ‹_›) | apply below_alloc | apply pw_below_drewN | apply below_drew1)))))
          have GE884 := Aside0.mk ((by first | exact geU HB.out hg | (rw [hg]; exact below_size (by repeat (first | exact beU HB.out | refine below_set ?_ (Aside0.out ‹_›) | apply below_alloc | apply pw_below_drewN | apply below_drew1)))))
          have NB861_884 := Aside0.mk ((neU BK861.out hg))
          have NB884_861 := Aside0.mk ((enU BK861.out hg))
          replace HO873 := Aside0.mk (Kd.R_below (rU HO873.out) hb)
          replace HO876 := Aside0.mk (Kd.R_below (rU HO876.out) hb)
          replace HO879 := Aside0.mk (Kd.R_below (rU HO879.out) hb)
          replace HO882 := Aside0.mk (Kd.R_below (rU HO882.out) hb)
          replace BK861 := Aside0.mk (blk_below (bU BK861.out) hb)
          replace HB := Aside0.mk (below_step (by repeat (first | exact beU HB.out | refine below_set ?_ (Aside0.out ‹_›) | apply below_alloc | apply pw_below_drewN | apply below_drew1)) hb)
          clear hb hbox hg
          refine hK.out _ _ ⟨(blk_cell BK861.out 0).trans rfl, (blk_cell BK861.out 1).trans rfl⟩ (fun hHeld => ?_)
          clear hK K
          refine norm_ (a' := ?_) ?_ ?_
          rotate_left
          ·show Act.put _ (some 14) _ = _
           simp only [Act.put, List.setIfInBounds_toArray, List.set_cons_zero, List.set_cons_succ, i64_w, i32_w]
           rfl
          exact norm_ (by simp only [putAll, Act.put, List.setIfInBounds_toArray, List.set_cons_zero, List.set_cons_succ] <;> rfl) (hJ1_4_6 (v872, v875, v878, v881, gb884) _ ⟨hHeld, (rU HO873.out), (rU HO876.out), (rU HO879.out), (rU HO882.out), (bU BK861.out), (bU BK884.out), GW884.out, GE884.out, NB861_884.out, NB884_861.out, (beU HB.out)⟩)
       ·skip
        rintro ⟨v872, v875, gb883, gb884⟩ w59 ⟨hS_, h0_, h1_, h2_, h3_, h4_, h5_, h6_, h7_, h8_, h9_, h10_, h11_, h12_, h13_, h14_, h15_⟩
        have n0_ : Aside0 (Kd.R Kd.string 9 w59 w.heap.size (fun _ => True) v872 t871) := ⟨h0_⟩
        have n1_ : Aside0 (Kd.R k104 104 w59 w.heap.size (fun _ => True) v875 t874) := ⟨h1_⟩
        have n2_ : Aside0 (w59.heap[gb861]? = some (.cells #[.slice A0_0 l0_0.length c0_0, .slice A0_1 l0_1.length c0_1] 86 (0, 0))) := ⟨h2_⟩
        have n3_ : Aside0 (w59.heap[gb883]? = some (.cells #[.slice none 0 0, .slice none 0 0] 86 (0, 0))) := ⟨h3_⟩
        have n4_ : Aside0 (w59.heap[gb884]? = some (.cells #[.slice none 0 0, .slice none 0 0] 86 (0, 0))) := ⟨h4_⟩
        have n5_ : Aside0 (w.heap.size ≤ gb883) := ⟨h5_⟩
        have n6_ : Aside0 (w.heap.size ≤ gb883) := ⟨h6_⟩
        have n7_ : Aside0 (gb861 ≠ gb883) := ⟨h7_⟩
        have n8_ : Aside0 (gb883 ≠ gb861) := ⟨h8_⟩
        have n9_ : Aside0 (gb884 ≠ gb883) := ⟨h9_⟩
        have n10_ : Aside0 (gb883 ≠ gb884) := ⟨h10_⟩
        have n11_ : Aside0 (w.heap.size ≤ gb884) := ⟨h11_⟩
        have n12_ : Aside0 (w.heap.size ≤ gb884) := ⟨h12_⟩
        have n13_ : Aside0 (gb861 ≠ gb884) := ⟨h13_⟩
        have n14_ : Aside0 (gb884 ≠ gb861) := ⟨h14_⟩
        have n15_ : Aside0 (Below w.heap.size w w59) := ⟨h15_⟩
        clear BK861
        clear HB
        clear h0_ h1_ h2_ h3_ h4_ h5_ h6_ h7_ h8_ h9_ h10_ h11_ h12_ h13_ h14_ h15_
        have HO873 := n0_
        have HO876 := n1_
        have BK861 := n2_
        have BK883 := n3_
        have BK884 := n4_
        have GW883 := n5_
        have GE883 := n6_
        have NB861_883 := n7_
        have NB883_861 := n8_
        have NB884_883 := n9_
        have NB883_884 := n10_
        have GW884 := n11_
        have GE884 := n12_
        have NB861_884 := n13_
        have NB884_861 := n14_
        have HB := n15_
        clear n0_ n1_ n2_ n3_ n4_ n5_ n6_ n7_ n8_ n9_ n10_ n11_ n12_ n13_ n14_ n15_
        have hHeld : w59.cell? ⟨gb861, 0, none⟩ = some (.slice A0_0 l0_0.length c0_0) ∧ w59.cell? ⟨gb861, 1, none⟩ = some (.slice A0_1 l0_1.length c0_1) := hS_
        refine norm_ (a' := ?_) ?_ ?_
        rotate_left
        ·simp only [putAll, Act.put, List.setIfInBounds_toArray, List.set_cons_zero, List.set_cons_succ]
         rfl
        refine one_ (i := 4) (N := some 54) #[true, true, true, true, true, true, true, false, false] rfl rfl (one_of HT_.out (by kernel_rfl)) (by decide) (fun K hK => ?_)
        refine goes_ Try.func51 (by kernel_rfl) rfl #[.agg #[.slice A0_0 l0_0.length c0_0, .slice A0_1 l0_1.length c0_1], .slice A4 l4.length c4] (by rfl) rfl rfl (by (try simp only [List.map_toArray, List.map_cons, List.map_nil]); first | done | rfl | (simp only [List.length_drop, List.length_take]; rfl)) ?_
        with_reducible refine (disk_Crash.calls _ _ l0_0 _ _ l0_1 _ _ l4 t877 t880 _ ?side1 ?side2 ?side3 ?side4 ?side5 ?side6 A53.out).mono ?_
        (case side1 => repeat (first | exact (Kd.C_below HR0_0.out HB.out) | (with_reducible refine Kd.C_alloc ?_ _) | (with_reducible refine Kd.C_drewN ?_ _) | (with_reducible refine Kd.C_drew ?_)))
        (case side2 => exact HC0_0.out)
        (case side3 => repeat (first | exact (Kd.C_below HR0_1.out HB.out) | (with_reducible refine Kd.C_alloc ?_ _) | (with_reducible refine Kd.C_drewN ?_ _) | (with_reducible refine Kd.C_drew ?_)))
        (case side4 => exact HC0_1.out)
        (case side5 => repeat (first | exact (Kd.C_below HR4.out HB.out) | (with_reducible refine Kd.C_alloc ?_ _) | (with_reducible refine Kd.C_drewN ?_ _) | (with_reducible refine Kd.C_drew ?_)))
        (case side6 => exact HC4.out)
        rintro e w60 ⟨v878, v881, rfl, ho0, ho1, hb⟩
        refine ⟨_, rfl, ?_⟩
        have HO879 := Aside0.mk (Kd.R_lower (Kd.R_new' ho0 (Kd.R_lt (rU HO873.out))) (below_size (by repeat (first | exact beU HB.out | refine below_set ?_ (Aside0.out ‹_›) | apply below_alloc | apply pw_below_drewN | apply below_drew1))))
        have HO882 := Aside0.mk (Kd.R_lower (Kd.R_new' ho1 (Kd.R_lt (rU HO876.out))) (below_size (by repeat (first | exact beU HB.out | refine below_set ?_ (Aside0.out ‹_›) | apply below_alloc | apply pw_below_drewN | apply below_drew1))))
        replace HO873 := Aside0.mk (Kd.R_elder' (rU HO873.out) (Kd.R_base ho0) hb)
        replace HO876 := Aside0.mk (Kd.R_elder' (rU HO876.out) (Kd.R_base ho1) hb)
        replace BK861 := Aside0.mk (blk_below (bU BK861.out) hb)
        replace BK883 := Aside0.mk (blk_below (bU BK883.out) hb)
        replace BK884 := Aside0.mk (blk_below (bU BK884.out) hb)
        replace HB := Aside0.mk (below_step (by repeat (first | exact beU HB.out | refine below_set ?_ (Aside0.out ‹_›) | apply below_alloc | apply pw_below_drewN | apply below_drew1)) hb)
        (try clear hb)
        (try clear hb2)
        (try clear hk)
        (try clear hi)
        (try clear ho0)
        (try clear ho1)
        refine hK.out _ _ ⟨(blk_cell BK861.out 0).trans rfl, (blk_cell BK861.out 1).trans rfl⟩ (fun hHeld => ?_)
        clear hK K
        refine norm_ (a' := ?_) ?_ ?_
        rotate_left
        ·show Act.put _ (some 54) _ = _
         simp only [Act.put, List.setIfInBounds_toArray, List.set_cons_zero, List.set_cons_succ, i64_w, i32_w]
         rfl
        exact norm_ (by simp only [putAll, Act.put, List.setIfInBounds_toArray, List.set_cons_zero, List.set_cons_succ] <;> rfl) (hJ1_4_5_6 (v872, v875, v878, v881, gb883, gb884) _ ⟨hHeld, (by (with_reducible repeat (first | apply Kd.R_alloc | apply Kd.R_drewN | apply Kd.R_drew)); exact Kd.R_mono HO873.out (fun _ hk => hk.2)), (by (with_reducible repeat (first | apply Kd.R_alloc | apply Kd.R_drewN | apply Kd.R_drew)); exact Kd.R_mono HO876.out (fun _ hk => hk.2)), (by (with_reducible repeat (first | apply Kd.R_alloc | apply Kd.R_drewN | apply Kd.R_drew)); exact Kd.R_mono HO879.out (fun _ hk => hk.2)), (by (with_reducible repeat (first | apply Kd.R_alloc | apply Kd.R_drewN | apply Kd.R_drew)); exact Kd.R_mono HO882.out (fun _ hk => hk.2)), (bU BK861.out), (bU BK883.out), (bU BK884.out), GW883.out, GE883.out, NB861_883.out, NB883_861.out, NB884_883.out, NB883_884.out, GW884.out, GE884.out, NB861_884.out, NB884_861.out, (beU HB.out)⟩)
      ·skip
       rintro ⟨v872, v875, v878, v881, gb884⟩ w59 ⟨hS_, h0_, h1_, h2_, h3_, h4_, h5_, h6_, h7_, h8_, h9_, h10_⟩
       have n0_ : Aside0 (Kd.R Kd.string 9 w59 w.heap.size (fun k_ => some k_ ≠ (v878 : Value).ownBlock) v872 t871) := ⟨h0_⟩
       have n1_ : Aside0 (Kd.R k104 104 w59 w.heap.size (fun k_ => some k_ ≠ (v881 : Value).ownBlock) v875 t874) := ⟨h1_⟩
       have n2_ : Aside0 (Kd.R Kd.string 9 w59 w.heap.size (fun k_ => some k_ ≠ (v872 : Value).ownBlock) v878 t877) := ⟨h2_⟩
       have n3_ : Aside0 (Kd.R k104 104 w59 w.heap.size (fun k_ => some k_ ≠ (v875 : Value).ownBlock) v881 t880) := ⟨h3_⟩
       have n4_ : Aside0 (w59.heap[gb861]? = some (.cells #[.slice A0_0 l0_0.length c0_0, .slice A0_1 l0_1.length c0_1] 86 (0, 0))) := ⟨h4_⟩
       have n5_ : Aside0 (w59.heap[gb884]? = some (.cells #[.slice none 0 0, .slice none 0 0] 86 (0, 0))) := ⟨h5_⟩
       have n6_ : Aside0 (w.heap.size ≤ gb884) := ⟨h6_⟩
       have n7_ : Aside0 (w.heap.size ≤ gb884) := ⟨h7_⟩
       have n8_ : Aside0 (gb861 ≠ gb884) := ⟨h8_⟩
       have n9_ : Aside0 (gb884 ≠ gb861) := ⟨h9_⟩
       have n10_ : Aside0 (Below w.heap.size w w59) := ⟨h10_⟩
       clear BK861
       clear HB
       clear h0_ h1_ h2_ h3_ h4_ h5_ h6_ h7_ h8_ h9_ h10_
       have HO873 := n0_
       have HO876 := n1_
       have HO879 := n2_
       have HO882 := n3_
       have BK861 := n4_
       have BK884 := n5_
       have GW884 := n6_
       have GE884 := n7_
       have NB861_884 := n8_
       have NB884_861 := n9_
       have HB := n10_
       clear n0_ n1_ n2_ n3_ n4_ n5_ n6_ n7_ n8_ n9_ n10_
       have hHeld : w59.cell? ⟨gb861, 0, none⟩ = some (.slice A0_0 l0_0.length c0_0) ∧ w59.cell? ⟨gb861, 1, none⟩ = some (.slice A0_1 l0_1.length c0_1) := hS_
       refine norm_ (a' := ?_) ?_ ?_
       rotate_left
       ·simp only [putAll, Act.put, List.setIfInBounds_toArray, List.set_cons_zero, List.set_cons_succ]
        rfl
       refine one_ (i := 5) (N := some 13) #[true, true, true, true, true, true, true, false, false] rfl rfl (one_of HT_.out (by kernel_rfl)) (by decide) (fun K hK => ?_)
       refine box_step ?hg (N := 13) ?hd (cs := #[.slice none 0 0, .slice none 0 0]) (t := 86) ?hr ?_; (case hd => rfl); (case hg => rfl); (case hr => first | (go_simp; done) | (go_simp; rfl))
       intro gb883 hg w60 hbox hb
       have BK883 := Aside0.mk (hbox)
       have GW883 := Aside0.mk ((by first | exact geU HB.out hg | (rw [hg]; exact below_size (by repeat (first | exact beU HB.out | refine below_set ?_ (Aside0.out ‹_›) | apply below_alloc | apply pw_below_drewN | apply below_drew1)))))
       have GE883 := Aside0.mk ((by first | exact geU HB.out hg | (rw [hg]; exact below_size (by repeat (first | exact beU HB.out | refine below_set ?_ (Aside0.out ‹_›) | apply below_alloc | apply pw_below_drewN | apply below_drew1)))))
       have NB861_883 := Aside0.mk ((neU BK861.out hg))
       have NB883_861 := Aside0.mk ((enU BK861.out hg))
       have NB884_883 := Aside0.mk ((neU BK884.out hg))
       have NB883_884 := Aside0.mk ((enU BK884.out hg))
       replace HO873 := Aside0.mk (Kd.R_below (rU HO873.out) hb)
       replace HO876 := Aside0.mk (Kd.R_below (rU HO876.out) hb)
       replace HO879 := Aside0.mk (Kd.R_below (rU HO879.out) hb)
       replace HO882 := Aside0.mk (Kd.R_below (rU HO882.out) hb)
       replace BK861 := Aside0.mk (blk_below (bU BK861.out) hb)
       replace BK884 := Aside0.mk (blk_below (bU BK884.out) hb)
       replace HB := Aside0.mk (below_step (by repeat (first | exact beU HB.out | refine below_set ?_ (Aside0.out ‹_›) | apply below_alloc | apply pw_below_drewN | apply below_drew1)) hb)
       clear hb hbox hg
       refine hK.out _ _ ⟨(blk_cell BK861.out 0).trans rfl, (blk_cell BK861.out 1).trans rfl⟩ (fun hHeld => ?_)
       clear hK K
       refine norm_ (a' := ?_) ?_ ?_
       rotate_left
       ·show Act.put _ (some 13) _ = _
        simp only [Act.put, List.setIfInBounds_toArray, List.set_cons_zero, List.set_cons_succ, i64_w, i32_w]
        rfl
       exact norm_ (by simp only [putAll, Act.put, List.setIfInBounds_toArray, List.set_cons_zero, List.set_cons_succ] <;> rfl) (hJ1_4_5_6 (v872, v875, v878, v881, gb883, gb884) _ ⟨hHeld, (rU HO873.out), (rU HO876.out), (rU HO879.out), (rU HO882.out), (bU BK861.out), (bU BK883.out), (bU BK884.out), GW883.out, GE883.out, NB861_883.out, NB883_861.out, NB884_883.out, NB883_884.out, GW884.out, GE884.out, NB861_884.out, NB884_861.out, (beU HB.out)⟩)
     ·skip
      rintro ⟨v872, v875, v878, v881, gb883⟩ w59 ⟨hS_, h0_, h1_, h2_, h3_, h4_, h5_, h6_, h7_, h8_, h9_, h10_⟩
      have n0_ : Aside0 (Kd.R Kd.string 9 w59 w.heap.size (fun k_ => some k_ ≠ (v878 : Value).ownBlock) v872 t871) := ⟨h0_⟩
      have n1_ : Aside0 (Kd.R k104 104 w59 w.heap.size (fun k_ => some k_ ≠ (v881 : Value).ownBlock) v875 t874) := ⟨h1_⟩
      have n2_ : Aside0 (Kd.R Kd.string 9 w59 w.heap.size (fun k_ => some k_ ≠ (v872 : Value).ownBlock) v878 t877) := ⟨h2_⟩
      have n3_ : Aside0 (Kd.R k104 104 w59 w.heap.size (fun k_ => some k_ ≠ (v875 : Value).ownBlock) v881 t880) := ⟨h3_⟩
      have n4_ : Aside0 (w59.heap[gb861]? = some (.cells #[.slice A0_0 l0_0.length c0_0, .slice A0_1 l0_1.length c0_1] 86 (0, 0))) := ⟨h4_⟩
      have n5_ : Aside0 (w59.heap[gb883]? = some (.cells #[.slice none 0 0, .slice none 0 0] 86 (0, 0))) := ⟨h5_⟩
      have n6_ : Aside0 (w.heap.size ≤ gb883) := ⟨h6_⟩
      have n7_ : Aside0 (w.heap.size ≤ gb883) := ⟨h7_⟩
      have n8_ : Aside0 (gb861 ≠ gb883) := ⟨h8_⟩
      have n9_ : Aside0 (gb883 ≠ gb861) := ⟨h9_⟩
      have n10_ : Aside0 (Below w.heap.size w w59) := ⟨h10_⟩
      clear BK861
      clear HB
      clear h0_ h1_ h2_ h3_ h4_ h5_ h6_ h7_ h8_ h9_ h10_
      have HO873 := n0_
      have HO876 := n1_
      have HO879 := n2_
      have HO882 := n3_
      have BK861 := n4_
      have BK883 := n5_
      have GW883 := n6_
      have GE883 := n7_
      have NB861_883 := n8_
      have NB883_861 := n9_
      have HB := n10_
      clear n0_ n1_ n2_ n3_ n4_ n5_ n6_ n7_ n8_ n9_ n10_
      have hHeld : w59.cell? ⟨gb861, 0, none⟩ = some (.slice A0_0 l0_0.length c0_0) ∧ w59.cell? ⟨gb861, 1, none⟩ = some (.slice A0_1 l0_1.length c0_1) := hS_
      refine norm_ (a' := ?_) ?_ ?_
      rotate_left
      ·simp only [putAll, Act.put, List.setIfInBounds_toArray, List.set_cons_zero, List.set_cons_succ]
       rfl
      refine one_ (i := 6) (N := some 14) #[true, true, true, true, true, true, true, false, false] rfl rfl (one_of HT_.out (by kernel_rfl)) (by decide) (fun K hK => ?_)
      refine box_step ?hg (N := 14) ?hd (cs := #[.slice none 0 0, .slice none 0 0]) (t := 86) ?hr ?_; (case hd => rfl); (case hg => rfl); (case hr => first | (go_simp; done) | (go_simp; rfl))
      intro gb884 hg w60 hbox hb
      have BK884 := Aside0.mk (hbox)
      have GW884 := Aside0.mk ((by first | exact geU HB.out hg | (rw [hg]; exact below_size (by repeat (first | exact beU HB.out | refine below_set ?_ (Aside0.out ‹_›) | apply below_alloc | apply pw_below_drewN | apply below_drew1)))))
      have GE884 := Aside0.mk ((by first | exact geU HB.out hg | (rw [hg]; exact below_size (by repeat (first | exact beU HB.out | refine below_set ?_ (Aside0.out ‹_›) | apply below_alloc | apply pw_below_drewN | apply below_drew1)))))
      have NB861_884 := Aside0.mk ((neU BK861.out hg))
      have NB884_861 := Aside0.mk ((enU BK861.out hg))
      have NB883_884 := Aside0.mk ((neU BK883.out hg))
      have NB884_883 := Aside0.mk ((enU BK883.out hg))
      replace HO873 := Aside0.mk (Kd.R_below (rU HO873.out) hb)
      replace HO876 := Aside0.mk (Kd.R_below (rU HO876.out) hb)
      replace HO879 := Aside0.mk (Kd.R_below (rU HO879.out) hb)
      replace HO882 := Aside0.mk (Kd.R_below (rU HO882.out) hb)
      replace BK861 := Aside0.mk (blk_below (bU BK861.out) hb)
      replace BK883 := Aside0.mk (blk_below (bU BK883.out) hb)
      replace HB := Aside0.mk (below_step (by repeat (first | exact beU HB.out | refine below_set ?_ (Aside0.out ‹_›) | apply below_alloc | apply pw_below_drewN | apply below_drew1)) hb)
      clear hb hbox hg
      refine hK.out _ _ ⟨(blk_cell BK861.out 0).trans rfl, (blk_cell BK861.out 1).trans rfl⟩ (fun hHeld => ?_)
      clear hK K
      refine norm_ (a' := ?_) ?_ ?_
      rotate_left
      ·show Act.put _ (some 14) _ = _
       simp only [Act.put, List.setIfInBounds_toArray, List.set_cons_zero, List.set_cons_succ, i64_w, i32_w]
       rfl
      exact norm_ (by simp only [putAll, Act.put, List.setIfInBounds_toArray, List.set_cons_zero, List.set_cons_succ] <;> rfl) (hJ1_4_5_6 (v872, v875, v878, v881, gb883, gb884) _ ⟨hHeld, (rU HO873.out), (rU HO876.out), (rU HO879.out), (rU HO882.out), (bU BK861.out), (bU BK883.out), (bU BK884.out), GW883.out, GE883.out, NB861_883.out, NB883_861.out, NB884_883.out, NB883_884.out, GW884.out, GE884.out, NB861_884.out, NB884_861.out, (beU HB.out)⟩)
    rintro ⟨v872, v875, v878, v881, gb883, gb884⟩ w60 ⟨hS_, h0_, h1_, h2_, h3_, h4_, h5_, h6_, h7_, h8_, h9_, h10_, h11_, h12_, h13_, h14_, h15_, h16_, h17_⟩
    have n0_ : Aside0 (Kd.R Kd.string 9 w60 w.heap.size (fun k_ => some k_ ≠ (v878 : Value).ownBlock) v872 t871) := ⟨h0_⟩
    have n1_ : Aside0 (Kd.R k104 104 w60 w.heap.size (fun k_ => some k_ ≠ (v881 : Value).ownBlock) v875 t874) := ⟨h1_⟩
    have n2_ : Aside0 (Kd.R Kd.string 9 w60 w.heap.size (fun k_ => some k_ ≠ (v872 : Value).ownBlock) v878 t877) := ⟨h2_⟩
    have n3_ : Aside0 (Kd.R k104 104 w60 w.heap.size (fun k_ => some k_ ≠ (v875 : Value).ownBlock) v881 t880) := ⟨h3_⟩
    have n4_ : Aside0 (w60.heap[gb861]? = some (.cells #[.slice A0_0 l0_0.length c0_0, .slice A0_1 l0_1.length c0_1] 86 (0, 0))) := ⟨h4_⟩
    have n5_ : Aside0 (w60.heap[gb883]? = some (.cells #[.slice none 0 0, .slice none 0 0] 86 (0, 0))) := ⟨h5_⟩
    have n6_ : Aside0 (w60.heap[gb884]? = some (.cells #[.slice none 0 0, .slice none 0 0] 86 (0, 0))) := ⟨h6_⟩
    have n7_ : Aside0 (w.heap.size ≤ gb883) := ⟨h7_⟩
    have n8_ : Aside0 (w.heap.size ≤ gb883) := ⟨h8_⟩
    have n9_ : Aside0 (gb861 ≠ gb883) := ⟨h9_⟩
    have n10_ : Aside0 (gb883 ≠ gb861) := ⟨h10_⟩
    have n11_ : Aside0 (gb884 ≠ gb883) := ⟨h11_⟩
    have n12_ : Aside0 (gb883 ≠ gb884) := ⟨h12_⟩
    have n13_ : Aside0 (w.heap.size ≤ gb884) := ⟨h13_⟩
    have n14_ : Aside0 (w.heap.size ≤ gb884) := ⟨h14_⟩
    have n15_ : Aside0 (gb861 ≠ gb884) := ⟨h15_⟩
    have n16_ : Aside0 (gb884 ≠ gb861) := ⟨h16_⟩
    have n17_ : Aside0 (Below w.heap.size w w60) := ⟨h17_⟩
    clear BK861
    clear HB
    clear h0_ h1_ h2_ h3_ h4_ h5_ h6_ h7_ h8_ h9_ h10_ h11_ h12_ h13_ h14_ h15_ h16_ h17_
    have HO873 := n0_
    have HO876 := n1_
    have HO879 := n2_
    have HO882 := n3_
    have BK861 := n4_
    have BK883 := n5_
    have BK884 := n6_
    have GW883 := n7_
    have GE883 := n8_
    have NB861_883 := n9_
    have NB883_861 := n10_
    have NB884_883 := n11_
    have NB883_884 := n12_
    have GW884 := n13_
    have GE884 := n14_
    have NB861_884 := n15_
    have NB884_861 := n16_
    have HB := n17_
    clear n0_ n1_ n2_ n3_ n4_ n5_ n6_ n7_ n8_ n9_ n10_ n11_ n12_ n13_ n14_ n15_ n16_ n17_
    have hHeld : w60.cell? ⟨gb861, 0, none⟩ = some (.slice A0_0 l0_0.length c0_0) ∧ w60.cell? ⟨gb861, 1, none⟩ = some (.slice A0_1 l0_1.length c0_1) := hS_
    obtain ⟨Ao61, co61, eo61⟩ := Kd.R_slice HO873.out
    (first | subst eo61 | (injection eo61 with f1_ f2_ f3_; have f4_ := f1_.symm; have f5_ := f3_.symm; clear f1_ f2_ f3_; subst f4_; subst f5_))
    obtain ⟨Ao63, co63, eo63⟩ := Kd.R_slice HO876.out
    (first | subst eo63 | (injection eo63 with f1_ f2_ f3_; have f4_ := f1_.symm; have f5_ := f3_.symm; clear f1_ f2_ f3_; subst f4_; subst f5_))
    obtain ⟨Ao65, co65, eo65⟩ := Kd.R_slice HO879.out
    (first | subst eo65 | (injection eo65 with f1_ f2_ f3_; have f4_ := f1_.symm; have f5_ := f3_.symm; clear f1_ f2_ f3_; subst f4_; subst f5_))
    obtain ⟨Ao67, co67, eo67⟩ := Kd.R_slice HO882.out
    (first | subst eo67 | (injection eo67 with f1_ f2_ f3_; have f4_ := f1_.symm; have f5_ := f3_.symm; clear f1_ f2_ f3_; subst f4_; subst f5_))
    refine norm_ (a' := ?_) ?_ ?_
    rotate_left
    ·simp only [putAll, Act.put, List.setIfInBounds_toArray, List.set_cons_zero, List.set_cons_succ]
     rfl
    refine one_ (i := 7) (N := none) #[true, true, true, true, true, true, true, true, false] rfl rfl (one_of HT_.out (by kernel_rfl)) (by decide) (fun K hK => ?_)
    have hs62 : w60.cell? ⟨gb883, 0, none⟩ = some (.slice none 0 0) := (blk_cell BK883.out 0).trans rfl
    have hfs62 := blk_frozen BK883.out 0
    have hns62_0 := NB861_883.out
    have hns62_2 := NB884_883.out
    have hms62_0 := NB883_861.out
    have hms62_2 := NB883_884.out
    have hs64 : w60.cell? ⟨gb883, 1, none⟩ = some (.slice none 0 0) := (blk_cell BK883.out 1).trans rfl
    have hfs64 := blk_frozen BK883.out 1
    have hns64_0 := NB861_883.out
    have hns64_2 := NB884_883.out
    have hms64_0 := NB883_861.out
    have hms64_2 := NB883_884.out
    refine skip_ (w1 := ?_) (by rfl) rfl ?_ ?_
    rotate_left
    ·go_simp
     rfl
    refine hK.out _ _ ⟨((cell_far (p := ⟨gb883, _, none⟩) NB861_883.out _).trans (((cell_far (p := ⟨gb883, _, none⟩) NB861_883.out _).trans (hHeld.1)))), ((cell_far (p := ⟨gb883, _, none⟩) NB861_883.out _).trans (((cell_far (p := ⟨gb883, _, none⟩) NB861_883.out _).trans (hHeld.2))))⟩ (fun hHeld => ?_)
    clear hK K
    refine one_ (i := 8) (N := none) #[true, true, true, true, true, true, true, true, true] rfl rfl (one_of HT_.out (by kernel_rfl)) (by decide) (fun K hK => ?_)
    have hs66 : w60.cell? ⟨gb884, 0, none⟩ = some (.slice none 0 0) := (blk_cell BK884.out 0).trans rfl
    have hfs66 := blk_frozen BK884.out 0
    have hns66_0 := NB861_884.out
    have hns66_1 := NB883_884.out
    have hms66_0 := NB884_861.out
    have hms66_1 := NB884_883.out
    have hs68 : w60.cell? ⟨gb884, 1, none⟩ = some (.slice none 0 0) := (blk_cell BK884.out 1).trans rfl
    have hfs68 := blk_frozen BK884.out 1
    have hns68_0 := NB861_884.out
    have hns68_1 := NB883_884.out
    have hms68_0 := NB884_861.out
    have hms68_1 := NB884_883.out
    refine skip_ (w1 := ?_) (by rfl) rfl ?_ ?_
    rotate_left
    ·go_simp
     rfl
    refine hK.out _ _ ⟨((cell_far (p := ⟨gb884, _, none⟩) NB861_884.out _).trans (((cell_far (p := ⟨gb884, _, none⟩) NB861_884.out _).trans (hHeld.1)))), ((cell_far (p := ⟨gb884, _, none⟩) NB861_884.out _).trans (((cell_far (p := ⟨gb884, _, none⟩) NB861_884.out _).trans (hHeld.2))))⟩ (fun hHeld => ?_)
    clear hK K
    refine done_ (done_of HT_.out (by kernel_rfl)) ?_
    go_upto_region 4 with (fail)
    go_cut [77] (fun v77 wc => ∃ (kq : Nat) (x77_53 : Bool), v77 = .bool x77_53 ∧ Aside0 (weirkeeperlaw04_DiskOnce.j1 kq a1 l2 l3 x77_53 l0_0 l0_1 = some true) ∧ Aside0 (kq ≤ kj6) ∧ Aside0 (Kd.R Kd.string 9 wc w.heap.size (fun k_ => some k_ ≠ ((.slice Ao65 t877.length co65) : Value).ownBlock) (.slice Ao61 t871.length co61) t871) ∧ Aside0 (Kd.R k104 104 wc w.heap.size (fun k_ => some k_ ≠ ((.slice Ao67 t880.length co67) : Value).ownBlock) (.slice Ao63 t874.length co63) t874) ∧ Aside0 (Kd.R Kd.string 9 wc w.heap.size (fun k_ => some k_ ≠ ((.slice Ao61 t871.length co61) : Value).ownBlock) (.slice Ao65 t877.length co65) t877) ∧ Aside0 (Kd.R k104 104 wc w.heap.size (fun k_ => some k_ ≠ ((.slice Ao63 t874.length co63) : Value).ownBlock) (.slice Ao67 t880.length co67) t880) ∧ Aside0 (wc.heap[gb861]? = some (.cells #[(.slice A0_0 l0_0.length c0_0), (.slice A0_1 l0_1.length c0_1)] 86 (0, 0))) ∧ Aside0 (wc.heap[gb883]? = some (.cells #[(.slice Ao61 t871.length co61), (.slice Ao63 t874.length co63)] 86 (0, 0))) ∧ Aside0 (wc.heap[gb884]? = some (.cells #[(.slice Ao65 t877.length co65), (.slice Ao67 t880.length co67)] 86 (0, 0))) ∧ Aside0 (Below w.heap.size w wc))
    case first =>
     have H := HC54.out
     clear HC54
     replace H := Option.bind_eq_some_iff.mp H
     obtain ⟨⟨t885, t888⟩, A690, H⟩ := H
     try dsimp only at H
     have A69 := Aside0.mk A690
     clear A690
     replace H := Option.bind_eq_some_iff.mp H
     obtain ⟨⟨t891, t894⟩, A700, H⟩ := H
     try dsimp only at H
     have A70 := Aside0.mk A700
     clear A700
     replace H := Option.bind_eq_some_iff.mp H
     obtain ⟨t897, A710, H⟩ := H
     try dsimp only at H
     have A71 := Aside0.mk A710
     clear A710
     by_cases c72 : t897 = true
     ·subst c72
      have H1 : ((disk_Crash.f t877 t880 l5).bind fun bt898 => ((weirkeeperlaw04_Ref.f kj6 t877 t880).bind fun bt904 => ((weirkeeperlaw04_same.f kj6 bt898.1 bt898.2 bt904.1 bt904.2).bind fun t910 => (if t910 = true then ((disk_Flush.f t877 t880).bind fun bt911 => ((weirkeeperlaw04_Ref.f kj6 t877 t880).bind fun bt917 => ((weirkeeperlaw04_same.f kj6 bt911.1 bt911.2 bt917.1 bt917.2).bind fun t923 => (weirkeeperlaw04_DiskOnce.j1 kj6 a1 l2 l3 (!t923) l0_0 l0_1)))) else (weirkeeperlaw04_DiskOnce.j1 kj6 a1 l2 l3 true l0_0 l0_1))))) = some true := by rw [if_pos rfl] at H; exact H
      clear H
      have H := H1
      clear H1
      replace H := Option.bind_eq_some_iff.mp H
      obtain ⟨⟨t898, t901⟩, A730, H⟩ := H
      try dsimp only at H
      have A73 := Aside0.mk A730
      clear A730
      replace H := Option.bind_eq_some_iff.mp H
      obtain ⟨⟨t904, t907⟩, A740, H⟩ := H
      try dsimp only at H
      have A74 := Aside0.mk A740
      clear A740
      replace H := Option.bind_eq_some_iff.mp H
      obtain ⟨t910, A750, H⟩ := H
      try dsimp only at H
      have A75 := Aside0.mk A750
      clear A750
      by_cases c76 : t910 = true
      ·subst c76
       have H1 : ((disk_Flush.f t877 t880).bind fun bt911 => ((weirkeeperlaw04_Ref.f kj6 t877 t880).bind fun bt917 => ((weirkeeperlaw04_same.f kj6 bt911.1 bt911.2 bt917.1 bt917.2).bind fun t923 => (weirkeeperlaw04_DiskOnce.j1 kj6 a1 l2 l3 (!t923) l0_0 l0_1)))) = some true := by rw [if_pos rfl] at H; exact H
       clear H
       have H := H1
       clear H1
       replace H := Option.bind_eq_some_iff.mp H
       obtain ⟨⟨t911, t914⟩, A770, H⟩ := H
       try dsimp only at H
       have A77 := Aside0.mk A770
       clear A770
       replace H := Option.bind_eq_some_iff.mp H
       obtain ⟨⟨t917, t920⟩, A780, H⟩ := H
       try dsimp only at H
       have A78 := Aside0.mk A780
       clear A780
       replace H := Option.bind_eq_some_iff.mp H
       obtain ⟨t923, A790, H⟩ := H
       try dsimp only at H
       have A79 := Aside0.mk A790
       clear A790
       have H' := Aside0.mk H
       clear H
       try go_wp2
       have n0_ : Aside0 (Kd.R Kd.string 9 ((((w60.setCell ⟨gb883, 0, none⟩ (.slice Ao61 t871.length co61)).setCell ⟨gb883, 1, none⟩ (.slice Ao63 t874.length co63)).setCell ⟨gb884, 0, none⟩ (.slice Ao65 t877.length co65)).setCell ⟨gb884, 1, none⟩ (.slice Ao67 t880.length co67)) w.heap.size (fun k_ => some k_ ≠ (.slice Ao65 t877.length co65 : Value).ownBlock) (.slice Ao61 t871.length co61) t871) := ⟨by (with_reducible repeat (first | apply Kd.R_alloc | apply Kd.R_drewN | apply Kd.R_drew)); exact Kd.R_mono (Kd.R_far (p := ⟨gb884, 1, none⟩) (Kd.R_far (p := ⟨gb884, 0, none⟩) (Kd.R_far (p := ⟨gb883, 1, none⟩) (Kd.R_far (p := ⟨gb883, 0, none⟩) (Kd.R_types (Kd.R_types HO873.out BK883.out (by decide)) BK884.out (by decide)) (fun _ hk => hk.1.2) (.slice Ao61 t871.length co61)) (fun _ hk => hk.1.2) (.slice Ao63 t874.length co63)) (fun _ hk => hk.2) (.slice Ao65 t877.length co65)) (fun _ hk => hk.2) (.slice Ao67 t880.length co67)) (fun _ hk => hk.1.1)⟩
       have n1_ : Aside0 (Kd.R k104 104 ((((w60.setCell ⟨gb883, 0, none⟩ (.slice Ao61 t871.length co61)).setCell ⟨gb883, 1, none⟩ (.slice Ao63 t874.length co63)).setCell ⟨gb884, 0, none⟩ (.slice Ao65 t877.length co65)).setCell ⟨gb884, 1, none⟩ (.slice Ao67 t880.length co67)) w.heap.size (fun k_ => some k_ ≠ (.slice Ao67 t880.length co67 : Value).ownBlock) (.slice Ao63 t874.length co63) t874) := ⟨by (with_reducible repeat (first | apply Kd.R_alloc | apply Kd.R_drewN | apply Kd.R_drew)); exact Kd.R_mono (Kd.R_far (p := ⟨gb884, 1, none⟩) (Kd.R_far (p := ⟨gb884, 0, none⟩) (Kd.R_far (p := ⟨gb883, 1, none⟩) (Kd.R_far (p := ⟨gb883, 0, none⟩) (Kd.R_types (Kd.R_types HO876.out BK883.out (by decide)) BK884.out (by decide)) (fun _ hk => hk.1.2) (.slice Ao61 t871.length co61)) (fun _ hk => hk.1.2) (.slice Ao63 t874.length co63)) (fun _ hk => hk.2) (.slice Ao65 t877.length co65)) (fun _ hk => hk.2) (.slice Ao67 t880.length co67)) (fun _ hk => hk.1.1)⟩
       have n2_ : Aside0 (Kd.R Kd.string 9 ((((w60.setCell ⟨gb883, 0, none⟩ (.slice Ao61 t871.length co61)).setCell ⟨gb883, 1, none⟩ (.slice Ao63 t874.length co63)).setCell ⟨gb884, 0, none⟩ (.slice Ao65 t877.length co65)).setCell ⟨gb884, 1, none⟩ (.slice Ao67 t880.length co67)) w.heap.size (fun k_ => some k_ ≠ (.slice Ao61 t871.length co61 : Value).ownBlock) (.slice Ao65 t877.length co65) t877) := ⟨by (with_reducible repeat (first | apply Kd.R_alloc | apply Kd.R_drewN | apply Kd.R_drew)); exact Kd.R_mono (Kd.R_far (p := ⟨gb884, 1, none⟩) (Kd.R_far (p := ⟨gb884, 0, none⟩) (Kd.R_far (p := ⟨gb883, 1, none⟩) (Kd.R_far (p := ⟨gb883, 0, none⟩) (Kd.R_types (Kd.R_types HO879.out BK883.out (by decide)) BK884.out (by decide)) (fun _ hk => hk.1.2) (.slice Ao61 t871.length co61)) (fun _ hk => hk.1.2) (.slice Ao63 t874.length co63)) (fun _ hk => hk.2) (.slice Ao65 t877.length co65)) (fun _ hk => hk.2) (.slice Ao67 t880.length co67)) (fun _ hk => hk.1.1)⟩
       have n3_ : Aside0 (Kd.R k104 104 ((((w60.setCell ⟨gb883, 0, none⟩ (.slice Ao61 t871.length co61)).setCell ⟨gb883, 1, none⟩ (.slice Ao63 t874.length co63)).setCell ⟨gb884, 0, none⟩ (.slice Ao65 t877.length co65)).setCell ⟨gb884, 1, none⟩ (.slice Ao67 t880.length co67)) w.heap.size (fun k_ => some k_ ≠ (.slice Ao63 t874.length co63 : Value).ownBlock) (.slice Ao67 t880.length co67) t880) := ⟨by (with_reducible repeat (first | apply Kd.R_alloc | apply Kd.R_drewN | apply Kd.R_drew)); exact Kd.R_mono (Kd.R_far (p := ⟨gb884, 1, none⟩) (Kd.R_far (p := ⟨gb884, 0, none⟩) (Kd.R_far (p := ⟨gb883, 1, none⟩) (Kd.R_far (p := ⟨gb883, 0, none⟩) (Kd.R_types (Kd.R_types HO882.out BK883.out (by decide)) BK884.out (by decide)) (fun _ hk => hk.1.2) (.slice Ao61 t871.length co61)) (fun _ hk => hk.1.2) (.slice Ao63 t874.length co63)) (fun _ hk => hk.2) (.slice Ao65 t877.length co65)) (fun _ hk => hk.2) (.slice Ao67 t880.length co67)) (fun _ hk => hk.1.1)⟩
       have n4_ : Aside0 (((((w60.setCell ⟨gb883, 0, none⟩ (.slice Ao61 t871.length co61)).setCell ⟨gb883, 1, none⟩ (.slice Ao63 t874.length co63)).setCell ⟨gb884, 0, none⟩ (.slice Ao65 t877.length co65)).setCell ⟨gb884, 1, none⟩ (.slice Ao67 t880.length co67)).heap[gb861]? = some (.cells #[.slice A0_0 l0_0.length c0_0, .slice A0_1 l0_1.length c0_1] 86 (0, 0))) := ⟨by (with_reducible repeat (first | refine blk_drewN ?_ _ | refine blk_drew ?_ | refine blk_alloc ?_ _)); refine blk_far ?_ NB861_884.out _; (with_reducible repeat (first | refine blk_drewN ?_ _ | refine blk_drew ?_ | refine blk_alloc ?_ _)); refine blk_far ?_ NB861_884.out _; (with_reducible repeat (first | refine blk_drewN ?_ _ | refine blk_drew ?_ | refine blk_alloc ?_ _)); refine blk_far ?_ NB861_883.out _; (with_reducible repeat (first | refine blk_drewN ?_ _ | refine blk_drew ?_ | refine blk_alloc ?_ _)); refine blk_far ?_ NB861_883.out _; (with_reducible repeat (first | refine blk_drewN ?_ _ | refine blk_drew ?_ | refine blk_alloc ?_ _)); exact BK861.out⟩
       have n5_ : Aside0 (((((w60.setCell ⟨gb883, 0, none⟩ (.slice Ao61 t871.length co61)).setCell ⟨gb883, 1, none⟩ (.slice Ao63 t874.length co63)).setCell ⟨gb884, 0, none⟩ (.slice Ao65 t877.length co65)).setCell ⟨gb884, 1, none⟩ (.slice Ao67 t880.length co67)).heap[gb883]? = some (.cells #[.slice Ao61 t871.length co61, .slice Ao63 t874.length co63] 86 (0, 0))) := ⟨by (with_reducible repeat (first | refine blk_drewN ?_ _ | refine blk_drew ?_ | refine blk_alloc ?_ _)); refine blk_far ?_ NB883_884.out _; (with_reducible repeat (first | refine blk_drewN ?_ _ | refine blk_drew ?_ | refine blk_alloc ?_ _)); refine blk_far ?_ NB883_884.out _; (with_reducible repeat (first | refine blk_drewN ?_ _ | refine blk_drew ?_ | refine blk_alloc ?_ _)); refine blk_put (cs := #[.slice Ao61 t871.length co61, .slice none 0 0]) ?_ 1 _ rfl; (with_reducible repeat (first | refine blk_drewN ?_ _ | refine blk_drew ?_ | refine blk_alloc ?_ _)); refine blk_put (cs := #[.slice none 0 0, .slice none 0 0]) ?_ 0 _ rfl; (with_reducible repeat (first | refine blk_drewN ?_ _ | refine blk_drew ?_ | refine blk_alloc ?_ _)); exact BK883.out⟩
       have n6_ : Aside0 (((((w60.setCell ⟨gb883, 0, none⟩ (.slice Ao61 t871.length co61)).setCell ⟨gb883, 1, none⟩ (.slice Ao63 t874.length co63)).setCell ⟨gb884, 0, none⟩ (.slice Ao65 t877.length co65)).setCell ⟨gb884, 1, none⟩ (.slice Ao67 t880.length co67)).heap[gb884]? = some (.cells #[.slice Ao65 t877.length co65, .slice Ao67 t880.length co67] 86 (0, 0))) := ⟨by (with_reducible repeat (first | refine blk_drewN ?_ _ | refine blk_drew ?_ | refine blk_alloc ?_ _)); refine blk_put (cs := #[.slice Ao65 t877.length co65, .slice none 0 0]) ?_ 1 _ rfl; (with_reducible repeat (first | refine blk_drewN ?_ _ | refine blk_drew ?_ | refine blk_alloc ?_ _)); refine blk_put (cs := #[.slice none 0 0, .slice none 0 0]) ?_ 0 _ rfl; (with_reducible repeat (first | refine blk_drewN ?_ _ | refine blk_drew ?_ | refine blk_alloc ?_ _)); refine blk_far ?_ NB884_883.out _; (with_reducible repeat (first | refine blk_drewN ?_ _ | refine blk_drew ?_ | refine blk_alloc ?_ _)); refine blk_far ?_ NB884_883.out _; (with_reducible repeat (first | refine blk_drewN ?_ _ | refine blk_drew ?_ | refine blk_alloc ?_ _)); exact BK884.out⟩
       have n7_ : Aside0 (Below w.heap.size w ((((w60.setCell ⟨gb883, 0, none⟩ (.slice Ao61 t871.length co61)).setCell ⟨gb883, 1, none⟩ (.slice Ao63 t874.length co63)).setCell ⟨gb884, 0, none⟩ (.slice Ao65 t877.length co65)).setCell ⟨gb884, 1, none⟩ (.slice Ao67 t880.length co67))) := ⟨by repeat (first | (with_reducible first | exact HB.out | apply below_alloc | apply pw_below_drewN | apply below_drew1 | refine below_set ?_ GE861.out | refine below_set ?_ GE883.out | refine below_set ?_ GE884.out) | exact HB.out)⟩
       (try clear HO873)
       (try clear HO876)
       (try clear HO879)
       (try clear HO882)
       (try clear BK861)
       (try clear BK883)
       (try clear BK884)
       (try clear HB)
       generalize ((((w60.setCell ⟨gb883, 0, none⟩ (.slice Ao61 t871.length co61)).setCell ⟨gb883, 1, none⟩ (.slice Ao63 t874.length co63)).setCell ⟨gb884, 0, none⟩ (.slice Ao65 t877.length co65)).setCell ⟨gb884, 1, none⟩ (.slice Ao67 t880.length co67)) = w80 at n0_ n1_ n2_ n3_ n4_ n5_ n6_ n7_ ⊢
       have HO873 := n0_
       have HO876 := n1_
       have HO879 := n2_
       have HO882 := n3_
       have BK861 := n4_
       have BK883 := n5_
       have BK884 := n6_
       have HB := n7_
       clear n0_ n1_ n2_ n3_ n4_ n5_ n6_ n7_
       replace HO873 := Aside0.mk (Kd.R_drew HO873.out)
       replace HO876 := Aside0.mk (Kd.R_drew HO876.out)
       replace HO879 := Aside0.mk (Kd.R_drew HO879.out)
       replace HO882 := Aside0.mk (Kd.R_drew HO882.out)
       replace BK861 := Aside0.mk (blk_drew BK861.out)
       replace BK883 := Aside0.mk (blk_drew BK883.out)
       replace BK884 := Aside0.mk (blk_drew BK884.out)
       replace HB := Aside0.mk (below_drew1 HB.out)
       refine start_ (n := 23) (S := fun w' => w'.cell? ⟨gb883, 0, none⟩ = some (.slice Ao61 t871.length co61) ∧ w'.cell? ⟨gb883, 1, none⟩ = some (.slice Ao63 t874.length co63) ∧ w'.cell? ⟨gb884, 0, none⟩ = some (.slice Ao65 t877.length co65) ∧ w'.cell? ⟨gb884, 1, none⟩ = some (.slice Ao67 t880.length co67)) (ds := []) #[false, false, false, false, false, false, false, false, false, false, false, false, false, false, false, false, false, false, false, false, false, false, false] (by kernel_rfl) rfl rfl ⟨(blk_cell BK883.out 0).trans rfl, (blk_cell BK883.out 1).trans rfl, (blk_cell BK884.out 0).trans rfl, (blk_cell BK884.out 1).trans rfl⟩ (fun hHeld => ?_); refine with_tabW weirkeeperlaw04_DiskOnce.tab4 weirkeeperlaw04_DiskOnce.bits4 (fun HT_ HW_ => ?_)
       generalize w80.drew = w81 at HO873 HO876 HO879 HO882 BK861 BK883 BK884 HB hHeld ⊢
       refine take_ (i := 0) (N := some 55) (v := ?_) (a' := ?_) #[true, false, false, false, false, false, false, false, false, false, false, false, false, false, false, false, false, false, false, false, false, false, false] rfl rfl (take_ofW HT_.out HW_.out (by kernel_rfl)) (fun _ _ _ h => h) (Or.inl ⟨by rfl, ?_⟩) hHeld ?_ ?_
       rotate_left
       ·rintro w' ⟨s0, s1, s2, s3⟩
        go_simp
        with_reducible rfl
       rotate_left
       ·simp only [Act.put, List.setIfInBounds_toArray, List.set_cons_zero, List.set_cons_succ, i64_w, i32_w]
        rfl
       refine take_ (i := 2) (N := some 57) (v := ?_) (a' := ?_) #[true, false, true, false, false, false, false, false, false, false, false, false, false, false, false, false, false, false, false, false, false, false, false] rfl rfl (take_ofW HT_.out HW_.out (by kernel_rfl)) (fun _ _ _ h => h) (Or.inl ⟨by rfl, ?_⟩) hHeld ?_ ?_
       rotate_left
       ·rintro w' ⟨s0, s1, s2, s3⟩
        go_simp
        with_reducible rfl
       rotate_left
       ·simp only [Act.put, List.setIfInBounds_toArray, List.set_cons_zero, List.set_cons_succ, i64_w, i32_w]
        rfl
       refine one_ (i := 1) (N := some 56) #[true, true, true, false, false, false, false, false, false, false, false, false, false, false, false, false, false, false, false, false, false, false, false] rfl rfl (one_of HT_.out (by kernel_rfl)) (by decide) (fun K hK => ?_)
       refine goes_ Try.func50 (by kernel_rfl) rfl #[.agg #[.slice Ao61 t871.length co61, .slice Ao63 t874.length co63]] (by rfl) rfl rfl (by (try simp only [List.map_toArray, List.map_cons, List.map_nil]); first | done | rfl | (simp only [List.length_drop, List.length_take]; rfl)) ?_
       with_reducible refine (disk_Flush.calls _ _ t871 _ _ t874 t885 t888 _ ?side1 ?side2 ?side3 ?side4 A69.out).mono ?_
       (case side1 => repeat (first | exact (Kd.R_reads' HO873.out).2.2 | (with_reducible refine Kd.C_alloc ?_ _) | (with_reducible refine Kd.C_drewN ?_ _) | (with_reducible refine Kd.C_drew ?_)))
       (case side2 => exact (Kd.R_reads' HO873.out).2.1)
       (case side3 => repeat (first | exact (Kd.R_reads' HO876.out).2.2 | (with_reducible refine Kd.C_alloc ?_ _) | (with_reducible refine Kd.C_drewN ?_ _) | (with_reducible refine Kd.C_drew ?_)))
       (case side4 => exact (Kd.R_reads' HO876.out).2.1)
       rintro e w82 ⟨v886, v889, rfl, ho0, ho1, hb⟩
       refine ⟨_, rfl, ?_⟩
       have HO887 := Aside0.mk (Kd.R_lower (Kd.R_new' (Kd.R_new' ho0 (Kd.R_lt (rU HO873.out))) (Kd.R_lt (rU HO879.out))) (below_size (by repeat (first | exact beU HB.out | refine below_set ?_ (Aside0.out ‹_›) | apply below_alloc | apply pw_below_drewN | apply below_drew1))))
       have HO890 := Aside0.mk (Kd.R_lower (Kd.R_new' (Kd.R_new' ho1 (Kd.R_lt (rU HO876.out))) (Kd.R_lt (rU HO882.out))) (below_size (by repeat (first | exact beU HB.out | refine below_set ?_ (Aside0.out ‹_›) | apply below_alloc | apply pw_below_drewN | apply below_drew1))))
       replace HO873 := Aside0.mk (Kd.R_elder' (rU HO873.out) (Kd.R_base ho0) hb)
       replace HO876 := Aside0.mk (Kd.R_elder' (rU HO876.out) (Kd.R_base ho1) hb)
       replace HO879 := Aside0.mk (Kd.R_elder' (rU HO879.out) (Kd.R_base ho0) hb)
       replace HO882 := Aside0.mk (Kd.R_elder' (rU HO882.out) (Kd.R_base ho1) hb)
       replace BK861 := Aside0.mk (blk_below (bU BK861.out) hb)
       replace BK883 := Aside0.mk (blk_below (bU BK883.out) hb)
       replace BK884 := Aside0.mk (blk_below (bU BK884.out) hb)
       replace HB := Aside0.mk (below_step (by repeat (first | exact beU HB.out | refine below_set ?_ (Aside0.out ‹_›) | apply below_alloc | apply pw_below_drewN | apply below_drew1)) hb)
       (try clear hb)
       (try clear hb2)
       (try clear hk)
       (try clear hi)
       (try clear ho0)
       (try clear ho1)
       refine hK.out _ _ ⟨(blk_cell BK883.out 0).trans rfl, (blk_cell BK883.out 1).trans rfl, (blk_cell BK884.out 0).trans rfl, (blk_cell BK884.out 1).trans rfl⟩ (fun hHeld => ?_)
       clear hK K
       refine norm_ (a' := ?_) ?_ ?_
       rotate_left
       ·show Act.put _ (some 56) _ = _
        simp only [Act.put, List.setIfInBounds_toArray, List.set_cons_zero, List.set_cons_succ, i64_w, i32_w]
        rfl
       refine one_ (i := 3) (N := some 58) #[true, true, true, true, false, false, false, false, false, false, false, false, false, false, false, false, false, false, false, false, false, false, false] rfl rfl (one_of HT_.out (by kernel_rfl)) (by decide) (fun K hK => ?_)
       refine goes_ Try.func47 (by kernel_rfl) rfl #[.agg #[.slice Ao61 t871.length co61, .slice Ao63 t874.length co63]] (by rfl) rfl rfl (by (try simp only [List.map_toArray, List.map_cons, List.map_nil]); first | done | rfl | (simp only [List.length_drop, List.length_take]; rfl)) ?_
       with_reducible refine (weirkeeperlaw04_Ref.calls kj6 (fun k_ => some k_ = (.slice Ao61 t871.length co61 : Value).ownBlock) _ _ t871 _ _ t874 t891 t894 _ ?side1 ?side2 ?side3 A70.out).mono ?_
       (case side1 => exact Kd.R_V (Kd.R_tight rfl (Kd.R_types (Kd.R_types (Kd.R_types (Kd.R_apart' (Kd.R_apart' (Kd.R_apart' (HO873.out) (Kd.R_typed HO876.out) (by decide)) (Kd.R_typed HO882.out) (by decide)) (Kd.R_typed HO890.out) (by decide)) BK861.out (by decide)) BK883.out (by decide)) BK884.out (by decide))))
       (case side2 => repeat (first | exact (Kd.R_reads' HO876.out).2.2 | (with_reducible refine Kd.C_alloc ?_ _) | (with_reducible refine Kd.C_drewN ?_ _) | (with_reducible refine Kd.C_drew ?_)))
       (case side3 => exact (Kd.R_reads' HO876.out).2.1)
       rintro e w83 ⟨v892, v895, rfl, ho0, ho1, hb⟩
       refine ⟨_, rfl, ?_⟩
       have HO893 := Aside0.mk (Kd.V_lower (Kd.V_mono (ok' := fun k_ => some k_ ≠ (v895 : Value).ownBlock ∧ some k_ ≠ (.slice Ao63 t874.length co63 : Value).ownBlock ∧ some k_ ≠ (.slice Ao65 t877.length co65 : Value).ownBlock ∧ some k_ ≠ (.slice Ao67 t880.length co67 : Value).ownBlock ∧ some k_ ≠ (v886 : Value).ownBlock ∧ some k_ ≠ (v889 : Value).ownBlock ∧ k_ ≠ gb861 ∧ k_ ≠ gb883 ∧ k_ ≠ gb884) ho0 (fun k_ hk_ => ⟨hk_.2, Or.elim hk_.1 (fun hs_ => ((Kd.R_types (Kd.R_types (Kd.R_types (Kd.R_apart' (Kd.R_apart' (Kd.R_apart' (HO873.out) (Kd.R_typed HO876.out) (by decide)) (Kd.R_typed HO882.out) (by decide)) (Kd.R_typed HO890.out) (by decide)) BK861.out (by decide)) BK883.out (by decide)) BK884.out (by decide)).1 k_ hs_.symm).1.1.1.1.1.2) (fun hn_ => (Kd.fresh' (Kd.R_lt (rU HO876.out)) k_ hn_)), Or.elim hk_.1 (fun hs_ => ((Kd.R_types (Kd.R_types (Kd.R_types (Kd.R_apart' (Kd.R_apart' (Kd.R_apart' (HO873.out) (Kd.R_typed HO876.out) (by decide)) (Kd.R_typed HO882.out) (by decide)) (Kd.R_typed HO890.out) (by decide)) BK861.out (by decide)) BK883.out (by decide)) BK884.out (by decide)).1 k_ hs_.symm).1.1.1.1.1.1.1) (fun hn_ => (Kd.fresh' (Kd.R_lt (rU HO879.out)) k_ hn_)), Or.elim hk_.1 (fun hs_ => ((Kd.R_types (Kd.R_types (Kd.R_types (Kd.R_apart' (Kd.R_apart' (Kd.R_apart' (HO873.out) (Kd.R_typed HO876.out) (by decide)) (Kd.R_typed HO882.out) (by decide)) (Kd.R_typed HO890.out) (by decide)) BK861.out (by decide)) BK883.out (by decide)) BK884.out (by decide)).1 k_ hs_.symm).1.1.1.1.2) (fun hn_ => (Kd.fresh' (Kd.R_lt (rU HO882.out)) k_ hn_)), Or.elim hk_.1 (fun hs_ => ((Kd.R_types (Kd.R_types (Kd.R_types (Kd.R_apart' (Kd.R_apart' (Kd.R_apart' (HO873.out) (Kd.R_typed HO876.out) (by decide)) (Kd.R_typed HO882.out) (by decide)) (Kd.R_typed HO890.out) (by decide)) BK861.out (by decide)) BK883.out (by decide)) BK884.out (by decide)).1 k_ hs_.symm).1.1.1.1.1.1.2) (fun hn_ => (Kd.fresh' (Kd.R_lt (rU HO887.out)) k_ hn_)), Or.elim hk_.1 (fun hs_ => ((Kd.R_types (Kd.R_types (Kd.R_types (Kd.R_apart' (Kd.R_apart' (Kd.R_apart' (HO873.out) (Kd.R_typed HO876.out) (by decide)) (Kd.R_typed HO882.out) (by decide)) (Kd.R_typed HO890.out) (by decide)) BK861.out (by decide)) BK883.out (by decide)) BK884.out (by decide)).1 k_ hs_.symm).1.1.1.2) (fun hn_ => (Kd.fresh' (Kd.R_lt (rU HO890.out)) k_ hn_)), Or.elim hk_.1 (fun hs_ => ((Kd.R_types (Kd.R_types (Kd.R_types (Kd.R_apart' (Kd.R_apart' (Kd.R_apart' (HO873.out) (Kd.R_typed HO876.out) (by decide)) (Kd.R_typed HO882.out) (by decide)) (Kd.R_typed HO890.out) (by decide)) BK861.out (by decide)) BK883.out (by decide)) BK884.out (by decide)).1 k_ hs_.symm).1.1.2) (fun hn_ => (Kd.freshB (g := gb861) (o := .cells #[.slice A0_0 l0_0.length c0_0, .slice A0_1 l0_1.length c0_1] 86 (0, 0)) (bU BK861.out) k_ hn_)), Or.elim hk_.1 (fun hs_ => ((Kd.R_types (Kd.R_types (Kd.R_types (Kd.R_apart' (Kd.R_apart' (Kd.R_apart' (HO873.out) (Kd.R_typed HO876.out) (by decide)) (Kd.R_typed HO882.out) (by decide)) (Kd.R_typed HO890.out) (by decide)) BK861.out (by decide)) BK883.out (by decide)) BK884.out (by decide)).1 k_ hs_.symm).1.2) (fun hn_ => (Kd.freshB (g := gb883) (o := .cells #[.slice Ao61 t871.length co61, .slice Ao63 t874.length co63] 86 (0, 0)) (bU BK883.out) k_ hn_)), Or.elim hk_.1 (fun hs_ => ((Kd.R_types (Kd.R_types (Kd.R_types (Kd.R_apart' (Kd.R_apart' (Kd.R_apart' (HO873.out) (Kd.R_typed HO876.out) (by decide)) (Kd.R_typed HO882.out) (by decide)) (Kd.R_typed HO890.out) (by decide)) BK861.out (by decide)) BK883.out (by decide)) BK884.out (by decide)).1 k_ hs_.symm).2) (fun hn_ => (Kd.freshB (g := gb884) (o := .cells #[.slice Ao65 t877.length co65, .slice Ao67 t880.length co67] 86 (0, 0)) (bU BK884.out) k_ hn_))⟩)) (below_size (by repeat (first | exact beU HB.out | refine below_set ?_ (Aside0.out ‹_›) | apply below_alloc | apply pw_below_drewN | apply below_drew1))))
       have HO896 := Aside0.mk (Kd.R_lower (Kd.R_mono (ok' := fun k_ => True) ho1 (fun _ hk_ => trivial)) (below_size (by repeat (first | exact beU HB.out | refine below_set ?_ (Aside0.out ‹_›) | apply below_alloc | apply pw_below_drewN | apply below_drew1))))
       replace HO873 := Aside0.mk (Kd.R_below (rU HO873.out) hb)
       replace HO876 := Aside0.mk (Kd.R_below (rU HO876.out) hb)
       replace HO879 := Aside0.mk (Kd.R_below (rU HO879.out) hb)
       replace HO882 := Aside0.mk (Kd.R_below (rU HO882.out) hb)
       replace HO887 := Aside0.mk (Kd.R_below (rU HO887.out) hb)
       replace HO890 := Aside0.mk (Kd.R_below (rU HO890.out) hb)
       replace BK861 := Aside0.mk (blk_below (bU BK861.out) hb)
       replace BK883 := Aside0.mk (blk_below (bU BK883.out) hb)
       replace BK884 := Aside0.mk (blk_below (bU BK884.out) hb)
       replace HB := Aside0.mk (below_step (by repeat (first | exact beU HB.out | refine below_set ?_ (Aside0.out ‹_›) | apply below_alloc | apply pw_below_drewN | apply below_drew1)) hb)
       (try clear hb)
       (try clear hb2)
       (try clear hk)
       (try clear hi)
       (try clear ho0)
       (try clear ho1)
       obtain ⟨Ao84, co84, eo84⟩ := Kd.R_slice HO887.out
       (first | subst eo84 | (injection eo84 with f1_ f2_ f3_; have f4_ := f1_.symm; have f5_ := f3_.symm; clear f1_ f2_ f3_; subst f4_; subst f5_))
       obtain ⟨Ao85, co85, eo85⟩ := Kd.R_slice HO890.out
       (first | subst eo85 | (injection eo85 with f1_ f2_ f3_; have f4_ := f1_.symm; have f5_ := f3_.symm; clear f1_ f2_ f3_; subst f4_; subst f5_))
       obtain ⟨Ao86, co86, eo86⟩ := Kd.V_slice HO893.out
       (first | subst eo86 | (injection eo86 with f1_ f2_ f3_; have f4_ := f1_.symm; have f5_ := f3_.symm; clear f1_ f2_ f3_; subst f4_; subst f5_))
       obtain ⟨Ao87, co87, eo87⟩ := Kd.R_slice HO896.out
       (first | subst eo87 | (injection eo87 with f1_ f2_ f3_; have f4_ := f1_.symm; have f5_ := f3_.symm; clear f1_ f2_ f3_; subst f4_; subst f5_))
       refine hK.out _ _ ⟨(blk_cell BK883.out 0).trans rfl, (blk_cell BK883.out 1).trans rfl, (blk_cell BK884.out 0).trans rfl, (blk_cell BK884.out 1).trans rfl⟩ (fun hHeld => ?_)
       clear hK K
       refine norm_ (a' := ?_) ?_ ?_
       rotate_left
       ·show Act.put _ (some 58) _ = _
        simp only [Act.put, List.setIfInBounds_toArray, List.set_cons_zero, List.set_cons_succ, i64_w, i32_w]
        rfl
       refine one_ (i := 4) (N := some 59) #[true, true, true, true, true, false, false, false, false, false, false, false, false, false, false, false, false, false, false, false, false, false, false] rfl rfl (one_of HT_.out (by kernel_rfl)) (by decide) (fun K hK => ?_)
       refine goes_ Try.func49 (by kernel_rfl) rfl #[.agg #[.slice Ao84 t885.length co84, .slice Ao85 t888.length co85], .agg #[.slice Ao86 t891.length co86, .slice Ao87 t894.length co87]] (by rfl) rfl rfl (by (try simp only [List.map_toArray, List.map_cons, List.map_nil]); first | done | rfl | (simp only [List.length_drop, List.length_take]; rfl)) ?_
       with_reducible refine (weirkeeperlaw04_same.calls kj6 _ _ t885 _ _ t888 _ _ t891 _ _ t894 true _ ?side1 ?side2 ?side3 ?side4 ?side5 ?side6 ?side7 ?side8 A71.out).mono ?_
       (case side1 => repeat (first | exact (Kd.R_reads' HO887.out).2.2 | (with_reducible refine Kd.C_alloc ?_ _) | (with_reducible refine Kd.C_drewN ?_ _) | (with_reducible refine Kd.C_drew ?_)))
       (case side2 => exact (Kd.R_reads' HO887.out).2.1)
       (case side3 => repeat (first | exact (Kd.R_reads' HO890.out).2.2 | (with_reducible refine Kd.C_alloc ?_ _) | (with_reducible refine Kd.C_drewN ?_ _) | (with_reducible refine Kd.C_drew ?_)))
       (case side4 => exact (Kd.R_reads' HO890.out).2.1)
       (case side5 => repeat (first | exact (Kd.V_reads' HO893.out).2.2 | (with_reducible refine Kd.C_alloc ?_ _) | (with_reducible refine Kd.C_drewN ?_ _) | (with_reducible refine Kd.C_drew ?_)))
       (case side6 => exact (Kd.V_reads' HO893.out).2.1)
       (case side7 => repeat (first | exact (Kd.R_reads' HO896.out).2.2 | (with_reducible refine Kd.C_alloc ?_ _) | (with_reducible refine Kd.C_drewN ?_ _) | (with_reducible refine Kd.C_drew ?_)))
       (case side8 => exact (Kd.R_reads' HO896.out).2.1)
       rintro e w88 ⟨rfl, hb⟩
       refine ⟨_, rfl, ?_⟩
       replace HO873 := Aside0.mk (Kd.R_below (rU HO873.out) hb)
       replace HO876 := Aside0.mk (Kd.R_below (rU HO876.out) hb)
       replace HO879 := Aside0.mk (Kd.R_below (rU HO879.out) hb)
       replace HO882 := Aside0.mk (Kd.R_below (rU HO882.out) hb)
       replace HO887 := Aside0.mk (Kd.R_below (rU HO887.out) hb)
       replace HO890 := Aside0.mk (Kd.R_below (rU HO890.out) hb)
       replace HO893 := Aside0.mk (Kd.V_below (vU HO893.out) hb)
       replace HO896 := Aside0.mk (Kd.R_below (rU HO896.out) hb)
       replace BK861 := Aside0.mk (blk_below (bU BK861.out) hb)
       replace BK883 := Aside0.mk (blk_below (bU BK883.out) hb)
       replace BK884 := Aside0.mk (blk_below (bU BK884.out) hb)
       replace HB := Aside0.mk (below_step (by repeat (first | exact beU HB.out | refine below_set ?_ (Aside0.out ‹_›) | apply below_alloc | apply pw_below_drewN | apply below_drew1)) hb)
       (try clear hb)
       (try clear hb2)
       (try clear hk)
       (try clear hi)
       refine hK.out _ _ ⟨(blk_cell BK883.out 0).trans rfl, (blk_cell BK883.out 1).trans rfl, (blk_cell BK884.out 0).trans rfl, (blk_cell BK884.out 1).trans rfl⟩ (fun hHeld => ?_)
       clear hK K
       refine norm_ (a' := ?_) ?_ ?_
       rotate_left
       ·show Act.put _ (some 59) _ = _
        simp only [Act.put, List.setIfInBounds_toArray, List.set_cons_zero, List.set_cons_succ, i64_w, i32_w]
        rfl
       refine pure_ (i := 5) (N := some 60) (v := ?_) (a' := ?_) #[true, true, true, true, true, true, false, false, false, false, false, false, false, false, false, false, false, false, false, false, false, false, false] rfl rfl (any_of HT_.out (by kernel_rfl)) (fun _ _ _ h => h) (Or.inl ⟨by rfl, ?_⟩) ?_ ?_
       rotate_left
       ·intro w'
        go_simp
        with_reducible rfl
       rotate_left
       ·simp only [Act.put, List.setIfInBounds_toArray, List.set_cons_zero, List.set_cons_succ, i64_w, i32_w]
        rfl
       refine pure_ (i := 6) (N := some 61) (v := ?_) (a' := ?_) #[true, true, true, true, true, true, true, false, false, false, false, false, false, false, false, false, false, false, false, false, false, false, false] rfl rfl (any_of HT_.out (by kernel_rfl)) (fun _ _ _ h => h) (Or.inl ⟨by rfl, ?_⟩) ?_ ?_
       rotate_left
       ·intro w'
        go_simp
        with_reducible rfl
       rotate_left
       ·simp only [Act.put, List.setIfInBounds_toArray, List.set_cons_zero, List.set_cons_succ, i64_w, i32_w]
        rfl
       refine pure_ (i := 8) (N := some 63) (v := ?_) (a' := ?_) #[true, true, true, true, true, true, true, false, true, false, false, false, false, false, false, false, false, false, false, false, false, false, false] rfl rfl (any_of HT_.out (by kernel_rfl)) (fun _ _ _ h => h) (Or.inl ⟨by rfl, ?_⟩) ?_ ?_
       rotate_left
       ·intro w'
        go_simp
        with_reducible rfl
       rotate_left
       ·simp only [Act.put, List.setIfInBounds_toArray, List.set_cons_zero, List.set_cons_succ, i64_w, i32_w]
        rfl
       refine take_ (i := 7) (N := some 62) (v := ?_) (a' := ?_) #[true, true, true, true, true, true, true, true, true, false, false, false, false, false, false, false, false, false, false, false, false, false, false] rfl rfl (take_ofW HT_.out HW_.out (by kernel_rfl)) (fun _ _ _ h => h) (Or.inl ⟨by rfl, ?_⟩) hHeld ?_ ?_
       rotate_left
       ·rintro w' ⟨s0, s1, s2, s3⟩
        go_simp
        with_reducible rfl
       rotate_left
       ·simp only [Act.put, List.setIfInBounds_toArray, List.set_cons_zero, List.set_cons_succ, i64_w, i32_w]
        rfl
       refine take_ (i := 10) (N := some 65) (v := ?_) (a' := ?_) #[true, true, true, true, true, true, true, true, true, false, true, false, false, false, false, false, false, false, false, false, false, false, false] rfl rfl (take_ofW HT_.out HW_.out (by kernel_rfl)) (fun _ _ _ h => h) (Or.inl ⟨by rfl, ?_⟩) hHeld ?_ ?_
       rotate_left
       ·rintro w' ⟨s0, s1, s2, s3⟩
        go_simp
        with_reducible rfl
       rotate_left
       ·simp only [Act.put, List.setIfInBounds_toArray, List.set_cons_zero, List.set_cons_succ, i64_w, i32_w]
        rfl
       refine one_ (i := 9) (N := some 64) #[true, true, true, true, true, true, true, true, true, true, true, false, false, false, false, false, false, false, false, false, false, false, false] rfl rfl (one_of HT_.out (by kernel_rfl)) (by decide) (fun K hK => ?_)
       refine goes_ Try.func51 (by kernel_rfl) rfl #[.agg #[.slice Ao65 t877.length co65, .slice Ao67 t880.length co67], .slice A5 l5.length c5] (by rfl) rfl rfl (by (try simp only [List.map_toArray, List.map_cons, List.map_nil]); first | done | rfl | (simp only [List.length_drop, List.length_take]; rfl)) ?_
       with_reducible refine (disk_Crash.calls _ _ t877 _ _ t880 _ _ l5 t898 t901 _ ?side1 ?side2 ?side3 ?side4 ?side5 ?side6 A73.out).mono ?_
       (case side1 => repeat (first | exact (Kd.R_reads' HO879.out).2.2 | (with_reducible refine Kd.C_alloc ?_ _) | (with_reducible refine Kd.C_drewN ?_ _) | (with_reducible refine Kd.C_drew ?_)))
       (case side2 => exact (Kd.R_reads' HO879.out).2.1)
       (case side3 => repeat (first | exact (Kd.R_reads' HO882.out).2.2 | (with_reducible refine Kd.C_alloc ?_ _) | (with_reducible refine Kd.C_drewN ?_ _) | (with_reducible refine Kd.C_drew ?_)))
       (case side4 => exact (Kd.R_reads' HO882.out).2.1)
       (case side5 => repeat (first | exact (Kd.C_below HR5.out HB.out) | (with_reducible refine Kd.C_alloc ?_ _) | (with_reducible refine Kd.C_drewN ?_ _) | (with_reducible refine Kd.C_drew ?_)))
       (case side6 => exact HC5.out)
       rintro e w89 ⟨v899, v902, rfl, ho0, ho1, hb⟩
       refine ⟨_, rfl, ?_⟩
       have HO900 := Aside0.mk (Kd.R_lower (Kd.R_new' (Kd.R_new' (Kd.R_new' ho0 (Kd.R_lt (rU HO873.out))) (Kd.R_lt (rU HO879.out))) (Kd.R_lt (rU HO887.out))) (below_size (by repeat (first | exact beU HB.out | refine below_set ?_ (Aside0.out ‹_›) | apply below_alloc | apply pw_below_drewN | apply below_drew1))))
       have HO903 := Aside0.mk (Kd.R_lower (Kd.R_new' (Kd.R_new' (Kd.R_new' ho1 (Kd.R_lt (rU HO876.out))) (Kd.R_lt (rU HO882.out))) (Kd.R_lt (rU HO890.out))) (below_size (by repeat (first | exact beU HB.out | refine below_set ?_ (Aside0.out ‹_›) | apply below_alloc | apply pw_below_drewN | apply below_drew1))))
       replace HO873 := Aside0.mk (Kd.R_elder' (rU HO873.out) (Kd.R_base ho0) hb)
       replace HO876 := Aside0.mk (Kd.R_elder' (rU HO876.out) (Kd.R_base ho1) hb)
       replace HO879 := Aside0.mk (Kd.R_elder' (rU HO879.out) (Kd.R_base ho0) hb)
       replace HO882 := Aside0.mk (Kd.R_elder' (rU HO882.out) (Kd.R_base ho1) hb)
       replace HO887 := Aside0.mk (Kd.R_elder' (rU HO887.out) (Kd.R_base ho0) hb)
       replace HO890 := Aside0.mk (Kd.R_elder' (rU HO890.out) (Kd.R_base ho1) hb)
       replace HO893 := Aside0.mk (Kd.V_mono (Kd.V_told (Kd.V_told (Kd.V_old (vU HO893.out) hb) (Kd.R_base ho0)) (Kd.R_base ho1)) (fun _ h_ => h_.1))
       replace HO896 := Aside0.mk (Kd.R_below (rU HO896.out) hb)
       replace BK861 := Aside0.mk (blk_below (bU BK861.out) hb)
       replace BK883 := Aside0.mk (blk_below (bU BK883.out) hb)
       replace BK884 := Aside0.mk (blk_below (bU BK884.out) hb)
       replace HB := Aside0.mk (below_step (by repeat (first | exact beU HB.out | refine below_set ?_ (Aside0.out ‹_›) | apply below_alloc | apply pw_below_drewN | apply below_drew1)) hb)
       (try clear hb)
       (try clear hb2)
       (try clear hk)
       (try clear hi)
       (try clear ho0)
       (try clear ho1)
       refine hK.out _ _ ⟨(blk_cell BK883.out 0).trans rfl, (blk_cell BK883.out 1).trans rfl, (blk_cell BK884.out 0).trans rfl, (blk_cell BK884.out 1).trans rfl⟩ (fun hHeld => ?_)
       clear hK K
       refine norm_ (a' := ?_) ?_ ?_
       rotate_left
       ·show Act.put _ (some 64) _ = _
        simp only [Act.put, List.setIfInBounds_toArray, List.set_cons_zero, List.set_cons_succ, i64_w, i32_w]
        rfl
       refine one_ (i := 11) (N := some 66) #[true, true, true, true, true, true, true, true, true, true, true, true, false, false, false, false, false, false, false, false, false, false, false] rfl rfl (one_of HT_.out (by kernel_rfl)) (by decide) (fun K hK => ?_)
       refine goes_ Try.func47 (by kernel_rfl) rfl #[.agg #[.slice Ao65 t877.length co65, .slice Ao67 t880.length co67]] (by rfl) rfl rfl (by (try simp only [List.map_toArray, List.map_cons, List.map_nil]); first | done | rfl | (simp only [List.length_drop, List.length_take]; rfl)) ?_
       with_reducible refine (weirkeeperlaw04_Ref.calls kj6 (fun k_ => some k_ = (.slice Ao65 t877.length co65 : Value).ownBlock) _ _ t877 _ _ t880 t904 t907 _ ?side1 ?side2 ?side3 A74.out).mono ?_
       (case side1 => exact Kd.R_V (Kd.R_tight rfl (Kd.R_types (Kd.R_types (Kd.R_types (Kd.R_apart' (Kd.R_apart' (Kd.R_apart' (Kd.R_apart' (Kd.R_apart' (HO879.out) (Kd.R_typed HO876.out) (by decide)) (Kd.R_typed HO882.out) (by decide)) (Kd.R_typed HO890.out) (by decide)) (Kd.R_typed HO896.out) (by decide)) (Kd.R_typed HO903.out) (by decide)) BK861.out (by decide)) BK883.out (by decide)) BK884.out (by decide))))
       (case side2 => repeat (first | exact (Kd.R_reads' HO882.out).2.2 | (with_reducible refine Kd.C_alloc ?_ _) | (with_reducible refine Kd.C_drewN ?_ _) | (with_reducible refine Kd.C_drew ?_)))
       (case side3 => exact (Kd.R_reads' HO882.out).2.1)
       rintro e w90 ⟨v905, v908, rfl, ho0, ho1, hb⟩
       refine ⟨_, rfl, ?_⟩
       have HO906 := Aside0.mk (Kd.V_lower (Kd.V_mono (ok' := fun k_ => some k_ ≠ (v908 : Value).ownBlock ∧ some k_ ≠ (.slice Ao61 t871.length co61 : Value).ownBlock ∧ some k_ ≠ (.slice Ao63 t874.length co63 : Value).ownBlock ∧ some k_ ≠ (.slice Ao67 t880.length co67 : Value).ownBlock ∧ some k_ ≠ (.slice Ao84 t885.length co84 : Value).ownBlock ∧ some k_ ≠ (.slice Ao85 t888.length co85 : Value).ownBlock ∧ some k_ ≠ (.slice Ao87 t894.length co87 : Value).ownBlock ∧ some k_ ≠ (v899 : Value).ownBlock ∧ some k_ ≠ (v902 : Value).ownBlock ∧ k_ ≠ gb861 ∧ k_ ≠ gb883 ∧ k_ ≠ gb884) ho0 (fun k_ hk_ => ⟨hk_.2, Or.elim hk_.1 (fun hs_ => ((Kd.R_types (Kd.R_types (Kd.R_types (Kd.R_apart' (Kd.R_apart' (Kd.R_apart' (Kd.R_apart' (Kd.R_apart' (HO879.out) (Kd.R_typed HO876.out) (by decide)) (Kd.R_typed HO882.out) (by decide)) (Kd.R_typed HO890.out) (by decide)) (Kd.R_typed HO896.out) (by decide)) (Kd.R_typed HO903.out) (by decide)) BK861.out (by decide)) BK883.out (by decide)) BK884.out (by decide)).1 k_ hs_.symm).1.1.1.1.1.1.1.1.1.1) (fun hn_ => (Kd.fresh' (Kd.R_lt (rU HO873.out)) k_ hn_)), Or.elim hk_.1 (fun hs_ => ((Kd.R_types (Kd.R_types (Kd.R_types (Kd.R_apart' (Kd.R_apart' (Kd.R_apart' (Kd.R_apart' (Kd.R_apart' (HO879.out) (Kd.R_typed HO876.out) (by decide)) (Kd.R_typed HO882.out) (by decide)) (Kd.R_typed HO890.out) (by decide)) (Kd.R_typed HO896.out) (by decide)) (Kd.R_typed HO903.out) (by decide)) BK861.out (by decide)) BK883.out (by decide)) BK884.out (by decide)).1 k_ hs_.symm).1.1.1.1.1.1.1.2) (fun hn_ => (Kd.fresh' (Kd.R_lt (rU HO876.out)) k_ hn_)), Or.elim hk_.1 (fun hs_ => ((Kd.R_types (Kd.R_types (Kd.R_types (Kd.R_apart' (Kd.R_apart' (Kd.R_apart' (Kd.R_apart' (Kd.R_apart' (HO879.out) (Kd.R_typed HO876.out) (by decide)) (Kd.R_typed HO882.out) (by decide)) (Kd.R_typed HO890.out) (by decide)) (Kd.R_typed HO896.out) (by decide)) (Kd.R_typed HO903.out) (by decide)) BK861.out (by decide)) BK883.out (by decide)) BK884.out (by decide)).1 k_ hs_.symm).1.1.1.1.1.1.2) (fun hn_ => (Kd.fresh' (Kd.R_lt (rU HO882.out)) k_ hn_)), Or.elim hk_.1 (fun hs_ => ((Kd.R_types (Kd.R_types (Kd.R_types (Kd.R_apart' (Kd.R_apart' (Kd.R_apart' (Kd.R_apart' (Kd.R_apart' (HO879.out) (Kd.R_typed HO876.out) (by decide)) (Kd.R_typed HO882.out) (by decide)) (Kd.R_typed HO890.out) (by decide)) (Kd.R_typed HO896.out) (by decide)) (Kd.R_typed HO903.out) (by decide)) BK861.out (by decide)) BK883.out (by decide)) BK884.out (by decide)).1 k_ hs_.symm).1.1.1.1.1.1.1.1.1.2) (fun hn_ => (Kd.fresh' (Kd.R_lt (rU HO887.out)) k_ hn_)), Or.elim hk_.1 (fun hs_ => ((Kd.R_types (Kd.R_types (Kd.R_types (Kd.R_apart' (Kd.R_apart' (Kd.R_apart' (Kd.R_apart' (Kd.R_apart' (HO879.out) (Kd.R_typed HO876.out) (by decide)) (Kd.R_typed HO882.out) (by decide)) (Kd.R_typed HO890.out) (by decide)) (Kd.R_typed HO896.out) (by decide)) (Kd.R_typed HO903.out) (by decide)) BK861.out (by decide)) BK883.out (by decide)) BK884.out (by decide)).1 k_ hs_.symm).1.1.1.1.1.2) (fun hn_ => (Kd.fresh' (Kd.R_lt (rU HO890.out)) k_ hn_)), Or.elim hk_.1 (fun hs_ => ((Kd.R_types (Kd.R_types (Kd.R_types (Kd.R_apart' (Kd.R_apart' (Kd.R_apart' (Kd.R_apart' (Kd.R_apart' (HO879.out) (Kd.R_typed HO876.out) (by decide)) (Kd.R_typed HO882.out) (by decide)) (Kd.R_typed HO890.out) (by decide)) (Kd.R_typed HO896.out) (by decide)) (Kd.R_typed HO903.out) (by decide)) BK861.out (by decide)) BK883.out (by decide)) BK884.out (by decide)).1 k_ hs_.symm).1.1.1.1.2) (fun hn_ => (Kd.fresh' (Kd.R_lt (rU HO896.out)) k_ hn_)), Or.elim hk_.1 (fun hs_ => ((Kd.R_types (Kd.R_types (Kd.R_types (Kd.R_apart' (Kd.R_apart' (Kd.R_apart' (Kd.R_apart' (Kd.R_apart' (HO879.out) (Kd.R_typed HO876.out) (by decide)) (Kd.R_typed HO882.out) (by decide)) (Kd.R_typed HO890.out) (by decide)) (Kd.R_typed HO896.out) (by decide)) (Kd.R_typed HO903.out) (by decide)) BK861.out (by decide)) BK883.out (by decide)) BK884.out (by decide)).1 k_ hs_.symm).1.1.1.1.1.1.1.1.2) (fun hn_ => (Kd.fresh' (Kd.R_lt (rU HO900.out)) k_ hn_)), Or.elim hk_.1 (fun hs_ => ((Kd.R_types (Kd.R_types (Kd.R_types (Kd.R_apart' (Kd.R_apart' (Kd.R_apart' (Kd.R_apart' (Kd.R_apart' (HO879.out) (Kd.R_typed HO876.out) (by decide)) (Kd.R_typed HO882.out) (by decide)) (Kd.R_typed HO890.out) (by decide)) (Kd.R_typed HO896.out) (by decide)) (Kd.R_typed HO903.out) (by decide)) BK861.out (by decide)) BK883.out (by decide)) BK884.out (by decide)).1 k_ hs_.symm).1.1.1.2) (fun hn_ => (Kd.fresh' (Kd.R_lt (rU HO903.out)) k_ hn_)), Or.elim hk_.1 (fun hs_ => ((Kd.R_types (Kd.R_types (Kd.R_types (Kd.R_apart' (Kd.R_apart' (Kd.R_apart' (Kd.R_apart' (Kd.R_apart' (HO879.out) (Kd.R_typed HO876.out) (by decide)) (Kd.R_typed HO882.out) (by decide)) (Kd.R_typed HO890.out) (by decide)) (Kd.R_typed HO896.out) (by decide)) (Kd.R_typed HO903.out) (by decide)) BK861.out (by decide)) BK883.out (by decide)) BK884.out (by decide)).1 k_ hs_.symm).1.1.2) (fun hn_ => (Kd.freshB (g := gb861) (o := .cells #[.slice A0_0 l0_0.length c0_0, .slice A0_1 l0_1.length c0_1] 86 (0, 0)) (bU BK861.out) k_ hn_)), Or.elim hk_.1 (fun hs_ => ((Kd.R_types (Kd.R_types (Kd.R_types (Kd.R_apart' (Kd.R_apart' (Kd.R_apart' (Kd.R_apart' (Kd.R_apart' (HO879.out) (Kd.R_typed HO876.out) (by decide)) (Kd.R_typed HO882.out) (by decide)) (Kd.R_typed HO890.out) (by decide)) (Kd.R_typed HO896.out) (by decide)) (Kd.R_typed HO903.out) (by decide)) BK861.out (by decide)) BK883.out (by decide)) BK884.out (by decide)).1 k_ hs_.symm).1.2) (fun hn_ => (Kd.freshB (g := gb883) (o := .cells #[.slice Ao61 t871.length co61, .slice Ao63 t874.length co63] 86 (0, 0)) (bU BK883.out) k_ hn_)), Or.elim hk_.1 (fun hs_ => ((Kd.R_types (Kd.R_types (Kd.R_types (Kd.R_apart' (Kd.R_apart' (Kd.R_apart' (Kd.R_apart' (Kd.R_apart' (HO879.out) (Kd.R_typed HO876.out) (by decide)) (Kd.R_typed HO882.out) (by decide)) (Kd.R_typed HO890.out) (by decide)) (Kd.R_typed HO896.out) (by decide)) (Kd.R_typed HO903.out) (by decide)) BK861.out (by decide)) BK883.out (by decide)) BK884.out (by decide)).1 k_ hs_.symm).2) (fun hn_ => (Kd.freshB (g := gb884) (o := .cells #[.slice Ao65 t877.length co65, .slice Ao67 t880.length co67] 86 (0, 0)) (bU BK884.out) k_ hn_))⟩)) (below_size (by repeat (first | exact beU HB.out | refine below_set ?_ (Aside0.out ‹_›) | apply below_alloc | apply pw_below_drewN | apply below_drew1))))
       have HO909 := Aside0.mk (Kd.R_lower (Kd.R_new' (Kd.R_mono (ok' := fun k_ => True) ho1 (fun _ hk_ => trivial)) (Kd.R_lt (rU HO896.out))) (below_size (by repeat (first | exact beU HB.out | refine below_set ?_ (Aside0.out ‹_›) | apply below_alloc | apply pw_below_drewN | apply below_drew1))))
       replace HO873 := Aside0.mk (Kd.R_below (rU HO873.out) hb)
       replace HO876 := Aside0.mk (Kd.R_below (rU HO876.out) hb)
       replace HO879 := Aside0.mk (Kd.R_below (rU HO879.out) hb)
       replace HO882 := Aside0.mk (Kd.R_below (rU HO882.out) hb)
       replace HO887 := Aside0.mk (Kd.R_below (rU HO887.out) hb)
       replace HO890 := Aside0.mk (Kd.R_below (rU HO890.out) hb)
       replace HO893 := Aside0.mk (Kd.V_elder' (vU HO893.out) (Kd.R_base ho1) hb)
       replace HO896 := Aside0.mk (Kd.R_elder' (rU HO896.out) (Kd.R_base ho1) hb)
       replace HO900 := Aside0.mk (Kd.R_below (rU HO900.out) hb)
       replace HO903 := Aside0.mk (Kd.R_below (rU HO903.out) hb)
       replace BK861 := Aside0.mk (blk_below (bU BK861.out) hb)
       replace BK883 := Aside0.mk (blk_below (bU BK883.out) hb)
       replace BK884 := Aside0.mk (blk_below (bU BK884.out) hb)
       replace HB := Aside0.mk (below_step (by repeat (first | exact beU HB.out | refine below_set ?_ (Aside0.out ‹_›) | apply below_alloc | apply pw_below_drewN | apply below_drew1)) hb)
       (try clear hb)
       (try clear hb2)
       (try clear hk)
       (try clear hi)
       (try clear ho0)
       (try clear ho1)
       obtain ⟨Ao91, co91, eo91⟩ := Kd.R_slice HO900.out
       (first | subst eo91 | (injection eo91 with f1_ f2_ f3_; have f4_ := f1_.symm; have f5_ := f3_.symm; clear f1_ f2_ f3_; subst f4_; subst f5_))
       obtain ⟨Ao92, co92, eo92⟩ := Kd.R_slice HO903.out
       (first | subst eo92 | (injection eo92 with f1_ f2_ f3_; have f4_ := f1_.symm; have f5_ := f3_.symm; clear f1_ f2_ f3_; subst f4_; subst f5_))
       obtain ⟨Ao93, co93, eo93⟩ := Kd.V_slice HO906.out
       (first | subst eo93 | (injection eo93 with f1_ f2_ f3_; have f4_ := f1_.symm; have f5_ := f3_.symm; clear f1_ f2_ f3_; subst f4_; subst f5_))
       obtain ⟨Ao94, co94, eo94⟩ := Kd.R_slice HO909.out
       (first | subst eo94 | (injection eo94 with f1_ f2_ f3_; have f4_ := f1_.symm; have f5_ := f3_.symm; clear f1_ f2_ f3_; subst f4_; subst f5_))
       refine hK.out _ _ ⟨(blk_cell BK883.out 0).trans rfl, (blk_cell BK883.out 1).trans rfl, (blk_cell BK884.out 0).trans rfl, (blk_cell BK884.out 1).trans rfl⟩ (fun hHeld => ?_)
       clear hK K
       refine norm_ (a' := ?_) ?_ ?_
       rotate_left
       ·show Act.put _ (some 66) _ = _
        simp only [Act.put, List.setIfInBounds_toArray, List.set_cons_zero, List.set_cons_succ, i64_w, i32_w]
        rfl
       refine one_ (i := 12) (N := some 67) #[true, true, true, true, true, true, true, true, true, true, true, true, true, false, false, false, false, false, false, false, false, false, false] rfl rfl (one_of HT_.out (by kernel_rfl)) (by decide) (fun K hK => ?_)
       refine goes_ Try.func49 (by kernel_rfl) rfl #[.agg #[.slice Ao91 t898.length co91, .slice Ao92 t901.length co92], .agg #[.slice Ao93 t904.length co93, .slice Ao94 t907.length co94]] (by rfl) rfl rfl (by (try simp only [List.map_toArray, List.map_cons, List.map_nil]); first | done | rfl | (simp only [List.length_drop, List.length_take]; rfl)) ?_
       with_reducible refine (weirkeeperlaw04_same.calls kj6 _ _ t898 _ _ t901 _ _ t904 _ _ t907 true _ ?side1 ?side2 ?side3 ?side4 ?side5 ?side6 ?side7 ?side8 A75.out).mono ?_
       (case side1 => repeat (first | exact (Kd.R_reads' HO900.out).2.2 | (with_reducible refine Kd.C_alloc ?_ _) | (with_reducible refine Kd.C_drewN ?_ _) | (with_reducible refine Kd.C_drew ?_)))
       (case side2 => exact (Kd.R_reads' HO900.out).2.1)
       (case side3 => repeat (first | exact (Kd.R_reads' HO903.out).2.2 | (with_reducible refine Kd.C_alloc ?_ _) | (with_reducible refine Kd.C_drewN ?_ _) | (with_reducible refine Kd.C_drew ?_)))
       (case side4 => exact (Kd.R_reads' HO903.out).2.1)
       (case side5 => repeat (first | exact (Kd.V_reads' HO906.out).2.2 | (with_reducible refine Kd.C_alloc ?_ _) | (with_reducible refine Kd.C_drewN ?_ _) | (with_reducible refine Kd.C_drew ?_)))
       (case side6 => exact (Kd.V_reads' HO906.out).2.1)
       (case side7 => repeat (first | exact (Kd.R_reads' HO909.out).2.2 | (with_reducible refine Kd.C_alloc ?_ _) | (with_reducible refine Kd.C_drewN ?_ _) | (with_reducible refine Kd.C_drew ?_)))
       (case side8 => exact (Kd.R_reads' HO909.out).2.1)
       rintro e w95 ⟨rfl, hb⟩
       refine ⟨_, rfl, ?_⟩
       replace HO873 := Aside0.mk (Kd.R_below (rU HO873.out) hb)
       replace HO876 := Aside0.mk (Kd.R_below (rU HO876.out) hb)
       replace HO879 := Aside0.mk (Kd.R_below (rU HO879.out) hb)
       replace HO882 := Aside0.mk (Kd.R_below (rU HO882.out) hb)
       replace HO887 := Aside0.mk (Kd.R_below (rU HO887.out) hb)
       replace HO890 := Aside0.mk (Kd.R_below (rU HO890.out) hb)
       replace HO893 := Aside0.mk (Kd.V_below (vU HO893.out) hb)
       replace HO896 := Aside0.mk (Kd.R_below (rU HO896.out) hb)
       replace HO900 := Aside0.mk (Kd.R_below (rU HO900.out) hb)
       replace HO903 := Aside0.mk (Kd.R_below (rU HO903.out) hb)
       replace HO906 := Aside0.mk (Kd.V_below (vU HO906.out) hb)
       replace HO909 := Aside0.mk (Kd.R_below (rU HO909.out) hb)
       replace BK861 := Aside0.mk (blk_below (bU BK861.out) hb)
       replace BK883 := Aside0.mk (blk_below (bU BK883.out) hb)
       replace BK884 := Aside0.mk (blk_below (bU BK884.out) hb)
       replace HB := Aside0.mk (below_step (by repeat (first | exact beU HB.out | refine below_set ?_ (Aside0.out ‹_›) | apply below_alloc | apply pw_below_drewN | apply below_drew1)) hb)
       (try clear hb)
       (try clear hb2)
       (try clear hk)
       (try clear hi)
       refine hK.out _ _ ⟨(blk_cell BK883.out 0).trans rfl, (blk_cell BK883.out 1).trans rfl, (blk_cell BK884.out 0).trans rfl, (blk_cell BK884.out 1).trans rfl⟩ (fun hHeld => ?_)
       clear hK K
       refine norm_ (a' := ?_) ?_ ?_
       rotate_left
       ·show Act.put _ (some 67) _ = _
        simp only [Act.put, List.setIfInBounds_toArray, List.set_cons_zero, List.set_cons_succ, i64_w, i32_w]
        rfl
       refine pure_ (i := 13) (N := some 68) (v := ?_) (a' := ?_) #[true, true, true, true, true, true, true, true, true, true, true, true, true, true, false, false, false, false, false, false, false, false, false] rfl rfl (any_of HT_.out (by kernel_rfl)) (fun _ _ _ h => h) (Or.inl ⟨by rfl, ?_⟩) ?_ ?_
       rotate_left
       ·intro w'
        go_simp
        with_reducible rfl
       rotate_left
       ·simp only [Act.put, List.setIfInBounds_toArray, List.set_cons_zero, List.set_cons_succ, i64_w, i32_w]
        rfl
       refine pure_ (i := 14) (N := some 69) (v := ?_) (a' := ?_) #[true, true, true, true, true, true, true, true, true, true, true, true, true, true, true, false, false, false, false, false, false, false, false] rfl rfl (any_of HT_.out (by kernel_rfl)) (fun _ _ _ h => h) (Or.inl ⟨by rfl, ?_⟩) ?_ ?_
       rotate_left
       ·intro w'
        go_simp
        with_reducible rfl
       rotate_left
       ·simp only [Act.put, List.setIfInBounds_toArray, List.set_cons_zero, List.set_cons_succ, i64_w, i32_w]
        rfl
       refine pure_ (i := 15) (N := some 70) (v := ?_) (a' := ?_) #[true, true, true, true, true, true, true, true, true, true, true, true, true, true, true, true, false, false, false, false, false, false, false] rfl rfl (any_of HT_.out (by kernel_rfl)) (fun _ _ _ h => h) (Or.inl ⟨by rfl, ?_⟩) ?_ ?_
       rotate_left
       ·intro w'
        go_simp
        with_reducible rfl
       rotate_left
       ·simp only [Act.put, List.setIfInBounds_toArray, List.set_cons_zero, List.set_cons_succ, i64_w, i32_w]
        rfl
       refine take_ (i := 16) (N := some 71) (v := ?_) (a' := ?_) #[true, true, true, true, true, true, true, true, true, true, true, true, true, true, true, true, true, false, false, false, false, false, false] rfl rfl (take_ofW HT_.out HW_.out (by kernel_rfl)) (fun _ _ _ h => h) (Or.inl ⟨by rfl, ?_⟩) hHeld ?_ ?_
       rotate_left
       ·rintro w' ⟨s0, s1, s2, s3⟩
        go_simp
        with_reducible rfl
       rotate_left
       ·simp only [Act.put, List.setIfInBounds_toArray, List.set_cons_zero, List.set_cons_succ, i64_w, i32_w]
        rfl
       refine take_ (i := 18) (N := some 73) (v := ?_) (a' := ?_) #[true, true, true, true, true, true, true, true, true, true, true, true, true, true, true, true, true, false, true, false, false, false, false] rfl rfl (take_ofW HT_.out HW_.out (by kernel_rfl)) (fun _ _ _ h => h) (Or.inl ⟨by rfl, ?_⟩) hHeld ?_ ?_
       rotate_left
       ·rintro w' ⟨s0, s1, s2, s3⟩
        go_simp
        with_reducible rfl
       rotate_left
       ·simp only [Act.put, List.setIfInBounds_toArray, List.set_cons_zero, List.set_cons_succ, i64_w, i32_w]
        rfl
       refine one_ (i := 17) (N := some 72) #[true, true, true, true, true, true, true, true, true, true, true, true, true, true, true, true, true, true, true, false, false, false, false] rfl rfl (one_of HT_.out (by kernel_rfl)) (by decide) (fun K hK => ?_)
       refine goes_ Try.func50 (by kernel_rfl) rfl #[.agg #[.slice Ao65 t877.length co65, .slice Ao67 t880.length co67]] (by rfl) rfl rfl (by (try simp only [List.map_toArray, List.map_cons, List.map_nil]); first | done | rfl | (simp only [List.length_drop, List.length_take]; rfl)) ?_
       with_reducible refine (disk_Flush.calls _ _ t877 _ _ t880 t911 t914 _ ?side1 ?side2 ?side3 ?side4 A77.out).mono ?_
       (case side1 => repeat (first | exact (Kd.R_reads' HO879.out).2.2 | (with_reducible refine Kd.C_alloc ?_ _) | (with_reducible refine Kd.C_drewN ?_ _) | (with_reducible refine Kd.C_drew ?_)))
       (case side2 => exact (Kd.R_reads' HO879.out).2.1)
       (case side3 => repeat (first | exact (Kd.R_reads' HO882.out).2.2 | (with_reducible refine Kd.C_alloc ?_ _) | (with_reducible refine Kd.C_drewN ?_ _) | (with_reducible refine Kd.C_drew ?_)))
       (case side4 => exact (Kd.R_reads' HO882.out).2.1)
       rintro e w96 ⟨v912, v915, rfl, ho0, ho1, hb⟩
       refine ⟨_, rfl, ?_⟩
       have HO913 := Aside0.mk (Kd.R_lower (Kd.R_new' (Kd.R_new' (Kd.R_new' (Kd.R_new' ho0 (Kd.R_lt (rU HO873.out))) (Kd.R_lt (rU HO879.out))) (Kd.R_lt (rU HO887.out))) (Kd.R_lt (rU HO900.out))) (below_size (by repeat (first | exact beU HB.out | refine below_set ?_ (Aside0.out ‹_›) | apply below_alloc | apply pw_below_drewN | apply below_drew1))))
       have HO916 := Aside0.mk (Kd.R_lower (Kd.R_new' (Kd.R_new' (Kd.R_new' (Kd.R_new' ho1 (Kd.R_lt (rU HO876.out))) (Kd.R_lt (rU HO882.out))) (Kd.R_lt (rU HO890.out))) (Kd.R_lt (rU HO903.out))) (below_size (by repeat (first | exact beU HB.out | refine below_set ?_ (Aside0.out ‹_›) | apply below_alloc | apply pw_below_drewN | apply below_drew1))))
       replace HO873 := Aside0.mk (Kd.R_elder' (rU HO873.out) (Kd.R_base ho0) hb)
       replace HO876 := Aside0.mk (Kd.R_elder' (rU HO876.out) (Kd.R_base ho1) hb)
       replace HO879 := Aside0.mk (Kd.R_elder' (rU HO879.out) (Kd.R_base ho0) hb)
       replace HO882 := Aside0.mk (Kd.R_elder' (rU HO882.out) (Kd.R_base ho1) hb)
       replace HO887 := Aside0.mk (Kd.R_elder' (rU HO887.out) (Kd.R_base ho0) hb)
       replace HO890 := Aside0.mk (Kd.R_elder' (rU HO890.out) (Kd.R_base ho1) hb)
       replace HO893 := Aside0.mk (Kd.V_mono (Kd.V_told (Kd.V_told (Kd.V_old (vU HO893.out) hb) (Kd.R_base ho0)) (Kd.R_base ho1)) (fun _ h_ => h_.1))
       replace HO896 := Aside0.mk (Kd.R_below (rU HO896.out) hb)
       replace HO900 := Aside0.mk (Kd.R_elder' (rU HO900.out) (Kd.R_base ho0) hb)
       replace HO903 := Aside0.mk (Kd.R_elder' (rU HO903.out) (Kd.R_base ho1) hb)
       replace HO906 := Aside0.mk (Kd.V_mono (Kd.V_told (Kd.V_told (Kd.V_old (vU HO906.out) hb) (Kd.R_base ho0)) (Kd.R_base ho1)) (fun _ h_ => h_.1))
       replace HO909 := Aside0.mk (Kd.R_below (rU HO909.out) hb)
       replace BK861 := Aside0.mk (blk_below (bU BK861.out) hb)
       replace BK883 := Aside0.mk (blk_below (bU BK883.out) hb)
       replace BK884 := Aside0.mk (blk_below (bU BK884.out) hb)
       replace HB := Aside0.mk (below_step (by repeat (first | exact beU HB.out | refine below_set ?_ (Aside0.out ‹_›) | apply below_alloc | apply pw_below_drewN | apply below_drew1)) hb)
       (try clear hb)
       (try clear hb2)
       (try clear hk)
       (try clear hi)
       (try clear ho0)
       (try clear ho1)
       refine hK.out _ _ ⟨(blk_cell BK883.out 0).trans rfl, (blk_cell BK883.out 1).trans rfl, (blk_cell BK884.out 0).trans rfl, (blk_cell BK884.out 1).trans rfl⟩ (fun hHeld => ?_)
       clear hK K
       refine norm_ (a' := ?_) ?_ ?_
       rotate_left
       ·show Act.put _ (some 72) _ = _
        simp only [Act.put, List.setIfInBounds_toArray, List.set_cons_zero, List.set_cons_succ, i64_w, i32_w]
        rfl
       refine one_ (i := 19) (N := some 74) #[true, true, true, true, true, true, true, true, true, true, true, true, true, true, true, true, true, true, true, true, false, false, false] rfl rfl (one_of HT_.out (by kernel_rfl)) (by decide) (fun K hK => ?_)
       refine goes_ Try.func47 (by kernel_rfl) rfl #[.agg #[.slice Ao65 t877.length co65, .slice Ao67 t880.length co67]] (by rfl) rfl rfl (by (try simp only [List.map_toArray, List.map_cons, List.map_nil]); first | done | rfl | (simp only [List.length_drop, List.length_take]; rfl)) ?_
       with_reducible refine (weirkeeperlaw04_Ref.calls kj6 (fun k_ => some k_ = (.slice Ao65 t877.length co65 : Value).ownBlock) _ _ t877 _ _ t880 t917 t920 _ ?side1 ?side2 ?side3 A78.out).mono ?_
       (case side1 => exact Kd.R_V (Kd.R_tight rfl (Kd.R_types (Kd.R_types (Kd.R_types (Kd.R_apart' (Kd.R_apart' (Kd.R_apart' (Kd.R_apart' (Kd.R_apart' (Kd.R_apart' (Kd.R_apart' (HO879.out) (Kd.R_typed HO876.out) (by decide)) (Kd.R_typed HO882.out) (by decide)) (Kd.R_typed HO890.out) (by decide)) (Kd.R_typed HO896.out) (by decide)) (Kd.R_typed HO903.out) (by decide)) (Kd.R_typed HO909.out) (by decide)) (Kd.R_typed HO916.out) (by decide)) BK861.out (by decide)) BK883.out (by decide)) BK884.out (by decide))))
       (case side2 => repeat (first | exact (Kd.R_reads' HO882.out).2.2 | (with_reducible refine Kd.C_alloc ?_ _) | (with_reducible refine Kd.C_drewN ?_ _) | (with_reducible refine Kd.C_drew ?_)))
       (case side3 => exact (Kd.R_reads' HO882.out).2.1)
       rintro e w97 ⟨v918, v921, rfl, ho0, ho1, hb⟩
       refine ⟨_, rfl, ?_⟩
       have HO919 := Aside0.mk (Kd.V_lower (Kd.V_mono (ok' := fun k_ => some k_ ≠ (v921 : Value).ownBlock ∧ some k_ ≠ (.slice Ao61 t871.length co61 : Value).ownBlock ∧ some k_ ≠ (.slice Ao63 t874.length co63 : Value).ownBlock ∧ some k_ ≠ (.slice Ao67 t880.length co67 : Value).ownBlock ∧ some k_ ≠ (.slice Ao84 t885.length co84 : Value).ownBlock ∧ some k_ ≠ (.slice Ao85 t888.length co85 : Value).ownBlock ∧ some k_ ≠ (.slice Ao87 t894.length co87 : Value).ownBlock ∧ some k_ ≠ (.slice Ao91 t898.length co91 : Value).ownBlock ∧ some k_ ≠ (.slice Ao92 t901.length co92 : Value).ownBlock ∧ some k_ ≠ (.slice Ao94 t907.length co94 : Value).ownBlock ∧ some k_ ≠ (v912 : Value).ownBlock ∧ some k_ ≠ (v915 : Value).ownBlock ∧ k_ ≠ gb861 ∧ k_ ≠ gb883 ∧ k_ ≠ gb884) ho0 (fun k_ hk_ => ⟨hk_.2, Or.elim hk_.1 (fun hs_ => ((Kd.R_types (Kd.R_types (Kd.R_types (Kd.R_apart' (Kd.R_apart' (Kd.R_apart' (Kd.R_apart' (Kd.R_apart' (Kd.R_apart' (Kd.R_apart' (HO879.out) (Kd.R_typed HO876.out) (by decide)) (Kd.R_typed HO882.out) (by decide)) (Kd.R_typed HO890.out) (by decide)) (Kd.R_typed HO896.out) (by decide)) (Kd.R_typed HO903.out) (by decide)) (Kd.R_typed HO909.out) (by decide)) (Kd.R_typed HO916.out) (by decide)) BK861.out (by decide)) BK883.out (by decide)) BK884.out (by decide)).1 k_ hs_.symm).1.1.1.1.1.1.1.1.1.1.1.1.1) (fun hn_ => (Kd.fresh' (Kd.R_lt (rU HO873.out)) k_ hn_)), Or.elim hk_.1 (fun hs_ => ((Kd.R_types (Kd.R_types (Kd.R_types (Kd.R_apart' (Kd.R_apart' (Kd.R_apart' (Kd.R_apart' (Kd.R_apart' (Kd.R_apart' (Kd.R_apart' (HO879.out) (Kd.R_typed HO876.out) (by decide)) (Kd.R_typed HO882.out) (by decide)) (Kd.R_typed HO890.out) (by decide)) (Kd.R_typed HO896.out) (by decide)) (Kd.R_typed HO903.out) (by decide)) (Kd.R_typed HO909.out) (by decide)) (Kd.R_typed HO916.out) (by decide)) BK861.out (by decide)) BK883.out (by decide)) BK884.out (by decide)).1 k_ hs_.symm).1.1.1.1.1.1.1.1.1.2) (fun hn_ => (Kd.fresh' (Kd.R_lt (rU HO876.out)) k_ hn_)), Or.elim hk_.1 (fun hs_ => ((Kd.R_types (Kd.R_types (Kd.R_types (Kd.R_apart' (Kd.R_apart' (Kd.R_apart' (Kd.R_apart' (Kd.R_apart' (Kd.R_apart' (Kd.R_apart' (HO879.out) (Kd.R_typed HO876.out) (by decide)) (Kd.R_typed HO882.out) (by decide)) (Kd.R_typed HO890.out) (by decide)) (Kd.R_typed HO896.out) (by decide)) (Kd.R_typed HO903.out) (by decide)) (Kd.R_typed HO909.out) (by decide)) (Kd.R_typed HO916.out) (by decide)) BK861.out (by decide)) BK883.out (by decide)) BK884.out (by decide)).1 k_ hs_.symm).1.1.1.1.1.1.1.1.2) (fun hn_ => (Kd.fresh' (Kd.R_lt (rU HO882.out)) k_ hn_)), Or.elim hk_.1 (fun hs_ => ((Kd.R_types (Kd.R_types (Kd.R_types (Kd.R_apart' (Kd.R_apart' (Kd.R_apart' (Kd.R_apart' (Kd.R_apart' (Kd.R_apart' (Kd.R_apart' (HO879.out) (Kd.R_typed HO876.out) (by decide)) (Kd.R_typed HO882.out) (by decide)) (Kd.R_typed HO890.out) (by decide)) (Kd.R_typed HO896.out) (by decide)) (Kd.R_typed HO903.out) (by decide)) (Kd.R_typed HO909.out) (by decide)) (Kd.R_typed HO916.out) (by decide)) BK861.out (by decide)) BK883.out (by decide)) BK884.out (by decide)).1 k_ hs_.symm).1.1.1.1.1.1.1.1.1.1.1.1.2) (fun hn_ => (Kd.fresh' (Kd.R_lt (rU HO887.out)) k_ hn_)), Or.elim hk_.1 (fun hs_ => ((Kd.R_types (Kd.R_types (Kd.R_types (Kd.R_apart' (Kd.R_apart' (Kd.R_apart' (Kd.R_apart' (Kd.R_apart' (Kd.R_apart' (Kd.R_apart' (HO879.out) (Kd.R_typed HO876.out) (by decide)) (Kd.R_typed HO882.out) (by decide)) (Kd.R_typed HO890.out) (by decide)) (Kd.R_typed HO896.out) (by decide)) (Kd.R_typed HO903.out) (by decide)) (Kd.R_typed HO909.out) (by decide)) (Kd.R_typed HO916.out) (by decide)) BK861.out (by decide)) BK883.out (by decide)) BK884.out (by decide)).1 k_ hs_.symm).1.1.1.1.1.1.1.2) (fun hn_ => (Kd.fresh' (Kd.R_lt (rU HO890.out)) k_ hn_)), Or.elim hk_.1 (fun hs_ => ((Kd.R_types (Kd.R_types (Kd.R_types (Kd.R_apart' (Kd.R_apart' (Kd.R_apart' (Kd.R_apart' (Kd.R_apart' (Kd.R_apart' (Kd.R_apart' (HO879.out) (Kd.R_typed HO876.out) (by decide)) (Kd.R_typed HO882.out) (by decide)) (Kd.R_typed HO890.out) (by decide)) (Kd.R_typed HO896.out) (by decide)) (Kd.R_typed HO903.out) (by decide)) (Kd.R_typed HO909.out) (by decide)) (Kd.R_typed HO916.out) (by decide)) BK861.out (by decide)) BK883.out (by decide)) BK884.out (by decide)).1 k_ hs_.symm).1.1.1.1.1.1.2) (fun hn_ => (Kd.fresh' (Kd.R_lt (rU HO896.out)) k_ hn_)), Or.elim hk_.1 (fun hs_ => ((Kd.R_types (Kd.R_types (Kd.R_types (Kd.R_apart' (Kd.R_apart' (Kd.R_apart' (Kd.R_apart' (Kd.R_apart' (Kd.R_apart' (Kd.R_apart' (HO879.out) (Kd.R_typed HO876.out) (by decide)) (Kd.R_typed HO882.out) (by decide)) (Kd.R_typed HO890.out) (by decide)) (Kd.R_typed HO896.out) (by decide)) (Kd.R_typed HO903.out) (by decide)) (Kd.R_typed HO909.out) (by decide)) (Kd.R_typed HO916.out) (by decide)) BK861.out (by decide)) BK883.out (by decide)) BK884.out (by decide)).1 k_ hs_.symm).1.1.1.1.1.1.1.1.1.1.1.2) (fun hn_ => (Kd.fresh' (Kd.R_lt (rU HO900.out)) k_ hn_)), Or.elim hk_.1 (fun hs_ => ((Kd.R_types (Kd.R_types (Kd.R_types (Kd.R_apart' (Kd.R_apart' (Kd.R_apart' (Kd.R_apart' (Kd.R_apart' (Kd.R_apart' (Kd.R_apart' (HO879.out) (Kd.R_typed HO876.out) (by decide)) (Kd.R_typed HO882.out) (by decide)) (Kd.R_typed HO890.out) (by decide)) (Kd.R_typed HO896.out) (by decide)) (Kd.R_typed HO903.out) (by decide)) (Kd.R_typed HO909.out) (by decide)) (Kd.R_typed HO916.out) (by decide)) BK861.out (by decide)) BK883.out (by decide)) BK884.out (by decide)).1 k_ hs_.symm).1.1.1.1.1.2) (fun hn_ => (Kd.fresh' (Kd.R_lt (rU HO903.out)) k_ hn_)), Or.elim hk_.1 (fun hs_ => ((Kd.R_types (Kd.R_types (Kd.R_types (Kd.R_apart' (Kd.R_apart' (Kd.R_apart' (Kd.R_apart' (Kd.R_apart' (Kd.R_apart' (Kd.R_apart' (HO879.out) (Kd.R_typed HO876.out) (by decide)) (Kd.R_typed HO882.out) (by decide)) (Kd.R_typed HO890.out) (by decide)) (Kd.R_typed HO896.out) (by decide)) (Kd.R_typed HO903.out) (by decide)) (Kd.R_typed HO909.out) (by decide)) (Kd.R_typed HO916.out) (by decide)) BK861.out (by decide)) BK883.out (by decide)) BK884.out (by decide)).1 k_ hs_.symm).1.1.1.1.2) (fun hn_ => (Kd.fresh' (Kd.R_lt (rU HO909.out)) k_ hn_)), Or.elim hk_.1 (fun hs_ => ((Kd.R_types (Kd.R_types (Kd.R_types (Kd.R_apart' (Kd.R_apart' (Kd.R_apart' (Kd.R_apart' (Kd.R_apart' (Kd.R_apart' (Kd.R_apart' (HO879.out) (Kd.R_typed HO876.out) (by decide)) (Kd.R_typed HO882.out) (by decide)) (Kd.R_typed HO890.out) (by decide)) (Kd.R_typed HO896.out) (by decide)) (Kd.R_typed HO903.out) (by decide)) (Kd.R_typed HO909.out) (by decide)) (Kd.R_typed HO916.out) (by decide)) BK861.out (by decide)) BK883.out (by decide)) BK884.out (by decide)).1 k_ hs_.symm).1.1.1.1.1.1.1.1.1.1.2) (fun hn_ => (Kd.fresh' (Kd.R_lt (rU HO913.out)) k_ hn_)), Or.elim hk_.1 (fun hs_ => ((Kd.R_types (Kd.R_types (Kd.R_types (Kd.R_apart' (Kd.R_apart' (Kd.R_apart' (Kd.R_apart' (Kd.R_apart' (Kd.R_apart' (Kd.R_apart' (HO879.out) (Kd.R_typed HO876.out) (by decide)) (Kd.R_typed HO882.out) (by decide)) (Kd.R_typed HO890.out) (by decide)) (Kd.R_typed HO896.out) (by decide)) (Kd.R_typed HO903.out) (by decide)) (Kd.R_typed HO909.out) (by decide)) (Kd.R_typed HO916.out) (by decide)) BK861.out (by decide)) BK883.out (by decide)) BK884.out (by decide)).1 k_ hs_.symm).1.1.1.2) (fun hn_ => (Kd.fresh' (Kd.R_lt (rU HO916.out)) k_ hn_)), Or.elim hk_.1 (fun hs_ => ((Kd.R_types (Kd.R_types (Kd.R_types (Kd.R_apart' (Kd.R_apart' (Kd.R_apart' (Kd.R_apart' (Kd.R_apart' (Kd.R_apart' (Kd.R_apart' (HO879.out) (Kd.R_typed HO876.out) (by decide)) (Kd.R_typed HO882.out) (by decide)) (Kd.R_typed HO890.out) (by decide)) (Kd.R_typed HO896.out) (by decide)) (Kd.R_typed HO903.out) (by decide)) (Kd.R_typed HO909.out) (by decide)) (Kd.R_typed HO916.out) (by decide)) BK861.out (by decide)) BK883.out (by decide)) BK884.out (by decide)).1 k_ hs_.symm).1.1.2) (fun hn_ => (Kd.freshB (g := gb861) (o := .cells #[.slice A0_0 l0_0.length c0_0, .slice A0_1 l0_1.length c0_1] 86 (0, 0)) (bU BK861.out) k_ hn_)), Or.elim hk_.1 (fun hs_ => ((Kd.R_types (Kd.R_types (Kd.R_types (Kd.R_apart' (Kd.R_apart' (Kd.R_apart' (Kd.R_apart' (Kd.R_apart' (Kd.R_apart' (Kd.R_apart' (HO879.out) (Kd.R_typed HO876.out) (by decide)) (Kd.R_typed HO882.out) (by decide)) (Kd.R_typed HO890.out) (by decide)) (Kd.R_typed HO896.out) (by decide)) (Kd.R_typed HO903.out) (by decide)) (Kd.R_typed HO909.out) (by decide)) (Kd.R_typed HO916.out) (by decide)) BK861.out (by decide)) BK883.out (by decide)) BK884.out (by decide)).1 k_ hs_.symm).1.2) (fun hn_ => (Kd.freshB (g := gb883) (o := .cells #[.slice Ao61 t871.length co61, .slice Ao63 t874.length co63] 86 (0, 0)) (bU BK883.out) k_ hn_)), Or.elim hk_.1 (fun hs_ => ((Kd.R_types (Kd.R_types (Kd.R_types (Kd.R_apart' (Kd.R_apart' (Kd.R_apart' (Kd.R_apart' (Kd.R_apart' (Kd.R_apart' (Kd.R_apart' (HO879.out) (Kd.R_typed HO876.out) (by decide)) (Kd.R_typed HO882.out) (by decide)) (Kd.R_typed HO890.out) (by decide)) (Kd.R_typed HO896.out) (by decide)) (Kd.R_typed HO903.out) (by decide)) (Kd.R_typed HO909.out) (by decide)) (Kd.R_typed HO916.out) (by decide)) BK861.out (by decide)) BK883.out (by decide)) BK884.out (by decide)).1 k_ hs_.symm).2) (fun hn_ => (Kd.freshB (g := gb884) (o := .cells #[.slice Ao65 t877.length co65, .slice Ao67 t880.length co67] 86 (0, 0)) (bU BK884.out) k_ hn_))⟩)) (below_size (by repeat (first | exact beU HB.out | refine below_set ?_ (Aside0.out ‹_›) | apply below_alloc | apply pw_below_drewN | apply below_drew1))))
       have HO922 := Aside0.mk (Kd.R_lower (Kd.R_new' (Kd.R_new' (Kd.R_mono (ok' := fun k_ => True) ho1 (fun _ hk_ => trivial)) (Kd.R_lt (rU HO896.out))) (Kd.R_lt (rU HO909.out))) (below_size (by repeat (first | exact beU HB.out | refine below_set ?_ (Aside0.out ‹_›) | apply below_alloc | apply pw_below_drewN | apply below_drew1))))
       replace HO873 := Aside0.mk (Kd.R_below (rU HO873.out) hb)
       replace HO876 := Aside0.mk (Kd.R_below (rU HO876.out) hb)
       replace HO879 := Aside0.mk (Kd.R_below (rU HO879.out) hb)
       replace HO882 := Aside0.mk (Kd.R_below (rU HO882.out) hb)
       replace HO887 := Aside0.mk (Kd.R_below (rU HO887.out) hb)
       replace HO890 := Aside0.mk (Kd.R_below (rU HO890.out) hb)
       replace HO893 := Aside0.mk (Kd.V_elder' (vU HO893.out) (Kd.R_base ho1) hb)
       replace HO896 := Aside0.mk (Kd.R_elder' (rU HO896.out) (Kd.R_base ho1) hb)
       replace HO900 := Aside0.mk (Kd.R_below (rU HO900.out) hb)
       replace HO903 := Aside0.mk (Kd.R_below (rU HO903.out) hb)
       replace HO906 := Aside0.mk (Kd.V_elder' (vU HO906.out) (Kd.R_base ho1) hb)
       replace HO909 := Aside0.mk (Kd.R_elder' (rU HO909.out) (Kd.R_base ho1) hb)
       replace HO913 := Aside0.mk (Kd.R_below (rU HO913.out) hb)
       replace HO916 := Aside0.mk (Kd.R_below (rU HO916.out) hb)
       replace BK861 := Aside0.mk (blk_below (bU BK861.out) hb)
       replace BK883 := Aside0.mk (blk_below (bU BK883.out) hb)
       replace BK884 := Aside0.mk (blk_below (bU BK884.out) hb)
       replace HB := Aside0.mk (below_step (by repeat (first | exact beU HB.out | refine below_set ?_ (Aside0.out ‹_›) | apply below_alloc | apply pw_below_drewN | apply below_drew1)) hb)
       (try clear hb)
       (try clear hb2)
       (try clear hk)
       (try clear hi)
       (try clear ho0)
       (try clear ho1)
       obtain ⟨Ao98, co98, eo98⟩ := Kd.R_slice HO913.out
       (first | subst eo98 | (injection eo98 with f1_ f2_ f3_; have f4_ := f1_.symm; have f5_ := f3_.symm; clear f1_ f2_ f3_; subst f4_; subst f5_))
       obtain ⟨Ao99, co99, eo99⟩ := Kd.R_slice HO916.out
       (first | subst eo99 | (injection eo99 with f1_ f2_ f3_; have f4_ := f1_.symm; have f5_ := f3_.symm; clear f1_ f2_ f3_; subst f4_; subst f5_))
       obtain ⟨Ao100, co100, eo100⟩ := Kd.V_slice HO919.out
       (first | subst eo100 | (injection eo100 with f1_ f2_ f3_; have f4_ := f1_.symm; have f5_ := f3_.symm; clear f1_ f2_ f3_; subst f4_; subst f5_))
       obtain ⟨Ao101, co101, eo101⟩ := Kd.R_slice HO922.out
       (first | subst eo101 | (injection eo101 with f1_ f2_ f3_; have f4_ := f1_.symm; have f5_ := f3_.symm; clear f1_ f2_ f3_; subst f4_; subst f5_))
       refine hK.out _ _ ⟨(blk_cell BK883.out 0).trans rfl, (blk_cell BK883.out 1).trans rfl, (blk_cell BK884.out 0).trans rfl, (blk_cell BK884.out 1).trans rfl⟩ (fun hHeld => ?_)
       clear hK K
       refine norm_ (a' := ?_) ?_ ?_
       rotate_left
       ·show Act.put _ (some 74) _ = _
        simp only [Act.put, List.setIfInBounds_toArray, List.set_cons_zero, List.set_cons_succ, i64_w, i32_w]
        rfl
       refine one_ (i := 20) (N := some 75) #[true, true, true, true, true, true, true, true, true, true, true, true, true, true, true, true, true, true, true, true, true, false, false] rfl rfl (one_of HT_.out (by kernel_rfl)) (by decide) (fun K hK => ?_)
       refine goes_ Try.func49 (by kernel_rfl) rfl #[.agg #[.slice Ao98 t911.length co98, .slice Ao99 t914.length co99], .agg #[.slice Ao100 t917.length co100, .slice Ao101 t920.length co101]] (by rfl) rfl rfl (by (try simp only [List.map_toArray, List.map_cons, List.map_nil]); first | done | rfl | (simp only [List.length_drop, List.length_take]; rfl)) ?_
       with_reducible refine (weirkeeperlaw04_same.calls kj6 _ _ t911 _ _ t914 _ _ t917 _ _ t920 t923 _ ?side1 ?side2 ?side3 ?side4 ?side5 ?side6 ?side7 ?side8 A79.out).mono ?_
       (case side1 => repeat (first | exact (Kd.R_reads' HO913.out).2.2 | (with_reducible refine Kd.C_alloc ?_ _) | (with_reducible refine Kd.C_drewN ?_ _) | (with_reducible refine Kd.C_drew ?_)))
       (case side2 => exact (Kd.R_reads' HO913.out).2.1)
       (case side3 => repeat (first | exact (Kd.R_reads' HO916.out).2.2 | (with_reducible refine Kd.C_alloc ?_ _) | (with_reducible refine Kd.C_drewN ?_ _) | (with_reducible refine Kd.C_drew ?_)))
       (case side4 => exact (Kd.R_reads' HO916.out).2.1)
       (case side5 => repeat (first | exact (Kd.V_reads' HO919.out).2.2 | (with_reducible refine Kd.C_alloc ?_ _) | (with_reducible refine Kd.C_drewN ?_ _) | (with_reducible refine Kd.C_drew ?_)))
       (case side6 => exact (Kd.V_reads' HO919.out).2.1)
       (case side7 => repeat (first | exact (Kd.R_reads' HO922.out).2.2 | (with_reducible refine Kd.C_alloc ?_ _) | (with_reducible refine Kd.C_drewN ?_ _) | (with_reducible refine Kd.C_drew ?_)))
       (case side8 => exact (Kd.R_reads' HO922.out).2.1)
       rintro e w102 ⟨rfl, hb⟩
       refine ⟨_, rfl, ?_⟩
       replace HO873 := Aside0.mk (Kd.R_below (rU HO873.out) hb)
       replace HO876 := Aside0.mk (Kd.R_below (rU HO876.out) hb)
       replace HO879 := Aside0.mk (Kd.R_below (rU HO879.out) hb)
       replace HO882 := Aside0.mk (Kd.R_below (rU HO882.out) hb)
       replace HO887 := Aside0.mk (Kd.R_below (rU HO887.out) hb)
       replace HO890 := Aside0.mk (Kd.R_below (rU HO890.out) hb)
       replace HO893 := Aside0.mk (Kd.V_below (vU HO893.out) hb)
       replace HO896 := Aside0.mk (Kd.R_below (rU HO896.out) hb)
       replace HO900 := Aside0.mk (Kd.R_below (rU HO900.out) hb)
       replace HO903 := Aside0.mk (Kd.R_below (rU HO903.out) hb)
       replace HO906 := Aside0.mk (Kd.V_below (vU HO906.out) hb)
       replace HO909 := Aside0.mk (Kd.R_below (rU HO909.out) hb)
       replace HO913 := Aside0.mk (Kd.R_below (rU HO913.out) hb)
       replace HO916 := Aside0.mk (Kd.R_below (rU HO916.out) hb)
       replace HO919 := Aside0.mk (Kd.V_below (vU HO919.out) hb)
       replace HO922 := Aside0.mk (Kd.R_below (rU HO922.out) hb)
       replace BK861 := Aside0.mk (blk_below (bU BK861.out) hb)
       replace BK883 := Aside0.mk (blk_below (bU BK883.out) hb)
       replace BK884 := Aside0.mk (blk_below (bU BK884.out) hb)
       replace HB := Aside0.mk (below_step (by repeat (first | exact beU HB.out | refine below_set ?_ (Aside0.out ‹_›) | apply below_alloc | apply pw_below_drewN | apply below_drew1)) hb)
       (try clear hb)
       (try clear hb2)
       (try clear hk)
       (try clear hi)
       refine hK.out _ _ ⟨(blk_cell BK883.out 0).trans rfl, (blk_cell BK883.out 1).trans rfl, (blk_cell BK884.out 0).trans rfl, (blk_cell BK884.out 1).trans rfl⟩ (fun hHeld => ?_)
       clear hK K
       refine norm_ (a' := ?_) ?_ ?_
       rotate_left
       ·show Act.put _ (some 75) _ = _
        simp only [Act.put, List.setIfInBounds_toArray, List.set_cons_zero, List.set_cons_succ, i64_w, i32_w]
        rfl
       refine pure_ (i := 21) (N := some 76) (v := ?_) (a' := ?_) #[true, true, true, true, true, true, true, true, true, true, true, true, true, true, true, true, true, true, true, true, true, true, false] rfl rfl (any_of HT_.out (by kernel_rfl)) (fun _ _ _ h => h) (Or.inl ⟨by rfl, ?_⟩) ?_ ?_
       rotate_left
       ·intro w'
        go_simp
        with_reducible rfl
       rotate_left
       ·simp only [Act.put, List.setIfInBounds_toArray, List.set_cons_zero, List.set_cons_succ, i64_w, i32_w]
        rfl
       refine pure_ (i := 22) (N := some 77) (v := ?_) (a' := ?_) #[true, true, true, true, true, true, true, true, true, true, true, true, true, true, true, true, true, true, true, true, true, true, true] rfl rfl (any_of HT_.out (by kernel_rfl)) (fun _ _ _ h => h) (Or.inl ⟨by rfl, ?_⟩) ?_ ?_
       rotate_left
       ·intro w'
        go_simp
        with_reducible rfl
       rotate_left
       ·simp only [Act.put, List.setIfInBounds_toArray, List.set_cons_zero, List.set_cons_succ, i64_w, i32_w]
        rfl
       refine done_ (done_of HT_.out (by kernel_rfl)) ?_
       try go_wp2
       go_meet
       case rel => exact ⟨_, (!t923), (by first | rfl | (simp; done) | (simp [*]; done)), H', ⟨by have := HJ6.out; first | omega | exact Nat.le_refl _⟩, ⟨by (with_reducible repeat (first | apply Kd.R_alloc | apply Kd.R_drewN | apply Kd.R_drew)); exact Kd.R_mono HO873.out (fun _ hk => hk.1.1.1)⟩, ⟨by (with_reducible repeat (first | apply Kd.R_alloc | apply Kd.R_drewN | apply Kd.R_drew)); exact Kd.R_mono HO876.out (fun _ hk => hk.1.1.1)⟩, ⟨by (with_reducible repeat (first | apply Kd.R_alloc | apply Kd.R_drewN | apply Kd.R_drew)); exact Kd.R_mono HO879.out (fun _ hk => hk.1.1.1)⟩, ⟨by (with_reducible repeat (first | apply Kd.R_alloc | apply Kd.R_drewN | apply Kd.R_drew)); exact Kd.R_mono HO882.out (fun _ hk => hk.1.1.1)⟩, ⟨by (with_reducible repeat (first | refine blk_drewN ?_ _ | refine blk_drew ?_ | refine blk_alloc ?_ _)); exact BK861.out⟩, ⟨by (with_reducible repeat (first | refine blk_drewN ?_ _ | refine blk_drew ?_ | refine blk_alloc ?_ _)); exact BK883.out⟩, ⟨by (with_reducible repeat (first | refine blk_drewN ?_ _ | refine blk_drew ?_ | refine blk_alloc ?_ _)); exact BK884.out⟩, ⟨by repeat (first | (with_reducible first | exact HB.out | apply below_alloc | apply pw_below_drewN | apply below_drew1 | refine below_set ?_ GE861.out | refine below_set ?_ GE883.out | refine below_set ?_ GE884.out) | exact HB.out)⟩⟩
      ·replace c76 := Bool.eq_false_iff.mpr c76
       subst c76
       have H1 : (weirkeeperlaw04_DiskOnce.j1 kj6 a1 l2 l3 true l0_0 l0_1) = some true := by rw [if_neg (show ¬ (false = true) by decide)] at H; exact H
       exact absurd H1 (weirkeeperlaw04_DiskOnce.j1_true _ _ _ _ _ _)
     ·replace c72 := Bool.eq_false_iff.mpr c72
      subst c72
      have H1 : (weirkeeperlaw04_DiskOnce.j1 kj6 a1 l2 l3 true l0_0 l0_1) = some true := by rw [if_neg (show ¬ (false = true) by decide)] at H; exact H
      exact absurd H1 (weirkeeperlaw04_DiskOnce.j1_true _ _ _ _ _ _)
    case rest =>
     clear HC54
     try clear p2
     try clear c4
     try clear c5
     try clear c7
     try clear c47
     try clear c49
     try clear c50
     try clear c72
     obtain ⟨kq, x77_53, rfl, HA, HJ53, HO_884000, HO_884001, HO_885000, HO_885001, BK861, BK883, BK884, HB⟩ := hcut
     cases kq with
     | zero => exact absurd HA.out (by simp [weirkeeperlaw04_DiskOnce.j1])
     | succ kj53 =>
      have H := HA.out
      clear HA
      simp only [weirkeeperlaw04_DiskOnce.j1] at H
      by_cases c128 : x77_53 = true
      ·subst c128
       have H1 : (some false) = some true := by rw [if_pos rfl] at H; exact H
       clear H
       have H := H1
       clear H1
       exact absurd H (by simp)
      ·replace c128 := Bool.eq_false_iff.mpr c128
       subst c128
       have H1 : ((disk_Put.f l0_0 l0_1 a1 l2).bind fun bt924 => (if bt924.2.2 = 0 then ((disk_Put.f bt924.1 bt924.2.1 (wrap64 (a1 + (l2.length : Int))) l3).bind fun bt940 => ((some (([] : List ByteArray) : List ByteArray)).bind fun y947 => (if y947.length + l2.length < 8796093022208 then ((some (y947 ++ l2 : List ByteArray)).bind fun y950 => (if y950.length + l3.length < 8796093022208 then ((disk_Put.f l0_0 l0_1 a1 (y950 ++ l3)).bind fun bt956 => (if bt940.2.2 = bt956.2.2 then (if bt940.2.2 = 0 then ((weirkeeperlaw04_Ref.f kj53 bt956.1 bt956.2.1).bind fun bt964 => ((weirkeeperlaw04_same.f kj53 bt940.1 bt940.2.1 bt964.1 bt964.2).bind fun t970 => (if t970 = true then ((weirkeeperlaw04_awake.f).bind fun t971 => (some t971)) else (some false)))) else ((weirkeeperlaw04_awake.f).bind fun t972 => (some t972))) else (some false))) else (none))) else (none)))) else ((weirkeeperlaw04_Ref.f kj53 l0_0 l0_1).bind fun bt932 => ((weirkeeperlaw04_same.f kj53 bt924.1 bt924.2.1 bt932.1 bt932.2).bind fun t938 => (if t938 = true then ((weirkeeperlaw04_awake.f).bind fun t939 => (some t939)) else (some false)))))) = some true := by rw [if_neg (show ¬ (false = true) by decide)] at H; exact H
       clear H
       have H := H1
       clear H1
       rename_i K1 k1 K0 k0
       refine k0 _ _ ?_
       refine wp_cond_false (by rfl) (wp_skip ?_)
       show K1 _ _
       refine k1 _ _ ?_
       exact weirkeeperlaw04_DiskOnce.rest HR0_0 HC0_0 HR0_1 HC0_1 HR2 HC2 HR3 HC3 GW861 GE861 GW883 GE883 GW884 GE884 NB861_883 NB883_861 NB884_883 NB883_884 NB861_884 NB884_861 HO_884000 HO_884001 HO_885000 HO_885001 BK861 BK883 BK884 HB H
end Go.Proofs.Ythidkdlmpkeogaa.F
