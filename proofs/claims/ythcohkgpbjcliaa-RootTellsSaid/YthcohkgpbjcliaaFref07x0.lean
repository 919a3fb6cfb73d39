import Derived.Test.YthcohkgpbjcliaaFUp
import Derived.Test.YthcohkgpbjcliaaFPre
import Derived.Test.YthcohkgpbjcliaaFref01
import Derived.Test.YthcohkgpbjcliaaFref06x0
namespace Go.Proofs.Ythcohkgpbjcliaa.F
open Go.RowKit Go.Proofs.YthcohkgpbjcliaaW.PrintWords Go.Proofs.YthcohkgpbjcliaaW.PrintLast Go.Proofs.YthcohkgpbjcliaaW.PrintMore
attribute [local go_sem] max2_int min2_int max_two min_two max_three min_three max_four min_four
set_option linter.unusedVariables false
set_option linter.unusedSimpArgs false
def weirkeeperref07_Right.f (a0_0 : Int) (a0_1 : Int) (a0_2 : Int) : Option (Bool) := if a0_0 < 0 then (some false) else (if a0_1 < 0 then (some false) else (if a0_2 < 0 then (some false) else (if a0_0 ≤ 2147483647 then (if a0_1 ≤ 2147483647 then (some (decide (a0_2 ≤ 2147483647))) else (some false)) else (some false))))
set_option maxHeartbeats 8000000 in
set_option maxRecDepth 100000 in
theorem weirkeeperref07_Right.calls (a0_0 : Int) (a0_1 : Int) (a0_2 : Int) (r : Bool) (w : World) (h : weirkeeperref07_Right.f a0_0 a0_1 a0_2 = some r) :
  Calls Try.prog 24 #[.agg #[.int .i64 a0_0, .int .i64 a0_1, .int .i64 a0_2]] w fun e w' => e = .returned (.bool r) ∧ Below w.heap.size w w' := by
 have hu39 := Try.underlying39
 have HB := Aside0.mk (Below.refl w.heap.size w)
 have H : (if a0_0 < 0 then (some false) else (if a0_1 < 0 then (some false) else (if a0_2 < 0 then (some false) else (if a0_0 ≤ 2147483647 then (if a0_1 ≤ 2147483647 then (some (decide (a0_2 ≤ 2147483647))) else (some false)) else (some false))))) = some r := h
 clear h
 by_cases c2 : a0_0 < 0
 ·rw [if_pos c2] at H
  have c2b0 : decide (a0_0 < 0) = true := decide_eq_true c2
  clear c2
  obtain rfl := Option.some.inj H
  go_enter Try.func24, Try.ntmps24
  go_wp2_with (first | ((with_reducible refine gate_dst (N := 1) rfl ?_); refine box_event ?hg (N := 1) ?hd (cs := #[.int .i64 a0_0, .int .i64 a0_1, .int .i64 a0_2]) (t := 39) ?hr ?_; (case hd => rfl); (case hg => rfl); (case hr => first | (go_simp; done) | (go_simp; rfl)); intro gb250 hg w3 hbox hb; have BK250 := Aside0.mk (hbox); have GW250 := Aside0.mk ((geU HB.out hg)); have GE250 := Aside0.mk ((geU HB.out hg)); replace HB := Aside0.mk (below_step (beU HB.out) hb); clear hb hbox hg; have hcz4_0 : w3.cell? ⟨gb250, 0, none⟩ = some (.int .i64 a0_0) := (blk_cell BK250.out 0).trans rfl; have hcz4_1 : w3.cell? ⟨gb250, 1, none⟩ = some (.int .i64 a0_1) := (blk_cell BK250.out 1).trans rfl; have hcz4_2 : w3.cell? ⟨gb250, 2, none⟩ = some (.int .i64 a0_2) := (blk_cell BK250.out 2).trans rfl; have hfz4_0 := blk_frozen BK250.out 0; have hfz4_1 := blk_frozen BK250.out 1; have hfz4_2 := blk_frozen BK250.out 2))
  go_ret
  exact ⟨by first | rfl | (simp [errW_none, errW_some] <;> rfl) | (simp [*, errW_none, errW_some] <;> rfl), by repeat (first | (with_reducible first | exact HB.out | apply below_alloc | apply pw_below_drewN | apply below_drew1 | refine below_set ?_ GE250.out) | exact HB.out)⟩
 ·rw [if_neg c2] at H
  have c2b0 : decide (a0_0 < 0) = false := decide_eq_false c2
  clear c2
  by_cases c5 : a0_1 < 0
  ·rw [if_pos c5] at H
   have c5b0 : decide (a0_1 < 0) = true := decide_eq_true c5
   clear c5
   obtain rfl := Option.some.inj H
   go_enter Try.func24, Try.ntmps24
   go_wp2_with (first | ((with_reducible refine gate_dst (N := 1) rfl ?_); refine box_event ?hg (N := 1) ?hd (cs := #[.int .i64 a0_0, .int .i64 a0_1, .int .i64 a0_2]) (t := 39) ?hr ?_; (case hd => rfl); (case hg => rfl); (case hr => first | (go_simp; done) | (go_simp; rfl)); intro gb250 hg w6 hbox hb; have BK250 := Aside0.mk (hbox); have GW250 := Aside0.mk ((geU HB.out hg)); have GE250 := Aside0.mk ((geU HB.out hg)); replace HB := Aside0.mk (below_step (beU HB.out) hb); clear hb hbox hg; have hcz7_0 : w6.cell? ⟨gb250, 0, none⟩ = some (.int .i64 a0_0) := (blk_cell BK250.out 0).trans rfl; have hcz7_1 : w6.cell? ⟨gb250, 1, none⟩ = some (.int .i64 a0_1) := (blk_cell BK250.out 1).trans rfl; have hcz7_2 : w6.cell? ⟨gb250, 2, none⟩ = some (.int .i64 a0_2) := (blk_cell BK250.out 2).trans rfl; have hfz7_0 := blk_frozen BK250.out 0; have hfz7_1 := blk_frozen BK250.out 1; have hfz7_2 := blk_frozen BK250.out 2))
   go_ret
   exact ⟨by first | rfl | (simp [errW_none, errW_some] <;> rfl) | (simp [*, errW_none, errW_some] <;> rfl), by repeat (first | (with_reducible first | exact HB.out | apply below_alloc | apply pw_below_drewN | apply below_drew1 | refine below_set ?_ GE250.out) | exact HB.out)⟩
  ·rw [if_neg c5] at H
   have c5b0 : decide (a0_1 < 0) = false := decide_eq_false c5
   clear c5
   by_cases c8 : a0_2 < 0
   ·rw [if_pos c8] at H
    have c8b0 : decide (a0_2 < 0) = true := decide_eq_true c8
    clear c8
    obtain rfl := Option.some.inj H
    go_enter Try.func24, Try.ntmps24
    go_wp2_with (first | ((with_reducible refine gate_dst (N := 1) rfl ?_); refine box_event ?hg (N := 1) ?hd (cs := #[.int .i64 a0_0, .int .i64 a0_1, .int .i64 a0_2]) (t := 39) ?hr ?_; (case hd => rfl); (case hg => rfl); (case hr => first | (go_simp; done) | (go_simp; rfl)); intro gb250 hg w9 hbox hb; have BK250 := Aside0.mk (hbox); have GW250 := Aside0.mk ((geU HB.out hg)); have GE250 := Aside0.mk ((geU HB.out hg)); replace HB := Aside0.mk (below_step (beU HB.out) hb); clear hb hbox hg; have hcz10_0 : w9.cell? ⟨gb250, 0, none⟩ = some (.int .i64 a0_0) := (blk_cell BK250.out 0).trans rfl; have hcz10_1 : w9.cell? ⟨gb250, 1, none⟩ = some (.int .i64 a0_1) := (blk_cell BK250.out 1).trans rfl; have hcz10_2 : w9.cell? ⟨gb250, 2, none⟩ = some (.int .i64 a0_2) := (blk_cell BK250.out 2).trans rfl; have hfz10_0 := blk_frozen BK250.out 0; have hfz10_1 := blk_frozen BK250.out 1; have hfz10_2 := blk_frozen BK250.out 2))
    go_ret
    exact ⟨by first | rfl | (simp [errW_none, errW_some] <;> rfl) | (simp [*, errW_none, errW_some] <;> rfl), by repeat (first | (with_reducible first | exact HB.out | apply below_alloc | apply pw_below_drewN | apply below_drew1 | refine below_set ?_ GE250.out) | exact HB.out)⟩
   ·rw [if_neg c8] at H
    have c8b0 : decide (a0_2 < 0) = false := decide_eq_false c8
    clear c8
    by_cases c11 : a0_0 ≤ 2147483647
    ·rw [if_pos c11] at H
     have c11b0 : decide (a0_0 ≤ 2147483647) = true := decide_eq_true c11
     clear c11
     by_cases c12 : a0_1 ≤ 2147483647
     ·rw [if_pos c12] at H
      have c12b0 : decide (a0_1 ≤ 2147483647) = true := decide_eq_true c12
      clear c12
      obtain rfl := Option.some.inj H
      go_enter Try.func24, Try.ntmps24
      go_wp2_with (first | ((with_reducible refine gate_dst (N := 1) rfl ?_); refine box_event ?hg (N := 1) ?hd (cs := #[.int .i64 a0_0, .int .i64 a0_1, .int .i64 a0_2]) (t := 39) ?hr ?_; (case hd => rfl); (case hg => rfl); (case hr => first | (go_simp; done) | (go_simp; rfl)); intro gb250 hg w13 hbox hb; have BK250 := Aside0.mk (hbox); have GW250 := Aside0.mk ((geU HB.out hg)); have GE250 := Aside0.mk ((geU HB.out hg)); replace HB := Aside0.mk (below_step (beU HB.out) hb); clear hb hbox hg; have hcz14_0 : w13.cell? ⟨gb250, 0, none⟩ = some (.int .i64 a0_0) := (blk_cell BK250.out 0).trans rfl; have hcz14_1 : w13.cell? ⟨gb250, 1, none⟩ = some (.int .i64 a0_1) := (blk_cell BK250.out 1).trans rfl; have hcz14_2 : w13.cell? ⟨gb250, 2, none⟩ = some (.int .i64 a0_2) := (blk_cell BK250.out 2).trans rfl; have hfz14_0 := blk_frozen BK250.out 0; have hfz14_1 := blk_frozen BK250.out 1; have hfz14_2 := blk_frozen BK250.out 2))
      go_ret
      exact ⟨by first | rfl | (simp [errW_none, errW_some] <;> rfl) | (simp [*, errW_none, errW_some] <;> rfl), by repeat (first | (with_reducible first | exact HB.out | apply below_alloc | apply pw_below_drewN | apply below_drew1 | refine below_set ?_ GE250.out) | exact HB.out)⟩
     ·rw [if_neg c12] at H
      have c12b0 : decide (a0_1 ≤ 2147483647) = false := decide_eq_false c12
      clear c12
      obtain rfl := Option.some.inj H
      go_enter Try.func24, Try.ntmps24
      go_wp2_with (first | ((with_reducible refine gate_dst (N := 1) rfl ?_); refine box_event ?hg (N := 1) ?hd (cs := #[.int .i64 a0_0, .int .i64 a0_1, .int .i64 a0_2]) (t := 39) ?hr ?_; (case hd => rfl); (case hg => rfl); (case hr => first | (go_simp; done) | (go_simp; rfl)); intro gb250 hg w15 hbox hb; have BK250 := Aside0.mk (hbox); have GW250 := Aside0.mk ((geU HB.out hg)); have GE250 := Aside0.mk ((geU HB.out hg)); replace HB := Aside0.mk (below_step (beU HB.out) hb); clear hb hbox hg; have hcz16_0 : w15.cell? ⟨gb250, 0, none⟩ = some (.int .i64 a0_0) := (blk_cell BK250.out 0).trans rfl; have hcz16_1 : w15.cell? ⟨gb250, 1, none⟩ = some (.int .i64 a0_1) := (blk_cell BK250.out 1).trans rfl; have hcz16_2 : w15.cell? ⟨gb250, 2, none⟩ = some (.int .i64 a0_2) := (blk_cell BK250.out 2).trans rfl; have hfz16_0 := blk_frozen BK250.out 0; have hfz16_1 := blk_frozen BK250.out 1; have hfz16_2 := blk_frozen BK250.out 2))
      go_ret
      exact ⟨by first | rfl | (simp [errW_none, errW_some] <;> rfl) | (simp [*, errW_none, errW_some] <;> rfl), by repeat (first | (with_reducible first | exact HB.out | apply below_alloc | apply pw_below_drewN | apply below_drew1 | refine below_set ?_ GE250.out) | exact HB.out)⟩
    ·rw [if_neg c11] at H
     have c11b0 : decide (a0_0 ≤ 2147483647) = false := decide_eq_false c11
     clear c11
     obtain rfl := Option.some.inj H
     go_enter Try.func24, Try.ntmps24
     go_wp2_with (first | ((with_reducible refine gate_dst (N := 1) rfl ?_); refine box_event ?hg (N := 1) ?hd (cs := #[.int .i64 a0_0, .int .i64 a0_1, .int .i64 a0_2]) (t := 39) ?hr ?_; (case hd => rfl); (case hg => rfl); (case hr => first | (go_simp; done) | (go_simp; rfl)); intro gb250 hg w17 hbox hb; have BK250 := Aside0.mk (hbox); have GW250 := Aside0.mk ((geU HB.out hg)); have GE250 := Aside0.mk ((geU HB.out hg)); replace HB := Aside0.mk (below_step (beU HB.out) hb); clear hb hbox hg; have hcz18_0 : w17.cell? ⟨gb250, 0, none⟩ = some (.int .i64 a0_0) := (blk_cell BK250.out 0).trans rfl; have hcz18_1 : w17.cell? ⟨gb250, 1, none⟩ = some (.int .i64 a0_1) := (blk_cell BK250.out 1).trans rfl; have hcz18_2 : w17.cell? ⟨gb250, 2, none⟩ = some (.int .i64 a0_2) := (blk_cell BK250.out 2).trans rfl; have hfz18_0 := blk_frozen BK250.out 0; have hfz18_1 := blk_frozen BK250.out 1; have hfz18_2 := blk_frozen BK250.out 2))
     go_ret
     exact ⟨by first | rfl | (simp [errW_none, errW_some] <;> rfl) | (simp [*, errW_none, errW_some] <;> rfl), by repeat (first | (with_reducible first | exact HB.out | apply below_alloc | apply pw_below_drewN | apply below_drew1 | refine below_set ?_ GE250.out) | exact HB.out)⟩
def weirkeeperref07_text.f (k : Nat) (a0_0 : Int) (a0_1 : Int) (a0_2 : Int) : Option (ByteArray) := (weirkeeperref01_Num.f k (IntKind.u64.wrap (a0_0)) 4).bind fun bt300 => ((weirkeeperref01_Num.f k (IntKind.u64.wrap (a0_1)) 4).bind fun bt302 => ((weirkeeperref01_Num.f k (IntKind.u64.wrap (a0_2)) 4).bind fun bt304 => (if bt300.1.size + bt302.1.size ≤ 9223372036854775807 then (if (bt300.1 ++ bt302.1).size + bt304.1.size ≤ 9223372036854775807 then (some ((bt300.1 ++ bt302.1) ++ bt304.1)) else (none)) else (none))))
theorem weirkeeperref07_text.mono : ∀ a0 a1 a2 k, LeO (weirkeeperref07_text.f k a0 a1 a2) (weirkeeperref07_text.f (k + 1) a0 a1 a2) := by
 intro a0 a1 a2 k
 unfold weirkeeperref07_text.f
 repeat' first
   | (with_reducible exact weirkeeperref01_Num.mono _ _ _)
   | (with_reducible exact LeO.refl _)
   | (with_reducible exact LeO.none _)
   | (with_reducible refine LeO.ite ?_ ?_)
   | (with_reducible refine LeO.bind ?_ (fun _ => ?_))
   | exact LeO.none _
   | refine LeO.ite ?_ ?_
   | refine LeO.bind ?_ (fun _ => ?_)
set_option maxHeartbeats 8000000 in
set_option maxRecDepth 100000 in
theorem weirkeeperref07_text.calls (k : Nat) (a0_0 : Int) (a0_1 : Int) (a0_2 : Int) (r : ByteArray) (w : World) (h : weirkeeperref07_text.f k a0_0 a0_1 a0_2 = some r) :
  Calls Try.prog 44 #[.agg #[.int .i64 a0_0, .int .i64 a0_1, .int .i64 a0_2]] w fun e w' => e = .returned (.string r) ∧ Below w.heap.size w w' := by
 have hu39 := Try.underlying39
 have HB := Aside0.mk (Below.refl w.heap.size w)
 have H : ((weirkeeperref01_Num.f k (IntKind.u64.wrap (a0_0)) 4).bind fun bt300 => ((weirkeeperref01_Num.f k (IntKind.u64.wrap (a0_1)) 4).bind fun bt302 => ((weirkeeperref01_Num.f k (IntKind.u64.wrap (a0_2)) 4).bind fun bt304 => (if bt300.1.size + bt302.1.size ≤ 9223372036854775807 then (if (bt300.1 ++ bt302.1).size + bt304.1.size ≤ 9223372036854775807 then (some ((bt300.1 ++ bt302.1) ++ bt304.1)) else (none)) else (none))))) = some r := h
 clear h
 replace H := Option.bind_eq_some_iff.mp H
 obtain ⟨⟨t300, t301⟩, A20, H⟩ := H
 try dsimp only at H
 have A2 := Aside0.mk A20
 clear A20
 replace H := Option.bind_eq_some_iff.mp H
 obtain ⟨⟨t302, t303⟩, A30, H⟩ := H
 try dsimp only at H
 have A3 := Aside0.mk A30
 clear A30
 replace H := Option.bind_eq_some_iff.mp H
 obtain ⟨⟨t304, t305⟩, A40, H⟩ := H
 try dsimp only at H
 have A4 := Aside0.mk A40
 clear A40
 by_cases c5 : t300.size + t302.size ≤ 9223372036854775807
 ·rw [if_pos c5] at H
  have c5b0 := eq_true c5
  have c5b1 : decide (t300.size + t302.size ≤ 9223372036854775807) = true := decide_eq_true c5
  try have c5b2 : (9223372036854775807 < t300.size + t302.size) = False := eq_false (Nat.not_lt.2 c5)
  clear c5
  by_cases c6 : (t300 ++ t302).size + t304.size ≤ 9223372036854775807
  ·rw [if_pos c6] at H
   have c6b0 := eq_true c6
   have c6b1 : decide ((t300 ++ t302).size + t304.size ≤ 9223372036854775807) = true := decide_eq_true c6
   try have c6b2 : (9223372036854775807 < (t300 ++ t302).size + t304.size) = False := eq_false (Nat.not_lt.2 c6)
   clear c6
   try (have c6b9 := c6b2; simp only [ByteArray.size_append, ByteArray.size_extract, Nat.min_self] at c6b9)
   obtain rfl := Option.some.inj H
   go_enter Try.func44, Try.ntmps44
   go_wp2_with (first | ((with_reducible refine gate_dst (N := 1) rfl ?_); refine box_event ?hg (N := 1) ?hd (cs := #[.int .i64 a0_0, .int .i64 a0_1, .int .i64 a0_2]) (t := 39) ?hr ?_; (case hd => rfl); (case hg => rfl); (case hr => first | (go_simp; done) | (go_simp; rfl)); intro gb299 hg w7 hbox hb; have BK299 := Aside0.mk (hbox); have GW299 := Aside0.mk ((geU HB.out hg)); have GE299 := Aside0.mk ((geU HB.out hg)); replace HB := Aside0.mk (below_step (beU HB.out) hb); clear hb hbox hg; have hcz8_0 : w7.cell? ⟨gb299, 0, none⟩ = some (.int .i64 a0_0) := (blk_cell BK299.out 0).trans rfl; have hcz8_1 : w7.cell? ⟨gb299, 1, none⟩ = some (.int .i64 a0_1) := (blk_cell BK299.out 1).trans rfl; have hcz8_2 : w7.cell? ⟨gb299, 2, none⟩ = some (.int .i64 a0_2) := (blk_cell BK299.out 2).trans rfl; have hfz8_0 := blk_frozen BK299.out 0; have hfz8_1 := blk_frozen BK299.out 1; have hfz8_2 := blk_frozen BK299.out 2) | ((with_reducible refine gate_callee (f := 68) rfl ?_); refine goesL_ (some 13) rfl rfl Try.func68 (by kernel_rfl) rfl #[.int .u64 (IntKind.u64.wrap (a0_0)), .int .i64 4] rfl (by (try simp only [List.map_toArray, List.map_cons, List.map_nil]); first | done | rfl | (simp only [List.length_drop, List.length_take]; rfl)) ?_; (with_reducible refine (weirkeeperref01_Num.calls k (IntKind.u64.wrap (a0_0)) 4 t300 t301 _ A2.out).mono ?_); rintro e w9 ⟨rfl, hb⟩; refine ⟨_, rfl, ?_⟩; replace BK299 := Aside0.mk (blk_below (bU BK299.out) hb); replace HB := Aside0.mk (below_step (by repeat (first | exact beU HB.out | refine below_set ?_ (Aside0.out ‹_›) | apply below_alloc | apply pw_below_drewN | apply below_drew1)) hb); (try clear hb); (try clear hb2); (try clear hk); (try clear hi); have hcz10_0 : w9.cell? ⟨gb299, 0, none⟩ = some (.int .i64 a0_0) := (blk_cell BK299.out 0).trans rfl; have hcz10_1 : w9.cell? ⟨gb299, 1, none⟩ = some (.int .i64 a0_1) := (blk_cell BK299.out 1).trans rfl; have hcz10_2 : w9.cell? ⟨gb299, 2, none⟩ = some (.int .i64 a0_2) := (blk_cell BK299.out 2).trans rfl; have hfz10_0 := blk_frozen BK299.out 0; have hfz10_1 := blk_frozen BK299.out 1; have hfz10_2 := blk_frozen BK299.out 2) | ((with_reducible refine gate_callee (f := 68) rfl ?_); refine goesL_ (some 20) rfl rfl Try.func68 (by kernel_rfl) rfl #[.int .u64 (IntKind.u64.wrap (a0_1)), .int .i64 4] rfl (by (try simp only [List.map_toArray, List.map_cons, List.map_nil]); first | done | rfl | (simp only [List.length_drop, List.length_take]; rfl)) ?_; (with_reducible refine (weirkeeperref01_Num.calls k (IntKind.u64.wrap (a0_1)) 4 t302 t303 _ A3.out).mono ?_); rintro e w11 ⟨rfl, hb⟩; refine ⟨_, rfl, ?_⟩; replace BK299 := Aside0.mk (blk_below (bU BK299.out) hb); replace HB := Aside0.mk (below_step (by repeat (first | exact beU HB.out | refine below_set ?_ (Aside0.out ‹_›) | apply below_alloc | apply pw_below_drewN | apply below_drew1)) hb); (try clear hb); (try clear hb2); (try clear hk); (try clear hi); have hcz12_0 : w11.cell? ⟨gb299, 0, none⟩ = some (.int .i64 a0_0) := (blk_cell BK299.out 0).trans rfl; have hcz12_1 : w11.cell? ⟨gb299, 1, none⟩ = some (.int .i64 a0_1) := (blk_cell BK299.out 1).trans rfl; have hcz12_2 : w11.cell? ⟨gb299, 2, none⟩ = some (.int .i64 a0_2) := (blk_cell BK299.out 2).trans rfl; have hfz12_0 := blk_frozen BK299.out 0; have hfz12_1 := blk_frozen BK299.out 1; have hfz12_2 := blk_frozen BK299.out 2) | ((with_reducible refine gate_callee (f := 68) rfl ?_); refine goesL_ (some 27) rfl rfl Try.func68 (by kernel_rfl) rfl #[.int .u64 (IntKind.u64.wrap (a0_2)), .int .i64 4] rfl (by (try simp only [List.map_toArray, List.map_cons, List.map_nil]); first | done | rfl | (simp only [List.length_drop, List.length_take]; rfl)) ?_; (with_reducible refine (weirkeeperref01_Num.calls k (IntKind.u64.wrap (a0_2)) 4 t304 t305 _ A4.out).mono ?_); rintro e w13 ⟨rfl, hb⟩; refine ⟨_, rfl, ?_⟩; replace BK299 := Aside0.mk (blk_below (bU BK299.out) hb); replace HB := Aside0.mk (below_step (by repeat (first | exact beU HB.out | refine below_set ?_ (Aside0.out ‹_›) | apply below_alloc | apply pw_below_drewN | apply below_drew1)) hb); (try clear hb); (try clear hb2); (try clear hk); (try clear hi)))
   go_ret
   exact ⟨by first | rfl | (simp [errW_none, errW_some] <;> rfl) | (simp [*, errW_none, errW_some] <;> rfl), by repeat (first | (with_reducible first | exact HB.out | apply below_alloc | apply pw_below_drewN | apply below_drew1 | refine below_set ?_ GE299.out) | exact HB.out)⟩
  ·rw [if_neg c6] at H
   exact absurd H (by simp)
 ·rw [if_neg c5] at H
  exact absurd H (by simp)
def weirkeeperref07_Write.f (k : Nat) (l0_0 : List ByteArray) (l0_1 : List (S84)) (a1_0 : Int) (a1_1 : Int) (a1_2 : Int) : Option (List ByteArray × (List (S84)) × Int) := (weirkeeperref07_Right.f a1_0 a1_1 a1_2).bind fun t309 => (if t309 = true then ((weirkeeperref07_text.f k a1_0 a1_1 a1_2).bind fun t310 => ((weirkeeperref06_Write.f k l0_0 l0_1 (Int.tmod a1_0 2) t310).bind fun bt311 => (some (bt311.1, bt311.2.1, bt311.2.2)))) else (some (l0_0, l0_1, 1)))
theorem weirkeeperref07_Write.mono : ∀ a0 a1 a2 a3 a4 k, LeO (weirkeeperref07_Write.f k a0 a1 a2 a3 a4) (weirkeeperref07_Write.f (k + 1) a0 a1 a2 a3 a4) := by
 intro a0 a1 a2 a3 a4 k
 unfold weirkeeperref07_Write.f
 repeat' first
   | (with_reducible exact weirkeeperref06_Write.mono _ _ _ _ _)
   | (with_reducible exact weirkeeperref07_text.mono _ _ _ _)
   | (with_reducible exact LeO.refl _)
   | (with_reducible exact LeO.none _)
   | (with_reducible refine LeO.ite ?_ ?_)
   | (with_reducible refine LeO.bind ?_ (fun _ => ?_))
   | exact LeO.none _
   | refine LeO.ite ?_ ?_
   | refine LeO.bind ?_ (fun _ => ?_)
def weirkeeperref07_Write.T4 : Bool × List (List Nat × List Nat) := (true, [([], []), ([], []), ([1], [1]), ([2], [2]), ([], []), ([4], [4]), ([0, 3, 5, 5], [0, 3, 5]), ([6], [6]), ([6], [6]), ([7, 6, 0, 1, 2, 3, 4, 5, 6, 7, 8], [7]), ([8, 9, 0, 1, 2, 3, 4, 5, 6, 7, 8, 9], [8])])
def weirkeeperref07_Write.B4 : List Nat := [0, 0, 2, 6, 0, 16, 63, 127, 127, 511, 1023]
theorem weirkeeperref07_Write.tab4 : rtab .any (opsOf Try.f18 4) = weirkeeperref07_Write.T4 := by kernel_rfl
theorem weirkeeperref07_Write.bits4 : waitsOk weirkeeperref07_Write.T4.2 weirkeeperref07_Write.B4 = true := by kernel_rfl
set_option maxHeartbeats 8000000 in
set_option maxRecDepth 100000 in
theorem weirkeeperref07_Write.calls (k : Nat) (P0_0_ : Nat → Prop) (A0_0 : Option Addr) (c0_0 : Nat) (l0_0 : List ByteArray) (P0_1_ : Nat → Prop) (A0_1 : Option Addr) (c0_1 : Nat) (l0_1 : List (S84)) (a1_0 : Int) (a1_1 : Int) (a1_2 : Int) (r1 : List ByteArray) (r2 : List (S84)) (r3 : Int) (w : World) (hs0_0 : Kd.V Kd.string 9 w w.heap.size (fun k_ => P0_0_ k_) (.slice A0_0 l0_0.length c0_0) l0_0) (hs0_1 : Kd.V k84 84 w w.heap.size (fun k_ => P0_1_ k_) (.slice A0_1 l0_1.length c0_1) l0_1) (h : weirkeeperref07_Write.f k l0_0 l0_1 a1_0 a1_1 a1_2 = some (r1, r2, r3)) :
  Calls Try.prog 18 #[.agg #[.slice A0_0 l0_0.length c0_0, .slice A0_1 l0_1.length c0_1], .agg #[.int .i64 a1_0, .int .i64 a1_1, .int .i64 a1_2]] w fun e w' => ∃ v0_ v1_ : Value, e = .returned (.tuple #[.agg #[v0_, v1_], .int .i64 r3]) ∧ Kd.V Kd.string 9 w' w.heap.size (fun k_ => ((P0_0_ k_ ∨ P0_1_ k_) ∨ w.heap.size ≤ k_)) v0_ r1 ∧ Kd.V k84 84 w' w.heap.size (fun k_ => ((P0_0_ k_ ∨ P0_1_ k_) ∨ w.heap.size ≤ k_)) v1_ r2 ∧ Below w.heap.size w w' := by
 have hu30 := Try.underlying30
 have hu39 := Try.underlying39
 have HO0_0 := Aside0.mk (show Kd.V Kd.string 9 w w.heap.size (fun k_ => ((P0_0_ k_ ∨ P0_1_ k_) ∨ w.heap.size ≤ k_)) (.slice A0_0 l0_0.length c0_0) l0_0 from Kd.V_mono hs0_0 (fun k_ hk => .inl (.inl hk)))
 have HO0_1 := Aside0.mk (show Kd.V k84 84 w w.heap.size (fun k_ => ((P0_0_ k_ ∨ P0_1_ k_) ∨ w.heap.size ≤ k_)) (.slice A0_1 l0_1.length c0_1) l0_1 from Kd.V_mono hs0_1 (fun k_ hk => .inl (.inr hk)))
 have HB := Aside0.mk (Below.refl w.heap.size w)
 have H : ((weirkeeperref07_Right.f a1_0 a1_1 a1_2).bind fun t309 => (if t309 = true then ((weirkeeperref07_text.f k a1_0 a1_1 a1_2).bind fun t310 => ((weirkeeperref06_Write.f k l0_0 l0_1 (Int.tmod a1_0 2) t310).bind fun bt311 => (some (bt311.1, bt311.2.1, bt311.2.2)))) else (some (l0_0, l0_1, 1)))) = some (r1, r2, r3) := h
 clear h
 replace H := Option.bind_eq_some_iff.mp H
 obtain ⟨t309, A30, H⟩ := H
 try dsimp only at H
 have A3 := Aside0.mk A30
 clear A30
 by_cases c4 : t309 = true
 ·subst c4
  have H1 : ((weirkeeperref07_text.f k a1_0 a1_1 a1_2).bind fun t310 => ((weirkeeperref06_Write.f k l0_0 l0_1 (Int.tmod a1_0 2) t310).bind fun bt311 => (some (bt311.1, bt311.2.1, bt311.2.2)))) = some (r1, r2, r3) := by rw [if_pos rfl] at H; exact H
  clear H
  have H := H1
  clear H1
  replace H := Option.bind_eq_some_iff.mp H
  obtain ⟨t310, A50, H⟩ := H
  try dsimp only at H
  have A5 := Aside0.mk A50
  clear A50
  replace H := Option.bind_eq_some_iff.mp H
  obtain ⟨⟨t311, t314, t317⟩, A60, H⟩ := H
  try dsimp only at H
  have A6 := Aside0.mk A60
  clear A60
  simp only [Option.some.injEq, Prod.mk.injEq] at H
  obtain ⟨rfl, rfl, rfl⟩ := H
  go_enter Try.func18, Try.ntmps18
  try go_wp2_with (first | ((with_reducible refine gate_dst (N := 2) rfl ?_); refine box_event ?hg (N := 2) ?hd (cs := #[.slice A0_0 l0_0.length c0_0, .slice A0_1 l0_1.length c0_1]) (t := 30) ?hr ?_; (case hd => rfl); (case hg => rfl); (case hr => first | (go_simp; done) | (go_simp; rfl)); intro gb306 hg w7 hbox hb; have BK306 := Aside0.mk (hbox); have GW306 := Aside0.mk ((geU HB.out hg)); have GE306 := Aside0.mk ((geU HB.out hg)); replace HO0_0 := Aside0.mk (Kd.V_below (Kd.V_elderB (vU HO0_0.out) gb306 (Nat.le_of_eq hg.symm)) hb); replace HO0_1 := Aside0.mk (Kd.V_below (Kd.V_elderB (vU HO0_1.out) gb306 (Nat.le_of_eq hg.symm)) hb); replace HB := Aside0.mk (below_step (beU HB.out) hb); clear hb hbox hg) | ((with_reducible refine gate_dst (N := 3) rfl ?_); refine box_event ?hg (N := 3) ?hd (cs := #[.int .i64 a1_0, .int .i64 a1_1, .int .i64 a1_2]) (t := 39) ?hr ?_; (case hd => rfl); (case hg => rfl); (case hr => first | (go_simp; done) | (go_simp; rfl)); intro gb307 hg w8 hbox hb; have BK307 := Aside0.mk (hbox); have GW307 := Aside0.mk ((by first | exact geU HB.out hg | (rw [hg]; exact below_size (by repeat (first | exact beU HB.out | refine below_set ?_ (Aside0.out ‹_›) | apply below_alloc | apply pw_below_drewN | apply below_drew1))))); have GE307 := Aside0.mk ((by first | exact geU HB.out hg | (rw [hg]; exact below_size (by repeat (first | exact beU HB.out | refine below_set ?_ (Aside0.out ‹_›) | apply below_alloc | apply pw_below_drewN | apply below_drew1))))); have NB306_307 := Aside0.mk ((neU BK306.out hg)); have NB307_306 := Aside0.mk ((enU BK306.out hg)); replace HO0_0 := Aside0.mk (Kd.V_below (Kd.V_elderB (vU HO0_0.out) gb307 (Nat.le_of_eq hg.symm)) hb); replace HO0_1 := Aside0.mk (Kd.V_below (Kd.V_elderB (vU HO0_1.out) gb307 (Nat.le_of_eq hg.symm)) hb); replace BK306 := Aside0.mk (blk_below (bU BK306.out) hb); replace HB := Aside0.mk (below_step (by repeat (first | exact beU HB.out | refine below_set ?_ (Aside0.out ‹_›) | apply below_alloc | apply pw_below_drewN | apply below_drew1)) hb); clear hb hbox hg) | ((with_reducible refine gate_dst (N := 4) rfl ?_); refine box_event ?hg (N := 4) ?hd (cs := #[.slice none 0 0, .slice none 0 0]) (t := 30) ?hr ?_; (case hd => rfl); (case hg => rfl); (case hr => first | (go_simp; done) | (go_simp; rfl)); intro gb308 hg w9 hbox hb; have BK308 := Aside0.mk (hbox); have GW308 := Aside0.mk ((by first | exact geU HB.out hg | (rw [hg]; exact below_size (by repeat (first | exact beU HB.out | refine below_set ?_ (Aside0.out ‹_›) | apply below_alloc | apply pw_below_drewN | apply below_drew1))))); have GE308 := Aside0.mk ((by first | exact geU HB.out hg | (rw [hg]; exact below_size (by repeat (first | exact beU HB.out | refine below_set ?_ (Aside0.out ‹_›) | apply below_alloc | apply pw_below_drewN | apply below_drew1))))); have NB306_308 := Aside0.mk ((neU BK306.out hg)); have NB308_306 := Aside0.mk ((enU BK306.out hg)); have NB307_308 := Aside0.mk ((neU BK307.out hg)); have NB308_307 := Aside0.mk ((enU BK307.out hg)); replace HO0_0 := Aside0.mk (Kd.V_below (Kd.V_elderB (vU HO0_0.out) gb308 (Nat.le_of_eq hg.symm)) hb); replace HO0_1 := Aside0.mk (Kd.V_below (Kd.V_elderB (vU HO0_1.out) gb308 (Nat.le_of_eq hg.symm)) hb); replace BK306 := Aside0.mk (blk_below (bU BK306.out) hb); replace BK307 := Aside0.mk (blk_below (bU BK307.out) hb); replace HB := Aside0.mk (below_step (by repeat (first | exact beU HB.out | refine below_set ?_ (Aside0.out ‹_›) | apply below_alloc | apply pw_below_drewN | apply below_drew1)) hb); clear hb hbox hg; have hnb10 := NB307_306.out; have hnc10 := NB306_307.out; have hnb11 := NB307_308.out; have hnc11 := NB308_307.out; have hcz12_0 : w9.cell? ⟨gb307, 0, none⟩ = some (.int .i64 a1_0) := (blk_cell BK307.out 0).trans rfl; have hcz12_1 : w9.cell? ⟨gb307, 1, none⟩ = some (.int .i64 a1_1) := (blk_cell BK307.out 1).trans rfl; have hcz12_2 : w9.cell? ⟨gb307, 2, none⟩ = some (.int .i64 a1_2) := (blk_cell BK307.out 2).trans rfl; have hfz12_0 := blk_frozen BK307.out 0; have hfz12_1 := blk_frozen BK307.out 1; have hfz12_2 := blk_frozen BK307.out 2) | ((with_reducible refine gate_callee (f := 24) rfl ?_); refine goesL_ (some 8) rfl rfl Try.func24 (by kernel_rfl) rfl #[.agg #[.int .i64 a1_0, .int .i64 a1_1, .int .i64 a1_2]] rfl (by (try simp only [List.map_toArray, List.map_cons, List.map_nil]); first | done | rfl | (simp only [List.length_drop, List.length_take]; rfl)) ?_; (with_reducible refine (weirkeeperref07_Right.calls a1_0 a1_1 a1_2 true _ A3.out).mono ?_); rintro e w13 ⟨rfl, hb⟩; refine ⟨_, rfl, ?_⟩; replace HO0_0 := Aside0.mk (Kd.V_below (vU HO0_0.out) hb); replace HO0_1 := Aside0.mk (Kd.V_below (vU HO0_1.out) hb); replace BK306 := Aside0.mk (blk_below (bU BK306.out) hb); replace BK307 := Aside0.mk (blk_below (bU BK307.out) hb); replace BK308 := Aside0.mk (blk_below (bU BK308.out) hb); replace HB := Aside0.mk (below_step (by repeat (first | exact beU HB.out | refine below_set ?_ (Aside0.out ‹_›) | apply below_alloc | apply pw_below_drewN | apply below_drew1)) hb); (try clear hb); (try clear hb2); (try clear hk); (try clear hi)))
  replace HO0_0 := Aside0.mk (Kd.V_drew HO0_0.out)
  replace HO0_1 := Aside0.mk (Kd.V_drew HO0_1.out)
  replace BK306 := Aside0.mk (blk_drew BK306.out)
  replace BK307 := Aside0.mk (blk_drew BK307.out)
  replace BK308 := Aside0.mk (blk_drew BK308.out)
  replace HB := Aside0.mk (below_drew1 HB.out)
  refine start_ (n := 11) (S := fun w' => w'.cell? ⟨gb306, 0, none⟩ = some (.slice A0_0 l0_0.length c0_0) ∧ w'.cell? ⟨gb306, 1, none⟩ = some (.slice A0_1 l0_1.length c0_1) ∧ w'.cell? ⟨gb307, 0, none⟩ = some (.int .i64 a1_0) ∧ w'.cell? ⟨gb307, 1, none⟩ = some (.int .i64 a1_1) ∧ w'.cell? ⟨gb307, 2, none⟩ = some (.int .i64 a1_2)) (ds := []) #[false, false, false, false, false, false, false, false, false, false, false] (by kernel_rfl) rfl rfl ⟨(blk_cell BK306.out 0).trans rfl, (blk_cell BK306.out 1).trans rfl, (blk_cell BK307.out 0).trans rfl, (blk_cell BK307.out 1).trans rfl, (blk_cell BK307.out 2).trans rfl⟩ (fun hHeld => ?_); refine with_tabW weirkeeperref07_Write.tab4 weirkeeperref07_Write.bits4 (fun HT_ HW_ => ?_)
  generalize w13.drew = w14 at HO0_0 HO0_1 BK306 BK307 BK308 HB hHeld ⊢
  refine pure_ (i := 1) (N := some 13) (v := ?_) (a' := ?_) #[false, true, false, false, false, false, false, false, false, false, false] rfl rfl (any_of HT_.out (by kernel_rfl)) (fun _ _ _ h => h) (Or.inl ⟨by rfl, ?_⟩) ?_ ?_
  rotate_left
  ·intro w'
   go_simp
   with_reducible rfl
  rotate_left
  ·simp only [Act.put, List.setIfInBounds_toArray, List.set_cons_zero, List.set_cons_succ, i64_w, i32_w]
   rfl
  refine take_ (i := 0) (N := some 12) (v := ?_) (a' := ?_) #[true, true, false, false, false, false, false, false, false, false, false] rfl rfl (take_ofW HT_.out HW_.out (by kernel_rfl)) (fun _ _ _ h => h) (Or.inl ⟨by rfl, ?_⟩) hHeld ?_ ?_
  rotate_left
  ·rintro w' ⟨s0, s1, s2, s3, s4⟩
   go_simp
   with_reducible rfl
  rotate_left
  ·simp only [Act.put, List.setIfInBounds_toArray, List.set_cons_zero, List.set_cons_succ, i64_w, i32_w]
   rfl
  refine take_ (i := 2) (N := some 14) (v := ?_) (a' := ?_) #[true, true, true, false, false, false, false, false, false, false, false] rfl rfl (take_ofW HT_.out HW_.out (by kernel_rfl)) (fun _ _ _ h => h) (Or.inl ⟨by rfl, ?_⟩) hHeld ?_ ?_
  rotate_left
  ·rintro w' ⟨s0, s1, s2, s3, s4⟩
   go_simp
   with_reducible rfl
  rotate_left
  ·simp only [Act.put, List.setIfInBounds_toArray, List.set_cons_zero, List.set_cons_succ, i64_w, i32_w]
   rfl
  refine pure_ (i := 3) (N := some 15) (v := ?_) (a' := ?_) #[true, true, true, true, false, false, false, false, false, false, false] rfl rfl (any_of HT_.out (by kernel_rfl)) (fun _ _ _ h => h) (Or.inl ⟨by rfl, ?_⟩) ?_ ?_
  rotate_left
  ·intro w'
   go_simp
   with_reducible rfl
  rotate_left
  ·simp only [Act.put, List.setIfInBounds_toArray, List.set_cons_zero, List.set_cons_succ, i64_w, i32_w]
   rfl
  refine take_ (i := 4) (N := some 16) (v := ?_) (a' := ?_) #[true, true, true, true, true, false, false, false, false, false, false] rfl rfl (take_ofW HT_.out HW_.out (by kernel_rfl)) (fun _ _ _ h => h) (Or.inl ⟨by rfl, ?_⟩) hHeld ?_ ?_
  rotate_left
  ·rintro w' ⟨s0, s1, s2, s3, s4⟩
   go_simp
   with_reducible rfl
  rotate_left
  ·simp only [Act.put, List.setIfInBounds_toArray, List.set_cons_zero, List.set_cons_succ, i64_w, i32_w]
   rfl
  refine one_ (i := 5) (N := some 17) #[true, true, true, true, true, true, false, false, false, false, false] rfl rfl (one_of HT_.out (by kernel_rfl)) (by decide) (fun K hK => ?_)
  refine goes_ Try.func44 (by kernel_rfl) rfl #[.agg #[.int .i64 a1_0, .int .i64 a1_1, .int .i64 a1_2]] (by rfl) rfl rfl (by (try simp only [List.map_toArray, List.map_cons, List.map_nil]); first | done | rfl | (simp only [List.length_drop, List.length_take]; rfl)) ?_
  with_reducible refine (weirkeeperref07_text.calls k a1_0 a1_1 a1_2 t310 _ A5.out).mono ?_
  rintro e w15 ⟨rfl, hb⟩
  refine ⟨_, rfl, ?_⟩
  replace HO0_0 := Aside0.mk (Kd.V_below (vU HO0_0.out) hb)
  replace HO0_1 := Aside0.mk (Kd.V_below (vU HO0_1.out) hb)
  replace BK306 := Aside0.mk (blk_below (bU BK306.out) hb)
  replace BK307 := Aside0.mk (blk_below (bU BK307.out) hb)
  replace BK308 := Aside0.mk (blk_below (bU BK308.out) hb)
  replace HB := Aside0.mk (below_step (by repeat (first | exact beU HB.out | refine below_set ?_ (Aside0.out ‹_›) | apply below_alloc | apply pw_below_drewN | apply below_drew1)) hb)
  (try clear hb)
  (try clear hb2)
  (try clear hk)
  (try clear hi)
  refine hK.out _ _ ⟨(blk_cell BK306.out 0).trans rfl, (blk_cell BK306.out 1).trans rfl, (blk_cell BK307.out 0).trans rfl, (blk_cell BK307.out 1).trans rfl, (blk_cell BK307.out 2).trans rfl⟩ (fun hHeld => ?_)
  clear hK K
  refine norm_ (a' := ?_) ?_ ?_
  rotate_left
  ·show Act.put _ (some 17) _ = _
   simp only [Act.put, List.setIfInBounds_toArray, List.set_cons_zero, List.set_cons_succ, i64_w, i32_w]
   rfl
  refine one_ (i := 6) (N := some 18) #[true, true, true, true, true, true, true, false, false, false, false] rfl rfl (one_of HT_.out (by kernel_rfl)) (by decide) (fun K hK => ?_)
  refine goes_ Try.func43 (by kernel_rfl) rfl #[.agg #[.slice A0_0 l0_0.length c0_0, .slice A0_1 l0_1.length c0_1], .int .i64 (Int.tmod a1_0 2), .string t310] (by rfl) rfl rfl (by (try simp only [List.map_toArray, List.map_cons, List.map_nil]); first | done | rfl | (simp only [List.length_drop, List.length_take]; rfl)) ?_
  with_reducible refine (weirkeeperref06_Write.calls k (fun k_ => (((((P0_0_ k_ ∨ P0_1_ k_) ∨ w.heap.size ≤ k_) ∧ k_ ≠ gb306) ∧ k_ ≠ gb307) ∧ k_ ≠ gb308)) _ _ l0_0 (fun k_ => (((((P0_0_ k_ ∨ P0_1_ k_) ∨ w.heap.size ≤ k_) ∧ k_ ≠ gb306) ∧ k_ ≠ gb307) ∧ k_ ≠ gb308)) _ _ l0_1 (Int.tmod a1_0 2) t310 t311 t314 t317 _ ?side1 ?side2 A6.out).mono ?_
  (case side1 => exact HO0_0.out)
  (case side2 => exact HO0_1.out)
  rintro e w16 ⟨v312, v315, rfl, ho0, ho1, hb⟩
  refine ⟨_, rfl, ?_⟩
  have HO313 := Aside0.mk (Kd.V_lower (Kd.V_mono (ok' := fun k_ => ((P0_0_ k_ ∨ P0_1_ k_) ∨ w.heap.size ≤ k_) ∧ k_ ≠ gb306 ∧ k_ ≠ gb307 ∧ k_ ≠ gb308) ho0 (fun k_ hk_ => ⟨Or.elim hk_ (fun hs_ => Or.elim hs_ (fun hs_ => hs_.1.1.1) (fun hs_ => hs_.1.1.1)) (fun hn_ => (.inr (Nat.le_trans (below_size (by repeat (first | exact beU HB.out | refine below_set ?_ (Aside0.out ‹_›) | apply below_alloc | apply pw_below_drewN | apply below_drew1))) hn_))), Or.elim hk_ (fun hs_ => Or.elim hs_ (fun hs_ => hs_.1.1.2) (fun hs_ => hs_.1.1.2)) (fun hn_ => (Kd.freshB (g := gb306) (o := .cells #[.slice A0_0 l0_0.length c0_0, .slice A0_1 l0_1.length c0_1] 30 (0, 0)) (bU BK306.out) k_ hn_)), Or.elim hk_ (fun hs_ => Or.elim hs_ (fun hs_ => hs_.1.2) (fun hs_ => hs_.1.2)) (fun hn_ => (Kd.freshB (g := gb307) (o := .cells #[.int .i64 a1_0, .int .i64 a1_1, .int .i64 a1_2] 39 (0, 0)) (bU BK307.out) k_ hn_)), Or.elim hk_ (fun hs_ => Or.elim hs_ (fun hs_ => hs_.2) (fun hs_ => hs_.2)) (fun hn_ => (Kd.freshB (g := gb308) (o := .cells #[.slice none 0 0, .slice none 0 0] 30 (0, 0)) (bU BK308.out) k_ hn_))⟩)) (below_size (by repeat (first | exact beU HB.out | refine below_set ?_ (Aside0.out ‹_›) | apply below_alloc | apply pw_below_drewN | apply below_drew1))))
  have HO316 := Aside0.mk (Kd.V_lower (Kd.V_mono (ok' := fun k_ => ((P0_0_ k_ ∨ P0_1_ k_) ∨ w.heap.size ≤ k_) ∧ k_ ≠ gb306 ∧ k_ ≠ gb307 ∧ k_ ≠ gb308) ho1 (fun k_ hk_ => ⟨Or.elim hk_ (fun hs_ => Or.elim hs_ (fun hs_ => hs_.1.1.1) (fun hs_ => hs_.1.1.1)) (fun hn_ => (.inr (Nat.le_trans (below_size (by repeat (first | exact beU HB.out | refine below_set ?_ (Aside0.out ‹_›) | apply below_alloc | apply pw_below_drewN | apply below_drew1))) hn_))), Or.elim hk_ (fun hs_ => Or.elim hs_ (fun hs_ => hs_.1.1.2) (fun hs_ => hs_.1.1.2)) (fun hn_ => (Kd.freshB (g := gb306) (o := .cells #[.slice A0_0 l0_0.length c0_0, .slice A0_1 l0_1.length c0_1] 30 (0, 0)) (bU BK306.out) k_ hn_)), Or.elim hk_ (fun hs_ => Or.elim hs_ (fun hs_ => hs_.1.2) (fun hs_ => hs_.1.2)) (fun hn_ => (Kd.freshB (g := gb307) (o := .cells #[.int .i64 a1_0, .int .i64 a1_1, .int .i64 a1_2] 39 (0, 0)) (bU BK307.out) k_ hn_)), Or.elim hk_ (fun hs_ => Or.elim hs_ (fun hs_ => hs_.2) (fun hs_ => hs_.2)) (fun hn_ => (Kd.freshB (g := gb308) (o := .cells #[.slice none 0 0, .slice none 0 0] 30 (0, 0)) (bU BK308.out) k_ hn_))⟩)) (below_size (by repeat (first | exact beU HB.out | refine below_set ?_ (Aside0.out ‹_›) | apply below_alloc | apply pw_below_drewN | apply below_drew1))))
  replace HO0_0 := Aside0.mk (Kd.V_below (vU HO0_0.out) hb)
  replace HO0_1 := Aside0.mk (Kd.V_below (vU HO0_1.out) hb)
  replace BK306 := Aside0.mk (blk_below (bU BK306.out) hb)
  replace BK307 := Aside0.mk (blk_below (bU BK307.out) hb)
  replace BK308 := Aside0.mk (blk_below (bU BK308.out) hb)
  replace HB := Aside0.mk (below_step (by repeat (first | exact beU HB.out | refine below_set ?_ (Aside0.out ‹_›) | apply below_alloc | apply pw_below_drewN | apply below_drew1)) hb)
  (try clear hb)
  (try clear hb2)
  (try clear hk)
  (try clear hi)
  (try clear ho0)
  (try clear ho1)
  obtain ⟨Ao17, co17, eo17⟩ := Kd.V_slice HO313.out
  (first | subst eo17 | (injection eo17 with f1_ f2_ f3_; have f4_ := f1_.symm; have f5_ := f3_.symm; clear f1_ f2_ f3_; subst f4_; subst f5_))
  obtain ⟨Ao19, co19, eo19⟩ := Kd.V_slice HO316.out
  (first | subst eo19 | (injection eo19 with f1_ f2_ f3_; have f4_ := f1_.symm; have f5_ := f3_.symm; clear f1_ f2_ f3_; subst f4_; subst f5_))
  refine hK.out _ _ ⟨(blk_cell BK306.out 0).trans rfl, (blk_cell BK306.out 1).trans rfl, (blk_cell BK307.out 0).trans rfl, (blk_cell BK307.out 1).trans rfl, (blk_cell BK307.out 2).trans rfl⟩ (fun hHeld => ?_)
  clear hK K
  refine norm_ (a' := ?_) ?_ ?_
  rotate_left
  ·show Act.put _ (some 18) _ = _
   simp only [Act.put, List.setIfInBounds_toArray, List.set_cons_zero, List.set_cons_succ, i64_w, i32_w]
   rfl
  refine pure_ (i := 7) (N := some 19) (v := ?_) (a' := ?_) #[true, true, true, true, true, true, true, true, false, false, false] rfl rfl (any_of HT_.out (by kernel_rfl)) (fun _ _ _ h => h) (Or.inl ⟨by rfl, ?_⟩) ?_ ?_
  rotate_left
  ·intro w'
   go_simp
   with_reducible rfl
  rotate_left
  ·simp only [Act.put, List.setIfInBounds_toArray, List.set_cons_zero, List.set_cons_succ, i64_w, i32_w]
   rfl
  refine pure_ (i := 8) (N := some 20) (v := ?_) (a' := ?_) #[true, true, true, true, true, true, true, true, true, false, false] rfl rfl (any_of HT_.out (by kernel_rfl)) (fun _ _ _ h => h) (Or.inl ⟨by rfl, ?_⟩) ?_ ?_
  rotate_left
  ·intro w'
   go_simp
   with_reducible rfl
  rotate_left
  ·simp only [Act.put, List.setIfInBounds_toArray, List.set_cons_zero, List.set_cons_succ, i64_w, i32_w]
   rfl
  refine one_ (i := 9) (N := none) #[true, true, true, true, true, true, true, true, true, true, false] rfl rfl (one_of HT_.out (by kernel_rfl)) (by decide) (fun K hK => ?_)
  have hs18 : w16.cell? ⟨gb308, 0, none⟩ = some (.slice none 0 0) := (blk_cell BK308.out 0).trans rfl
  have hfs18 := blk_frozen BK308.out 0
  have hns18_0 := NB306_308.out
  have hns18_1 := NB307_308.out
  have hms18_0 := NB308_306.out
  have hms18_1 := NB308_307.out
  have hs20 : w16.cell? ⟨gb308, 1, none⟩ = some (.slice none 0 0) := (blk_cell BK308.out 1).trans rfl
  have hfs20 := blk_frozen BK308.out 1
  have hns20_0 := NB306_308.out
  have hns20_1 := NB307_308.out
  have hms20_0 := NB308_306.out
  have hms20_1 := NB308_307.out
  refine skip_ (w1 := ?_) (by rfl) rfl ?_ ?_
  rotate_left
  ·go_simp
   rfl
  refine hK.out _ _ ⟨((cell_far (p := ⟨gb308, _, none⟩) NB306_308.out _).trans (((cell_far (p := ⟨gb308, _, none⟩) NB306_308.out _).trans (hHeld.1)))), ((cell_far (p := ⟨gb308, _, none⟩) NB306_308.out _).trans (((cell_far (p := ⟨gb308, _, none⟩) NB306_308.out _).trans (hHeld.2.1)))), ((cell_far (p := ⟨gb308, _, none⟩) NB307_308.out _).trans (((cell_far (p := ⟨gb308, _, none⟩) NB307_308.out _).trans (hHeld.2.2.1)))), ((cell_far (p := ⟨gb308, _, none⟩) NB307_308.out _).trans (((cell_far (p := ⟨gb308, _, none⟩) NB307_308.out _).trans (hHeld.2.2.2.1)))), ((cell_far (p := ⟨gb308, _, none⟩) NB307_308.out _).trans (((cell_far (p := ⟨gb308, _, none⟩) NB307_308.out _).trans (hHeld.2.2.2.2))))⟩ (fun hHeld => ?_)
  clear hK K
  refine pure_ (i := 10) (N := some 5) (v := ?_) (a' := ?_) #[true, true, true, true, true, true, true, true, true, true, true] rfl rfl (any_of HT_.out (by kernel_rfl)) (fun _ _ _ h => h) (Or.inl ⟨by rfl, ?_⟩) ?_ ?_
  rotate_left
  ·intro w'
   go_simp
   with_reducible rfl
  rotate_left
  ·simp only [Act.put, List.setIfInBounds_toArray, List.set_cons_zero, List.set_cons_succ, i64_w, i32_w]
   rfl
  refine done_ (done_of HT_.out (by kernel_rfl)) ?_
  try go_wp2
  refine bodyPost_ret (results_ct rfl _ _ gb308 30 #[.slice Ao17 t311.length co17, .slice Ao19 t314.length co19] (0, 0) _ rfl (by (with_reducible repeat (first | refine blk_drewN ?_ _ | refine blk_drew ?_ | refine blk_alloc ?_ _)); refine blk_put (cs := #[.slice Ao17 t311.length co17, .slice none 0 0]) ?_ 1 _ rfl; (with_reducible repeat (first | refine blk_drewN ?_ _ | refine blk_drew ?_ | refine blk_alloc ?_ _)); refine blk_put (cs := #[.slice none 0 0, .slice none 0 0]) ?_ 0 _ rfl; (with_reducible repeat (first | refine blk_drewN ?_ _ | refine blk_drew ?_ | refine blk_alloc ?_ _)); exact BK308.out) Try.underlying30 rfl (by kernel_rfl)) rfl ?_
  exact ⟨_, _, by first | rfl | (simp [errW_none, errW_some] <;> rfl) | (simp [*, errW_none, errW_some] <;> rfl), by (with_reducible repeat (first | apply Kd.V_alloc | apply Kd.V_drewN | apply Kd.V_drew)); exact Kd.V_mono (Kd.V_far (p := ⟨gb308, 1, none⟩) (Kd.V_far (p := ⟨gb308, 0, none⟩) (Kd.V_mono HO313.out (fun k_ hk => (⟨hk, hk.2.2.2⟩ : _ ∧ k_ ≠ gb308))) (fun _ hk => hk.2) (.slice Ao17 t311.length co17)) (fun _ hk => hk.2) (.slice Ao19 t314.length co19)) (fun _ hk => hk.1.1), by (with_reducible repeat (first | apply Kd.V_alloc | apply Kd.V_drewN | apply Kd.V_drew)); exact Kd.V_mono (Kd.V_far (p := ⟨gb308, 1, none⟩) (Kd.V_far (p := ⟨gb308, 0, none⟩) (Kd.V_mono HO316.out (fun k_ hk => (⟨hk, hk.2.2.2⟩ : _ ∧ k_ ≠ gb308))) (fun _ hk => hk.2) (.slice Ao17 t311.length co17)) (fun _ hk => hk.2) (.slice Ao19 t314.length co19)) (fun _ hk => hk.1.1), by repeat (first | (with_reducible first | exact HB.out | apply below_alloc | apply pw_below_drewN | apply below_drew1 | refine below_set ?_ GE306.out | refine below_set ?_ GE307.out | refine below_set ?_ GE308.out) | exact HB.out)⟩
 ·replace c4 := Bool.eq_false_iff.mpr c4
  subst c4
  have H1 : (some (l0_0, l0_1, 1)) = some (r1, r2, r3) := by rw [if_neg (show ¬ (false = true) by decide)] at H; exact H
  clear H
  have H := H1
  clear H1
  simp only [Option.some.injEq, Prod.mk.injEq] at H
  obtain ⟨rfl, rfl, rfl⟩ := H
  go_enter Try.func18, Try.ntmps18
  go_wp2_with (first | ((with_reducible refine gate_dst (N := 2) rfl ?_); refine box_event ?hg (N := 2) ?hd (cs := #[.slice A0_0 l0_0.length c0_0, .slice A0_1 l0_1.length c0_1]) (t := 30) ?hr ?_; (case hd => rfl); (case hg => rfl); (case hr => first | (go_simp; done) | (go_simp; rfl)); intro gb306 hg w21 hbox hb; have BK306 := Aside0.mk (hbox); have GW306 := Aside0.mk ((geU HB.out hg)); have GE306 := Aside0.mk ((geU HB.out hg)); replace HO0_0 := Aside0.mk (Kd.V_below (Kd.V_elderB (vU HO0_0.out) gb306 (Nat.le_of_eq hg.symm)) hb); replace HO0_1 := Aside0.mk (Kd.V_below (Kd.V_elderB (vU HO0_1.out) gb306 (Nat.le_of_eq hg.symm)) hb); replace HB := Aside0.mk (below_step (beU HB.out) hb); clear hb hbox hg) | ((with_reducible refine gate_dst (N := 3) rfl ?_); refine box_event ?hg (N := 3) ?hd (cs := #[.int .i64 a1_0, .int .i64 a1_1, .int .i64 a1_2]) (t := 39) ?hr ?_; (case hd => rfl); (case hg => rfl); (case hr => first | (go_simp; done) | (go_simp; rfl)); intro gb307 hg w22 hbox hb; have BK307 := Aside0.mk (hbox); have GW307 := Aside0.mk ((by first | exact geU HB.out hg | (rw [hg]; exact below_size (by repeat (first | exact beU HB.out | refine below_set ?_ (Aside0.out ‹_›) | apply below_alloc | apply pw_below_drewN | apply below_drew1))))); have GE307 := Aside0.mk ((by first | exact geU HB.out hg | (rw [hg]; exact below_size (by repeat (first | exact beU HB.out | refine below_set ?_ (Aside0.out ‹_›) | apply below_alloc | apply pw_below_drewN | apply below_drew1))))); have NB306_307 := Aside0.mk ((neU BK306.out hg)); have NB307_306 := Aside0.mk ((enU BK306.out hg)); replace HO0_0 := Aside0.mk (Kd.V_below (Kd.V_elderB (vU HO0_0.out) gb307 (Nat.le_of_eq hg.symm)) hb); replace HO0_1 := Aside0.mk (Kd.V_below (Kd.V_elderB (vU HO0_1.out) gb307 (Nat.le_of_eq hg.symm)) hb); replace BK306 := Aside0.mk (blk_below (bU BK306.out) hb); replace HB := Aside0.mk (below_step (by repeat (first | exact beU HB.out | refine below_set ?_ (Aside0.out ‹_›) | apply below_alloc | apply pw_below_drewN | apply below_drew1)) hb); clear hb hbox hg) | ((with_reducible refine gate_dst (N := 4) rfl ?_); refine box_event ?hg (N := 4) ?hd (cs := #[.slice none 0 0, .slice none 0 0]) (t := 30) ?hr ?_; (case hd => rfl); (case hg => rfl); (case hr => first | (go_simp; done) | (go_simp; rfl)); intro gb308 hg w23 hbox hb; have BK308 := Aside0.mk (hbox); have GW308 := Aside0.mk ((by first | exact geU HB.out hg | (rw [hg]; exact below_size (by repeat (first | exact beU HB.out | refine below_set ?_ (Aside0.out ‹_›) | apply below_alloc | apply pw_below_drewN | apply below_drew1))))); have GE308 := Aside0.mk ((by first | exact geU HB.out hg | (rw [hg]; exact below_size (by repeat (first | exact beU HB.out | refine below_set ?_ (Aside0.out ‹_›) | apply below_alloc | apply pw_below_drewN | apply below_drew1))))); have NB306_308 := Aside0.mk ((neU BK306.out hg)); have NB308_306 := Aside0.mk ((enU BK306.out hg)); have NB307_308 := Aside0.mk ((neU BK307.out hg)); have NB308_307 := Aside0.mk ((enU BK307.out hg)); replace HO0_0 := Aside0.mk (Kd.V_below (Kd.V_elderB (vU HO0_0.out) gb308 (Nat.le_of_eq hg.symm)) hb); replace HO0_1 := Aside0.mk (Kd.V_below (Kd.V_elderB (vU HO0_1.out) gb308 (Nat.le_of_eq hg.symm)) hb); replace BK306 := Aside0.mk (blk_below (bU BK306.out) hb); replace BK307 := Aside0.mk (blk_below (bU BK307.out) hb); replace HB := Aside0.mk (below_step (by repeat (first | exact beU HB.out | refine below_set ?_ (Aside0.out ‹_›) | apply below_alloc | apply pw_below_drewN | apply below_drew1)) hb); clear hb hbox hg; have hnb24 := NB307_306.out; have hnc24 := NB306_307.out; have hnb25 := NB307_308.out; have hnc25 := NB308_307.out; have hcz26_0 : w23.cell? ⟨gb307, 0, none⟩ = some (.int .i64 a1_0) := (blk_cell BK307.out 0).trans rfl; have hcz26_1 : w23.cell? ⟨gb307, 1, none⟩ = some (.int .i64 a1_1) := (blk_cell BK307.out 1).trans rfl; have hcz26_2 : w23.cell? ⟨gb307, 2, none⟩ = some (.int .i64 a1_2) := (blk_cell BK307.out 2).trans rfl; have hfz26_0 := blk_frozen BK307.out 0; have hfz26_1 := blk_frozen BK307.out 1; have hfz26_2 := blk_frozen BK307.out 2) | ((with_reducible refine gate_callee (f := 24) rfl ?_); refine goesL_ (some 8) rfl rfl Try.func24 (by kernel_rfl) rfl #[.agg #[.int .i64 a1_0, .int .i64 a1_1, .int .i64 a1_2]] rfl (by (try simp only [List.map_toArray, List.map_cons, List.map_nil]); first | done | rfl | (simp only [List.length_drop, List.length_take]; rfl)) ?_; (with_reducible refine (weirkeeperref07_Right.calls a1_0 a1_1 a1_2 false _ A3.out).mono ?_); rintro e w27 ⟨rfl, hb⟩; refine ⟨_, rfl, ?_⟩; replace HO0_0 := Aside0.mk (Kd.V_below (vU HO0_0.out) hb); replace HO0_1 := Aside0.mk (Kd.V_below (vU HO0_1.out) hb); replace BK306 := Aside0.mk (blk_below (bU BK306.out) hb); replace BK307 := Aside0.mk (blk_below (bU BK307.out) hb); replace BK308 := Aside0.mk (blk_below (bU BK308.out) hb); replace HB := Aside0.mk (below_step (by repeat (first | exact beU HB.out | refine below_set ?_ (Aside0.out ‹_›) | apply below_alloc | apply pw_below_drewN | apply below_drew1)) hb); (try clear hb); (try clear hb2); (try clear hk); (try clear hi); have hnb28 := NB306_308.out; have hnc28 := NB308_306.out; have hcz29_0 : w27.cell? ⟨gb306, 0, none⟩ = some (.slice A0_0 l0_0.length c0_0) := (blk_cell BK306.out 0).trans rfl; have hcz29_1 : w27.cell? ⟨gb306, 1, none⟩ = some (.slice A0_1 l0_1.length c0_1) := (blk_cell BK306.out 1).trans rfl; have hfz29_0 := blk_frozen BK306.out 0; have hfz29_1 := blk_frozen BK306.out 1; have hcz30_0 : w27.cell? ⟨gb308, 0, none⟩ = some (.slice none 0 0) := (blk_cell BK308.out 0).trans rfl; have hcz30_1 : w27.cell? ⟨gb308, 1, none⟩ = some (.slice none 0 0) := (blk_cell BK308.out 1).trans rfl; have hfz30_0 := blk_frozen BK308.out 0; have hfz30_1 := blk_frozen BK308.out 1))
  refine bodyPost_ret (results_ct rfl _ _ gb308 30 #[.slice A0_0 l0_0.length c0_0, .slice A0_1 l0_1.length c0_1] (0, 0) _ rfl (by (with_reducible repeat (first | refine blk_drewN ?_ _ | refine blk_drew ?_ | refine blk_alloc ?_ _)); refine blk_put (cs := #[.slice A0_0 l0_0.length c0_0, .slice none 0 0]) ?_ 1 _ rfl; (with_reducible repeat (first | refine blk_drewN ?_ _ | refine blk_drew ?_ | refine blk_alloc ?_ _)); refine blk_put (cs := #[.slice none 0 0, .slice none 0 0]) ?_ 0 _ rfl; (with_reducible repeat (first | refine blk_drewN ?_ _ | refine blk_drew ?_ | refine blk_alloc ?_ _)); exact BK308.out) Try.underlying30 rfl (by kernel_rfl)) rfl ?_
  exact ⟨_, _, by first | rfl | (simp [errW_none, errW_some] <;> rfl) | (simp [*, errW_none, errW_some] <;> rfl), by (with_reducible repeat (first | apply Kd.V_alloc | apply Kd.V_drewN | apply Kd.V_drew)); exact Kd.V_mono (Kd.V_far (p := ⟨gb308, 1, none⟩) (Kd.V_far (p := ⟨gb308, 0, none⟩) (Kd.V_mono HO0_0.out (fun k_ hk => (⟨hk, hk.2⟩ : _ ∧ k_ ≠ gb308))) (fun _ hk => hk.2) (.slice A0_0 l0_0.length c0_0)) (fun _ hk => hk.2) (.slice A0_1 l0_1.length c0_1)) (fun _ hk => hk.1.1.1.1), by (with_reducible repeat (first | apply Kd.V_alloc | apply Kd.V_drewN | apply Kd.V_drew)); exact Kd.V_mono (Kd.V_far (p := ⟨gb308, 1, none⟩) (Kd.V_far (p := ⟨gb308, 0, none⟩) (Kd.V_mono HO0_1.out (fun k_ hk => (⟨hk, hk.2⟩ : _ ∧ k_ ≠ gb308))) (fun _ hk => hk.2) (.slice A0_0 l0_0.length c0_0)) (fun _ hk => hk.2) (.slice A0_1 l0_1.length c0_1)) (fun _ hk => hk.1.1.1.1), by repeat (first | (with_reducible first | exact HB.out | apply below_alloc | apply pw_below_drewN | apply below_drew1 | refine below_set ?_ GE306.out | refine below_set ?_ GE307.out | refine below_set ?_ GE308.out) | exact HB.out)⟩
end Go.Proofs.Ythcohkgpbjcliaa.F
