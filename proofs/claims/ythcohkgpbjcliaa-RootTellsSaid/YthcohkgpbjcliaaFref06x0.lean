import Derived.Test.YthcohkgpbjcliaaFUp
import Derived.Test.YthcohkgpbjcliaaFPre
import Derived.Test.YthcohkgpbjcliaaFref01
import Derived.Test.YthcohkgpbjcliaaFref02
import Derived.Test.YthcohkgpbjcliaaFref04x1
import Derived.Test.YthcohkgpbjcliaaFref06C
namespace Go.Proofs.Ythcohkgpbjcliaa.F
open Go.RowKit Go.Proofs.YthcohkgpbjcliaaW.PrintWords Go.Proofs.YthcohkgpbjcliaaW.PrintLast Go.Proofs.YthcohkgpbjcliaaW.PrintMore
attribute [local go_sem] max2_int min2_int max_two min_two max_three min_three max_four min_four
set_option linter.unusedVariables false
set_option linter.unusedSimpArgs false
def weirkeeperref06_Bytes.f (k : Nat) (a0 : ByteArray) : Option (ByteArray) := (weirkeeperref01_Num.f k (IntKind.u64.wrap ((a0.size : Int))) 4).bind fun bt281 => (if bt281.1.size + a0.size ≤ 9223372036854775807 then ((weirkeeperref02_Sum.f k (bt281.1 ++ a0)).bind fun t283 => ((weirkeeperref01_Num.f k (IntKind.u64.wrap (t283)) 3).bind fun bt284 => (if bt281.1.size + bt284.1.size ≤ 9223372036854775807 then (if (bt281.1 ++ bt284.1).size + a0.size ≤ 9223372036854775807 then (some ((bt281.1 ++ bt284.1) ++ a0)) else (none)) else (none)))) else (none))
theorem weirkeeperref06_Bytes.mono : ∀ a0 k, LeO (weirkeeperref06_Bytes.f k a0) (weirkeeperref06_Bytes.f (k + 1) a0) := by
 intro a0 k
 unfold weirkeeperref06_Bytes.f
 repeat' first
   | (with_reducible exact weirkeeperref01_Num.mono _ _ _)
   | (with_reducible exact weirkeeperref02_Sum.mono _ _)
   | (with_reducible exact LeO.refl _)
   | (with_reducible exact LeO.none _)
   | (with_reducible refine LeO.ite ?_ ?_)
   | (with_reducible refine LeO.bind ?_ (fun _ => ?_))
   | exact LeO.none _
   | refine LeO.ite ?_ ?_
   | refine LeO.bind ?_ (fun _ => ?_)
set_option maxHeartbeats 8000000 in
set_option maxRecDepth 100000 in
theorem weirkeeperref06_Bytes.calls (k : Nat) (a0 : ByteArray) (r : ByteArray) (w : World) (h : weirkeeperref06_Bytes.f k a0 = some r) :
  Calls Try.prog 67 #[.string a0] w fun e w' => e = .returned (.string r) ∧ Below w.heap.size w w' := by
 have HB := Aside0.mk (Below.refl w.heap.size w)
 have H : ((weirkeeperref01_Num.f k (IntKind.u64.wrap ((a0.size : Int))) 4).bind fun bt281 => (if bt281.1.size + a0.size ≤ 9223372036854775807 then ((weirkeeperref02_Sum.f k (bt281.1 ++ a0)).bind fun t283 => ((weirkeeperref01_Num.f k (IntKind.u64.wrap (t283)) 3).bind fun bt284 => (if bt281.1.size + bt284.1.size ≤ 9223372036854775807 then (if (bt281.1 ++ bt284.1).size + a0.size ≤ 9223372036854775807 then (some ((bt281.1 ++ bt284.1) ++ a0)) else (none)) else (none)))) else (none))) = some r := h
 clear h
 replace H := Option.bind_eq_some_iff.mp H
 obtain ⟨⟨t281, t282⟩, A20, H⟩ := H
 try dsimp only at H
 have A2 := Aside0.mk A20
 clear A20
 by_cases c3 : t281.size + a0.size ≤ 9223372036854775807
 ·rw [if_pos c3] at H
  have c3b0 := eq_true c3
  have c3b1 : decide (t281.size + a0.size ≤ 9223372036854775807) = true := decide_eq_true c3
  try have c3b2 : (9223372036854775807 < t281.size + a0.size) = False := eq_false (Nat.not_lt.2 c3)
  clear c3
  replace H := Option.bind_eq_some_iff.mp H
  obtain ⟨t283, A40, H⟩ := H
  try dsimp only at H
  have A4 := Aside0.mk A40
  clear A40
  replace H := Option.bind_eq_some_iff.mp H
  obtain ⟨⟨t284, t285⟩, A50, H⟩ := H
  try dsimp only at H
  have A5 := Aside0.mk A50
  clear A50
  by_cases c6 : t281.size + t284.size ≤ 9223372036854775807
  ·rw [if_pos c6] at H
   have c6b0 := eq_true c6
   have c6b1 : decide (t281.size + t284.size ≤ 9223372036854775807) = true := decide_eq_true c6
   try have c6b2 : (9223372036854775807 < t281.size + t284.size) = False := eq_false (Nat.not_lt.2 c6)
   clear c6
   by_cases c7 : (t281 ++ t284).size + a0.size ≤ 9223372036854775807
   ·rw [if_pos c7] at H
    have c7b0 := eq_true c7
    have c7b1 : decide ((t281 ++ t284).size + a0.size ≤ 9223372036854775807) = true := decide_eq_true c7
    try have c7b2 : (9223372036854775807 < (t281 ++ t284).size + a0.size) = False := eq_false (Nat.not_lt.2 c7)
    clear c7
    try (have c7b9 := c7b2; simp only [ByteArray.size_append, ByteArray.size_extract, Nat.min_self] at c7b9)
    obtain rfl := Option.some.inj H
    go_enter Try.func67, Try.ntmps67
    go_wp2_with (first | ((with_reducible refine gate_callee (f := 68) rfl ?_); refine goesL_ (some 11) rfl rfl Try.func68 (by kernel_rfl) rfl #[.int .u64 (IntKind.u64.wrap ((a0.size : Int))), .int .i64 4] rfl (by (try simp only [List.map_toArray, List.map_cons, List.map_nil]); first | done | rfl | (simp only [List.length_drop, List.length_take]; rfl)) ?_; (with_reducible refine (weirkeeperref01_Num.calls k (IntKind.u64.wrap ((a0.size : Int))) 4 t281 t282 _ A2.out).mono ?_); rintro e w8 ⟨rfl, hb⟩; refine ⟨_, rfl, ?_⟩; replace HB := Aside0.mk (below_step (beU HB.out) hb); (try clear hb); (try clear hb2); (try clear hk); (try clear hi)) | ((with_reducible refine gate_callee (f := 74) rfl ?_); refine goesL_ (some 18) rfl rfl Try.func74 (by kernel_rfl) rfl #[.string (t281 ++ a0)] rfl (by (try simp only [List.map_toArray, List.map_cons, List.map_nil]); first | done | rfl | (simp only [List.length_drop, List.length_take]; rfl)) ?_; (with_reducible refine (weirkeeperref02_Sum.calls k (t281 ++ a0) t283 _ A4.out).mono ?_); rintro e w' ⟨rfl, ⟨nd, rfl⟩⟩; refine ⟨_, rfl, ?_⟩) | ((with_reducible refine gate_callee (f := 68) rfl ?_); refine goesL_ (some 20) rfl rfl Try.func68 (by kernel_rfl) rfl #[.int .u64 (IntKind.u64.wrap (t283)), .int .i64 3] rfl (by (try simp only [List.map_toArray, List.map_cons, List.map_nil]); first | done | rfl | (simp only [List.length_drop, List.length_take]; rfl)) ?_; (with_reducible refine (weirkeeperref01_Num.calls k (IntKind.u64.wrap (t283)) 3 t284 t285 _ A5.out).mono ?_); rintro e w9 ⟨rfl, hb⟩; refine ⟨_, rfl, ?_⟩; replace HB := Aside0.mk (below_step (beU HB.out) hb); (try clear hb); (try clear hb2); (try clear hk); (try clear hi)))
    go_ret
    exact ⟨by first | rfl | (simp [errW_none, errW_some] <;> rfl) | (simp [*, errW_none, errW_some] <;> rfl), by repeat (first | (with_reducible first | exact HB.out | apply below_alloc | apply pw_below_drewN | apply below_drew1) | exact HB.out)⟩
   ·rw [if_neg c7] at H
    exact absurd H (by simp)
  ·rw [if_neg c6] at H
   exact absurd H (by simp)
 ·rw [if_neg c3] at H
  exact absurd H (by simp)
def weirkeeperref06_Write.f (k : Nat) (l0_0 : List ByteArray) (l0_1 : List (S84)) (a1 : Int) (a2 : ByteArray) : Option (List ByteArray × (List (S84)) × Int) := if (a2.size : Int) > 65535 then (some (l0_0, l0_1, 1)) else ((weirkeeperref06_Bytes.f k a2).bind fun t288 => ((weirkeeperref06_Cut.f t288).bind fun t289 => ((weirkeeperref04_Put.f k l0_0 l0_1 a1 t289).bind fun bt292 => (some (bt292.1, bt292.2.1, bt292.2.2)))))
theorem weirkeeperref06_Write.mono : ∀ a0 a1 a2 a3 k, LeO (weirkeeperref06_Write.f k a0 a1 a2 a3) (weirkeeperref06_Write.f (k + 1) a0 a1 a2 a3) := by
 intro a0 a1 a2 a3 k
 unfold weirkeeperref06_Write.f
 repeat' first
   | (with_reducible exact weirkeeperref04_Put.mono _ _ _ _ _)
   | (with_reducible exact weirkeeperref06_Bytes.mono _ _)
   | (with_reducible exact LeO.refl _)
   | (with_reducible exact LeO.none _)
   | (with_reducible refine LeO.ite ?_ ?_)
   | (with_reducible refine LeO.bind ?_ (fun _ => ?_))
   | exact LeO.none _
   | refine LeO.ite ?_ ?_
   | refine LeO.bind ?_ (fun _ => ?_)
def weirkeeperref06_Write.T3 : Bool × List (List Nat × List Nat) := (true, [([], []), ([], []), ([], []), ([2], [2]), ([3, 3], [3]), ([0, 1, 4, 4], [0, 1, 4]), ([5], [5]), ([5], [5]), ([6, 5, 0, 1, 2, 3, 4, 5, 6, 7], [6]), ([7, 8, 0, 1, 2, 3, 4, 5, 6, 7, 8], [7])])
def weirkeeperref06_Write.B3 : List Nat := [0, 0, 0, 4, 12, 31, 63, 63, 255, 511]
theorem weirkeeperref06_Write.tab3 : rtab .any (opsOf Try.f43 3) = weirkeeperref06_Write.T3 := by kernel_rfl
theorem weirkeeperref06_Write.bits3 : waitsOk weirkeeperref06_Write.T3.2 weirkeeperref06_Write.B3 = true := by kernel_rfl
set_option maxHeartbeats 8000000 in
set_option maxRecDepth 100000 in
theorem weirkeeperref06_Write.calls (k : Nat) (P0_0_ : Nat → Prop) (A0_0 : Option Addr) (c0_0 : Nat) (l0_0 : List ByteArray) (P0_1_ : Nat → Prop) (A0_1 : Option Addr) (c0_1 : Nat) (l0_1 : List (S84)) (a1 : Int) (a2 : ByteArray) (r1 : List ByteArray) (r2 : List (S84)) (r3 : Int) (w : World) (hs0_0 : Kd.V Kd.string 9 w w.heap.size (fun k_ => P0_0_ k_) (.slice A0_0 l0_0.length c0_0) l0_0) (hs0_1 : Kd.V k84 84 w w.heap.size (fun k_ => P0_1_ k_) (.slice A0_1 l0_1.length c0_1) l0_1) (h : weirkeeperref06_Write.f k l0_0 l0_1 a1 a2 = some (r1, r2, r3)) :
  Calls Try.prog 43 #[.agg #[.slice A0_0 l0_0.length c0_0, .slice A0_1 l0_1.length c0_1], .int .i64 a1, .string a2] w fun e w' => ∃ v0_ v1_ : Value, e = .returned (.tuple #[.agg #[v0_, v1_], .int .i64 r3]) ∧ Kd.V Kd.string 9 w' w.heap.size (fun k_ => ((P0_0_ k_ ∨ P0_1_ k_) ∨ w.heap.size ≤ k_)) v0_ r1 ∧ Kd.V k84 84 w' w.heap.size (fun k_ => ((P0_0_ k_ ∨ P0_1_ k_) ∨ w.heap.size ≤ k_)) v1_ r2 ∧ Below w.heap.size w w' := by
 have hu30 := Try.underlying30
 have HO0_0 := Aside0.mk (show Kd.V Kd.string 9 w w.heap.size (fun k_ => ((P0_0_ k_ ∨ P0_1_ k_) ∨ w.heap.size ≤ k_)) (.slice A0_0 l0_0.length c0_0) l0_0 from Kd.V_mono hs0_0 (fun k_ hk => .inl (.inl hk)))
 have HO0_1 := Aside0.mk (show Kd.V k84 84 w w.heap.size (fun k_ => ((P0_0_ k_ ∨ P0_1_ k_) ∨ w.heap.size ≤ k_)) (.slice A0_1 l0_1.length c0_1) l0_1 from Kd.V_mono hs0_1 (fun k_ hk => .inl (.inr hk)))
 have HB := Aside0.mk (Below.refl w.heap.size w)
 have H : (if (a2.size : Int) > 65535 then (some (l0_0, l0_1, 1)) else ((weirkeeperref06_Bytes.f k a2).bind fun t288 => ((weirkeeperref06_Cut.f t288).bind fun t289 => ((weirkeeperref04_Put.f k l0_0 l0_1 a1 t289).bind fun bt292 => (some (bt292.1, bt292.2.1, bt292.2.2)))))) = some (r1, r2, r3) := h
 clear h
 by_cases c4 : (a2.size : Int) > 65535
 ·rw [if_pos c4] at H
  have c4b0 : decide (65535 < (a2.size : Int)) = true := decide_eq_true c4
  have c4b1 : decide (65535 < a2.size) = true := decide_eq_true (by omega)
  clear c4
  simp only [Option.some.injEq, Prod.mk.injEq] at H
  obtain ⟨rfl, rfl, rfl⟩ := H
  go_enter Try.func43, Try.ntmps43
  go_wp2_with (first | ((with_reducible refine gate_dst (N := 3) rfl ?_); refine box_event ?hg (N := 3) ?hd (cs := #[.slice A0_0 l0_0.length c0_0, .slice A0_1 l0_1.length c0_1]) (t := 30) ?hr ?_; (case hd => rfl); (case hg => rfl); (case hr => first | (go_simp; done) | (go_simp; rfl)); intro gb286 hg w5 hbox hb; have BK286 := Aside0.mk (hbox); have GW286 := Aside0.mk ((geU HB.out hg)); have GE286 := Aside0.mk ((geU HB.out hg)); replace HO0_0 := Aside0.mk (Kd.V_below (Kd.V_elderB (vU HO0_0.out) gb286 (Nat.le_of_eq hg.symm)) hb); replace HO0_1 := Aside0.mk (Kd.V_below (Kd.V_elderB (vU HO0_1.out) gb286 (Nat.le_of_eq hg.symm)) hb); replace HB := Aside0.mk (below_step (beU HB.out) hb); clear hb hbox hg) | ((with_reducible refine gate_dst (N := 6) rfl ?_); refine box_event ?hg (N := 6) ?hd (cs := #[.slice none 0 0, .slice none 0 0]) (t := 30) ?hr ?_; (case hd => rfl); (case hg => rfl); (case hr => first | (go_simp; done) | (go_simp; rfl)); intro gb287 hg w6 hbox hb; have BK287 := Aside0.mk (hbox); have GW287 := Aside0.mk ((by first | exact geU HB.out hg | (rw [hg]; exact below_size (by repeat (first | exact beU HB.out | refine below_set ?_ (Aside0.out ‹_›) | apply below_alloc | apply pw_below_drewN | apply below_drew1))))); have GE287 := Aside0.mk ((by first | exact geU HB.out hg | (rw [hg]; exact below_size (by repeat (first | exact beU HB.out | refine below_set ?_ (Aside0.out ‹_›) | apply below_alloc | apply pw_below_drewN | apply below_drew1))))); have NB286_287 := Aside0.mk ((neU BK286.out hg)); have NB287_286 := Aside0.mk ((enU BK286.out hg)); replace HO0_0 := Aside0.mk (Kd.V_below (Kd.V_elderB (vU HO0_0.out) gb287 (Nat.le_of_eq hg.symm)) hb); replace HO0_1 := Aside0.mk (Kd.V_below (Kd.V_elderB (vU HO0_1.out) gb287 (Nat.le_of_eq hg.symm)) hb); replace BK286 := Aside0.mk (blk_below (bU BK286.out) hb); replace HB := Aside0.mk (below_step (by repeat (first | exact beU HB.out | refine below_set ?_ (Aside0.out ‹_›) | apply below_alloc | apply pw_below_drewN | apply below_drew1)) hb); clear hb hbox hg; have hnb7 := NB286_287.out; have hnc7 := NB287_286.out; have hcz8_0 : w6.cell? ⟨gb286, 0, none⟩ = some (.slice A0_0 l0_0.length c0_0) := (blk_cell BK286.out 0).trans rfl; have hcz8_1 : w6.cell? ⟨gb286, 1, none⟩ = some (.slice A0_1 l0_1.length c0_1) := (blk_cell BK286.out 1).trans rfl; have hfz8_0 := blk_frozen BK286.out 0; have hfz8_1 := blk_frozen BK286.out 1; have hcz9_0 : w6.cell? ⟨gb287, 0, none⟩ = some (.slice none 0 0) := (blk_cell BK287.out 0).trans rfl; have hcz9_1 : w6.cell? ⟨gb287, 1, none⟩ = some (.slice none 0 0) := (blk_cell BK287.out 1).trans rfl; have hfz9_0 := blk_frozen BK287.out 0; have hfz9_1 := blk_frozen BK287.out 1))
  refine bodyPost_ret (results_ct rfl _ _ gb287 30 #[.slice A0_0 l0_0.length c0_0, .slice A0_1 l0_1.length c0_1] (0, 0) _ rfl (by (with_reducible repeat (first | refine blk_drewN ?_ _ | refine blk_drew ?_ | refine blk_alloc ?_ _)); refine blk_put (cs := #[.slice A0_0 l0_0.length c0_0, .slice none 0 0]) ?_ 1 _ rfl; (with_reducible repeat (first | refine blk_drewN ?_ _ | refine blk_drew ?_ | refine blk_alloc ?_ _)); refine blk_put (cs := #[.slice none 0 0, .slice none 0 0]) ?_ 0 _ rfl; (with_reducible repeat (first | refine blk_drewN ?_ _ | refine blk_drew ?_ | refine blk_alloc ?_ _)); exact BK287.out) Try.underlying30 rfl (by kernel_rfl)) rfl ?_
  exact ⟨_, _, by first | rfl | (simp [errW_none, errW_some] <;> rfl) | (simp [*, errW_none, errW_some] <;> rfl), by (with_reducible repeat (first | apply Kd.V_alloc | apply Kd.V_drewN | apply Kd.V_drew)); exact Kd.V_mono (Kd.V_far (p := ⟨gb287, 1, none⟩) (Kd.V_far (p := ⟨gb287, 0, none⟩) (Kd.V_mono HO0_0.out (fun k_ hk => (⟨hk, hk.2⟩ : _ ∧ k_ ≠ gb287))) (fun _ hk => hk.2) (.slice A0_0 l0_0.length c0_0)) (fun _ hk => hk.2) (.slice A0_1 l0_1.length c0_1)) (fun _ hk => hk.1.1.1), by (with_reducible repeat (first | apply Kd.V_alloc | apply Kd.V_drewN | apply Kd.V_drew)); exact Kd.V_mono (Kd.V_far (p := ⟨gb287, 1, none⟩) (Kd.V_far (p := ⟨gb287, 0, none⟩) (Kd.V_mono HO0_1.out (fun k_ hk => (⟨hk, hk.2⟩ : _ ∧ k_ ≠ gb287))) (fun _ hk => hk.2) (.slice A0_0 l0_0.length c0_0)) (fun _ hk => hk.2) (.slice A0_1 l0_1.length c0_1)) (fun _ hk => hk.1.1.1), by repeat (first | (with_reducible first | exact HB.out | apply below_alloc | apply pw_below_drewN | apply below_drew1 | refine below_set ?_ GE286.out | refine below_set ?_ GE287.out) | exact HB.out)⟩
 ·rw [if_neg c4] at H
  have c4b0 : decide (65535 < (a2.size : Int)) = false := decide_eq_false c4
  have c4b1 : decide (65535 < a2.size) = false := decide_eq_false (by omega)
  clear c4
  replace H := Option.bind_eq_some_iff.mp H
  obtain ⟨t288, A100, H⟩ := H
  try dsimp only at H
  have A10 := Aside0.mk A100
  clear A100
  replace H := Option.bind_eq_some_iff.mp H
  obtain ⟨t289, A110, H⟩ := H
  try dsimp only at H
  have A11 := Aside0.mk A110
  clear A110
  replace H := Option.bind_eq_some_iff.mp H
  obtain ⟨⟨t292, t295, t298⟩, A120, H⟩ := H
  try dsimp only at H
  have A12 := Aside0.mk A120
  clear A120
  simp only [Option.some.injEq, Prod.mk.injEq] at H
  obtain ⟨rfl, rfl, rfl⟩ := H
  go_enter Try.func43, Try.ntmps43
  try go_wp2_with (first | ((with_reducible refine gate_dst (N := 3) rfl ?_); refine box_event ?hg (N := 3) ?hd (cs := #[.slice A0_0 l0_0.length c0_0, .slice A0_1 l0_1.length c0_1]) (t := 30) ?hr ?_; (case hd => rfl); (case hg => rfl); (case hr => first | (go_simp; done) | (go_simp; rfl)); intro gb286 hg w13 hbox hb; have BK286 := Aside0.mk (hbox); have GW286 := Aside0.mk ((geU HB.out hg)); have GE286 := Aside0.mk ((geU HB.out hg)); replace HO0_0 := Aside0.mk (Kd.V_below (Kd.V_elderB (vU HO0_0.out) gb286 (Nat.le_of_eq hg.symm)) hb); replace HO0_1 := Aside0.mk (Kd.V_below (Kd.V_elderB (vU HO0_1.out) gb286 (Nat.le_of_eq hg.symm)) hb); replace HB := Aside0.mk (below_step (beU HB.out) hb); clear hb hbox hg) | ((with_reducible refine gate_dst (N := 6) rfl ?_); refine box_event ?hg (N := 6) ?hd (cs := #[.slice none 0 0, .slice none 0 0]) (t := 30) ?hr ?_; (case hd => rfl); (case hg => rfl); (case hr => first | (go_simp; done) | (go_simp; rfl)); intro gb287 hg w14 hbox hb; have BK287 := Aside0.mk (hbox); have GW287 := Aside0.mk ((by first | exact geU HB.out hg | (rw [hg]; exact below_size (by repeat (first | exact beU HB.out | refine below_set ?_ (Aside0.out ‹_›) | apply below_alloc | apply pw_below_drewN | apply below_drew1))))); have GE287 := Aside0.mk ((by first | exact geU HB.out hg | (rw [hg]; exact below_size (by repeat (first | exact beU HB.out | refine below_set ?_ (Aside0.out ‹_›) | apply below_alloc | apply pw_below_drewN | apply below_drew1))))); have NB286_287 := Aside0.mk ((neU BK286.out hg)); have NB287_286 := Aside0.mk ((enU BK286.out hg)); replace HO0_0 := Aside0.mk (Kd.V_below (Kd.V_elderB (vU HO0_0.out) gb287 (Nat.le_of_eq hg.symm)) hb); replace HO0_1 := Aside0.mk (Kd.V_below (Kd.V_elderB (vU HO0_1.out) gb287 (Nat.le_of_eq hg.symm)) hb); replace BK286 := Aside0.mk (blk_below (bU BK286.out) hb); replace HB := Aside0.mk (below_step (by repeat (first | exact beU HB.out | refine below_set ?_ (Aside0.out ‹_›) | apply below_alloc | apply pw_below_drewN | apply below_drew1)) hb); clear hb hbox hg))
  replace HO0_0 := Aside0.mk (Kd.V_drew HO0_0.out)
  replace HO0_1 := Aside0.mk (Kd.V_drew HO0_1.out)
  replace BK286 := Aside0.mk (blk_drew BK286.out)
  replace BK287 := Aside0.mk (blk_drew BK287.out)
  replace HB := Aside0.mk (below_drew1 HB.out)
  refine start_ (n := 10) (S := fun w' => w'.cell? ⟨gb286, 0, none⟩ = some (.slice A0_0 l0_0.length c0_0) ∧ w'.cell? ⟨gb286, 1, none⟩ = some (.slice A0_1 l0_1.length c0_1)) (ds := []) #[false, false, false, false, false, false, false, false, false, false] (by kernel_rfl) rfl rfl ⟨(blk_cell BK286.out 0).trans rfl, (blk_cell BK286.out 1).trans rfl⟩ (fun hHeld => ?_); refine with_tabW weirkeeperref06_Write.tab3 weirkeeperref06_Write.bits3 (fun HT_ HW_ => ?_)
  generalize w14.drew = w15 at HO0_0 HO0_1 BK286 BK287 HB hHeld ⊢
  refine pure_ (i := 1) (N := some 13) (v := ?_) (a' := ?_) #[false, true, false, false, false, false, false, false, false, false] rfl rfl (any_of HT_.out (by kernel_rfl)) (fun _ _ _ h => h) (Or.inl ⟨by rfl, ?_⟩) ?_ ?_
  rotate_left
  ·intro w'
   go_simp
   with_reducible rfl
  rotate_left
  ·simp only [Act.put, List.setIfInBounds_toArray, List.set_cons_zero, List.set_cons_succ, i64_w, i32_w]
   rfl
  refine pure_ (i := 2) (N := some 14) (v := ?_) (a' := ?_) #[false, true, true, false, false, false, false, false, false, false] rfl rfl (any_of HT_.out (by kernel_rfl)) (fun _ _ _ h => h) (Or.inl ⟨by rfl, ?_⟩) ?_ ?_
  rotate_left
  ·intro w'
   go_simp
   with_reducible rfl
  rotate_left
  ·simp only [Act.put, List.setIfInBounds_toArray, List.set_cons_zero, List.set_cons_succ, i64_w, i32_w]
   rfl
  refine take_ (i := 0) (N := some 12) (v := ?_) (a' := ?_) #[true, true, true, false, false, false, false, false, false, false] rfl rfl (take_ofW HT_.out HW_.out (by kernel_rfl)) (fun _ _ _ h => h) (Or.inl ⟨by rfl, ?_⟩) hHeld ?_ ?_
  rotate_left
  ·rintro w' ⟨s0, s1⟩
   go_simp
   with_reducible rfl
  rotate_left
  ·simp only [Act.put, List.setIfInBounds_toArray, List.set_cons_zero, List.set_cons_succ, i64_w, i32_w]
   rfl
  refine one_ (i := 3) (N := some 15) #[true, true, true, true, false, false, false, false, false, false] rfl rfl (one_of HT_.out (by kernel_rfl)) (by decide) (fun K hK => ?_)
  refine goes_ Try.func67 (by kernel_rfl) rfl #[.string a2] (by rfl) rfl rfl (by (try simp only [List.map_toArray, List.map_cons, List.map_nil]); first | done | rfl | (simp only [List.length_drop, List.length_take]; rfl)) ?_
  with_reducible refine (weirkeeperref06_Bytes.calls k a2 t288 _ A10.out).mono ?_
  rintro e w16 ⟨rfl, hb⟩
  refine ⟨_, rfl, ?_⟩
  replace HO0_0 := Aside0.mk (Kd.V_below (vU HO0_0.out) hb)
  replace HO0_1 := Aside0.mk (Kd.V_below (vU HO0_1.out) hb)
  replace BK286 := Aside0.mk (blk_below (bU BK286.out) hb)
  replace BK287 := Aside0.mk (blk_below (bU BK287.out) hb)
  replace HB := Aside0.mk (below_step (by repeat (first | exact beU HB.out | refine below_set ?_ (Aside0.out ‹_›) | apply below_alloc | apply pw_below_drewN | apply below_drew1)) hb)
  (try clear hb)
  (try clear hb2)
  (try clear hk)
  (try clear hi)
  refine hK.out _ _ ⟨(blk_cell BK286.out 0).trans rfl, (blk_cell BK286.out 1).trans rfl⟩ (fun hHeld => ?_)
  clear hK K
  refine norm_ (a' := ?_) ?_ ?_
  rotate_left
  ·show Act.put _ (some 15) _ = _
   simp only [Act.put, List.setIfInBounds_toArray, List.set_cons_zero, List.set_cons_succ, i64_w, i32_w]
   rfl
  refine one_ (i := 4) (N := some 16) #[true, true, true, true, true, false, false, false, false, false] rfl rfl (one_of HT_.out (by kernel_rfl)) (by decide) (fun K hK => ?_)
  refine goes_ Try.func66 (by kernel_rfl) rfl #[.string t288] (by rfl) rfl rfl (by (try simp only [List.map_toArray, List.map_cons, List.map_nil]); first | done | rfl | (simp only [List.length_drop, List.length_take]; rfl)) ?_
  with_reducible refine (weirkeeperref06_Cut.calls t288 t289 _ A11.out).mono ?_
  rintro e w17 ⟨v290, rfl, ho0, hb⟩
  refine ⟨_, rfl, ?_⟩
  have HO291 := Aside0.mk (Kd.R_lower (Kd.R_newM (M := fun k_ => (w.heap.size ≤ k_)) ho0 (below_size (by repeat (first | exact beU HB.out | refine below_set ?_ (Aside0.out ‹_›) | apply below_alloc | apply pw_below_drewN | apply below_drew1))) (fun k_ h_ => h_)) (below_size (by repeat (first | exact beU HB.out | refine below_set ?_ (Aside0.out ‹_›) | apply below_alloc | apply pw_below_drewN | apply below_drew1))))
  replace HO0_0 := Aside0.mk (Kd.V_elder' (vU HO0_0.out) (Kd.R_base ho0) hb)
  replace HO0_1 := Aside0.mk (Kd.V_elder' (vU HO0_1.out) (Kd.R_base ho0) hb)
  replace BK286 := Aside0.mk (blk_below (bU BK286.out) hb)
  replace BK287 := Aside0.mk (blk_below (bU BK287.out) hb)
  replace HB := Aside0.mk (below_step (by repeat (first | exact beU HB.out | refine below_set ?_ (Aside0.out ‹_›) | apply below_alloc | apply pw_below_drewN | apply below_drew1)) hb)
  (try clear hb)
  (try clear hb2)
  (try clear hk)
  (try clear hi)
  (try clear ho0)
  obtain ⟨Ao18, co18, eo18⟩ := Kd.R_slice HO291.out
  (first | subst eo18 | (injection eo18 with f1_ f2_ f3_; have f4_ := f1_.symm; have f5_ := f3_.symm; clear f1_ f2_ f3_; subst f4_; subst f5_))
  refine hK.out _ _ ⟨(blk_cell BK286.out 0).trans rfl, (blk_cell BK286.out 1).trans rfl⟩ (fun hHeld => ?_)
  clear hK K
  refine norm_ (a' := ?_) ?_ ?_
  rotate_left
  ·show Act.put _ (some 16) _ = _
   simp only [Act.put, List.setIfInBounds_toArray, List.set_cons_zero, List.set_cons_succ, i64_w, i32_w]
   rfl
  refine one_ (i := 5) (N := some 17) #[true, true, true, true, true, true, false, false, false, false] rfl rfl (one_of HT_.out (by kernel_rfl)) (by decide) (fun K hK => ?_)
  refine goes_ Try.func65 (by kernel_rfl) rfl #[.agg #[.slice A0_0 l0_0.length c0_0, .slice A0_1 l0_1.length c0_1], .int .i64 a1, .slice Ao18 t289.length co18] (by rfl) rfl rfl (by (try simp only [List.map_toArray, List.map_cons, List.map_nil]); first | done | rfl | (simp only [List.length_drop, List.length_take]; rfl)) ?_
  with_reducible refine (weirkeeperref04_Put.calls k (fun k_ => (((((P0_0_ k_ ∨ P0_1_ k_) ∨ w.heap.size ≤ k_) ∧ k_ ≠ gb286) ∧ k_ ≠ gb287) ∧ some k_ ≠ (.slice Ao18 t289.length co18 : Value).ownBlock)) _ _ l0_0 (fun k_ => (((((P0_0_ k_ ∨ P0_1_ k_) ∨ w.heap.size ≤ k_) ∧ k_ ≠ gb286) ∧ k_ ≠ gb287) ∧ some k_ ≠ (.slice Ao18 t289.length co18 : Value).ownBlock)) _ _ l0_1 a1 _ _ t289 t292 t295 t298 _ ?side1 ?side2 ?side3 ?side4 A12.out).mono ?_
  (case side1 => exact HO0_0.out)
  (case side2 => exact HO0_1.out)
  (case side3 => repeat (first | exact (Kd.R_reads' HO291.out).2.2 | (with_reducible refine Kd.C_alloc ?_ _) | (with_reducible refine Kd.C_drewN ?_ _) | (with_reducible refine Kd.C_drew ?_)))
  (case side4 => exact (Kd.R_reads' HO291.out).2.1)
  rintro e w19 ⟨v293, v296, rfl, ho0, ho1, hb⟩
  refine ⟨_, rfl, ?_⟩
  have HO294 := Aside0.mk (Kd.V_lower (Kd.V_mono (ok' := fun k_ => ((P0_0_ k_ ∨ P0_1_ k_) ∨ w.heap.size ≤ k_) ∧ some k_ ≠ (.slice Ao18 t289.length co18 : Value).ownBlock ∧ k_ ≠ gb286 ∧ k_ ≠ gb287) ho0 (fun k_ hk_ => ⟨Or.elim hk_ (fun hs_ => Or.elim hs_ (fun hs_ => hs_.1.1.1) (fun hs_ => hs_.1.1.1)) (fun hn_ => (.inr (Nat.le_trans (below_size (by repeat (first | exact beU HB.out | refine below_set ?_ (Aside0.out ‹_›) | apply below_alloc | apply pw_below_drewN | apply below_drew1))) hn_))), Or.elim hk_ (fun hs_ => Or.elim hs_ (fun hs_ => hs_.2) (fun hs_ => hs_.2)) (fun hn_ => (Kd.fresh' (Kd.R_lt (rU HO291.out)) k_ hn_)), Or.elim hk_ (fun hs_ => Or.elim hs_ (fun hs_ => hs_.1.1.2) (fun hs_ => hs_.1.1.2)) (fun hn_ => (Kd.freshB (g := gb286) (o := .cells #[.slice A0_0 l0_0.length c0_0, .slice A0_1 l0_1.length c0_1] 30 (0, 0)) (bU BK286.out) k_ hn_)), Or.elim hk_ (fun hs_ => Or.elim hs_ (fun hs_ => hs_.1.2) (fun hs_ => hs_.1.2)) (fun hn_ => (Kd.freshB (g := gb287) (o := .cells #[.slice none 0 0, .slice none 0 0] 30 (0, 0)) (bU BK287.out) k_ hn_))⟩)) (below_size (by repeat (first | exact beU HB.out | refine below_set ?_ (Aside0.out ‹_›) | apply below_alloc | apply pw_below_drewN | apply below_drew1))))
  have HO297 := Aside0.mk (Kd.V_lower (Kd.V_mono (ok' := fun k_ => ((P0_0_ k_ ∨ P0_1_ k_) ∨ w.heap.size ≤ k_) ∧ some k_ ≠ (.slice Ao18 t289.length co18 : Value).ownBlock ∧ k_ ≠ gb286 ∧ k_ ≠ gb287) ho1 (fun k_ hk_ => ⟨Or.elim hk_ (fun hs_ => Or.elim hs_ (fun hs_ => hs_.1.1.1) (fun hs_ => hs_.1.1.1)) (fun hn_ => (.inr (Nat.le_trans (below_size (by repeat (first | exact beU HB.out | refine below_set ?_ (Aside0.out ‹_›) | apply below_alloc | apply pw_below_drewN | apply below_drew1))) hn_))), Or.elim hk_ (fun hs_ => Or.elim hs_ (fun hs_ => hs_.2) (fun hs_ => hs_.2)) (fun hn_ => (Kd.fresh' (Kd.R_lt (rU HO291.out)) k_ hn_)), Or.elim hk_ (fun hs_ => Or.elim hs_ (fun hs_ => hs_.1.1.2) (fun hs_ => hs_.1.1.2)) (fun hn_ => (Kd.freshB (g := gb286) (o := .cells #[.slice A0_0 l0_0.length c0_0, .slice A0_1 l0_1.length c0_1] 30 (0, 0)) (bU BK286.out) k_ hn_)), Or.elim hk_ (fun hs_ => Or.elim hs_ (fun hs_ => hs_.1.2) (fun hs_ => hs_.1.2)) (fun hn_ => (Kd.freshB (g := gb287) (o := .cells #[.slice none 0 0, .slice none 0 0] 30 (0, 0)) (bU BK287.out) k_ hn_))⟩)) (below_size (by repeat (first | exact beU HB.out | refine below_set ?_ (Aside0.out ‹_›) | apply below_alloc | apply pw_below_drewN | apply below_drew1))))
  replace HO0_0 := Aside0.mk (Kd.V_below (vU HO0_0.out) hb)
  replace HO0_1 := Aside0.mk (Kd.V_below (vU HO0_1.out) hb)
  replace HO291 := Aside0.mk (Kd.R_below (rU HO291.out) hb)
  replace BK286 := Aside0.mk (blk_below (bU BK286.out) hb)
  replace BK287 := Aside0.mk (blk_below (bU BK287.out) hb)
  replace HB := Aside0.mk (below_step (by repeat (first | exact beU HB.out | refine below_set ?_ (Aside0.out ‹_›) | apply below_alloc | apply pw_below_drewN | apply below_drew1)) hb)
  (try clear hb)
  (try clear hb2)
  (try clear hk)
  (try clear hi)
  (try clear ho0)
  (try clear ho1)
  obtain ⟨Ao20, co20, eo20⟩ := Kd.V_slice HO294.out
  (first | subst eo20 | (injection eo20 with f1_ f2_ f3_; have f4_ := f1_.symm; have f5_ := f3_.symm; clear f1_ f2_ f3_; subst f4_; subst f5_))
  obtain ⟨Ao22, co22, eo22⟩ := Kd.V_slice HO297.out
  (first | subst eo22 | (injection eo22 with f1_ f2_ f3_; have f4_ := f1_.symm; have f5_ := f3_.symm; clear f1_ f2_ f3_; subst f4_; subst f5_))
  refine hK.out _ _ ⟨(blk_cell BK286.out 0).trans rfl, (blk_cell BK286.out 1).trans rfl⟩ (fun hHeld => ?_)
  clear hK K
  refine norm_ (a' := ?_) ?_ ?_
  rotate_left
  ·show Act.put _ (some 17) _ = _
   simp only [Act.put, List.setIfInBounds_toArray, List.set_cons_zero, List.set_cons_succ, i64_w, i32_w]
   rfl
  refine pure_ (i := 6) (N := some 18) (v := ?_) (a' := ?_) #[true, true, true, true, true, true, true, false, false, false] rfl rfl (any_of HT_.out (by kernel_rfl)) (fun _ _ _ h => h) (Or.inl ⟨by rfl, ?_⟩) ?_ ?_
  rotate_left
  ·intro w'
   go_simp
   with_reducible rfl
  rotate_left
  ·simp only [Act.put, List.setIfInBounds_toArray, List.set_cons_zero, List.set_cons_succ, i64_w, i32_w]
   rfl
  refine pure_ (i := 7) (N := some 19) (v := ?_) (a' := ?_) #[true, true, true, true, true, true, true, true, false, false] rfl rfl (any_of HT_.out (by kernel_rfl)) (fun _ _ _ h => h) (Or.inl ⟨by rfl, ?_⟩) ?_ ?_
  rotate_left
  ·intro w'
   go_simp
   with_reducible rfl
  rotate_left
  ·simp only [Act.put, List.setIfInBounds_toArray, List.set_cons_zero, List.set_cons_succ, i64_w, i32_w]
   rfl
  refine one_ (i := 8) (N := none) #[true, true, true, true, true, true, true, true, true, false] rfl rfl (one_of HT_.out (by kernel_rfl)) (by decide) (fun K hK => ?_)
  have hs21 : w19.cell? ⟨gb287, 0, none⟩ = some (.slice none 0 0) := (blk_cell BK287.out 0).trans rfl
  have hfs21 := blk_frozen BK287.out 0
  have hns21_0 := NB286_287.out
  have hms21_0 := NB287_286.out
  have hs23 : w19.cell? ⟨gb287, 1, none⟩ = some (.slice none 0 0) := (blk_cell BK287.out 1).trans rfl
  have hfs23 := blk_frozen BK287.out 1
  have hns23_0 := NB286_287.out
  have hms23_0 := NB287_286.out
  refine skip_ (w1 := ?_) (by rfl) rfl ?_ ?_
  rotate_left
  ·go_simp
   rfl
  refine hK.out _ _ ⟨((cell_far (p := ⟨gb287, _, none⟩) NB286_287.out _).trans (((cell_far (p := ⟨gb287, _, none⟩) NB286_287.out _).trans (hHeld.1)))), ((cell_far (p := ⟨gb287, _, none⟩) NB286_287.out _).trans (((cell_far (p := ⟨gb287, _, none⟩) NB286_287.out _).trans (hHeld.2))))⟩ (fun hHeld => ?_)
  clear hK K
  refine pure_ (i := 9) (N := some 7) (v := ?_) (a' := ?_) #[true, true, true, true, true, true, true, true, true, true] rfl rfl (any_of HT_.out (by kernel_rfl)) (fun _ _ _ h => h) (Or.inl ⟨by rfl, ?_⟩) ?_ ?_
  rotate_left
  ·intro w'
   go_simp
   with_reducible rfl
  rotate_left
  ·simp only [Act.put, List.setIfInBounds_toArray, List.set_cons_zero, List.set_cons_succ, i64_w, i32_w]
   rfl
  refine done_ (done_of HT_.out (by kernel_rfl)) ?_
  try go_wp2
  refine bodyPost_ret (results_ct rfl _ _ gb287 30 #[.slice Ao20 t292.length co20, .slice Ao22 t295.length co22] (0, 0) _ rfl (by (with_reducible repeat (first | refine blk_drewN ?_ _ | refine blk_drew ?_ | refine blk_alloc ?_ _)); refine blk_put (cs := #[.slice Ao20 t292.length co20, .slice none 0 0]) ?_ 1 _ rfl; (with_reducible repeat (first | refine blk_drewN ?_ _ | refine blk_drew ?_ | refine blk_alloc ?_ _)); refine blk_put (cs := #[.slice none 0 0, .slice none 0 0]) ?_ 0 _ rfl; (with_reducible repeat (first | refine blk_drewN ?_ _ | refine blk_drew ?_ | refine blk_alloc ?_ _)); exact BK287.out) Try.underlying30 rfl (by kernel_rfl)) rfl ?_
  exact ⟨_, _, by first | rfl | (simp [errW_none, errW_some] <;> rfl) | (simp [*, errW_none, errW_some] <;> rfl), by (with_reducible repeat (first | apply Kd.V_alloc | apply Kd.V_drewN | apply Kd.V_drew)); exact Kd.V_mono (Kd.V_far (p := ⟨gb287, 1, none⟩) (Kd.V_far (p := ⟨gb287, 0, none⟩) (Kd.V_mono HO294.out (fun k_ hk => (⟨hk, hk.2.2.2⟩ : _ ∧ k_ ≠ gb287))) (fun _ hk => hk.2) (.slice Ao20 t292.length co20)) (fun _ hk => hk.2) (.slice Ao22 t295.length co22)) (fun _ hk => hk.1.1), by (with_reducible repeat (first | apply Kd.V_alloc | apply Kd.V_drewN | apply Kd.V_drew)); exact Kd.V_mono (Kd.V_far (p := ⟨gb287, 1, none⟩) (Kd.V_far (p := ⟨gb287, 0, none⟩) (Kd.V_mono HO297.out (fun k_ hk => (⟨hk, hk.2.2.2⟩ : _ ∧ k_ ≠ gb287))) (fun _ hk => hk.2) (.slice Ao20 t292.length co20)) (fun _ hk => hk.2) (.slice Ao22 t295.length co22)) (fun _ hk => hk.1.1), by repeat (first | (with_reducible first | exact HB.out | apply below_alloc | apply pw_below_drewN | apply below_drew1 | refine below_set ?_ GE286.out | refine below_set ?_ GE287.out) | exact HB.out)⟩
mutual
def weirkeeperref06_Need.j0 : Nat → Int → Bool → Option (Int)
 | 0, _, _ => none
 | k + 1, x0, x9 => if x9 = true then (some 0) else (weirkeeperref06_Need.l0 k x0 0)
def weirkeeperref06_Need.l0 : Nat → Int → Int → Option (Int)
 | 0, _, _ => none
 | k + 1, x0, x3 => if (wrap64 (32 * x3)) < (wrap64 (x0 + 7)) then (weirkeeperref06_Need.l0 k x0 (wrap64 (x3 + 1))) else (some x3)
end
def weirkeeperref06_Need.f (k : Nat) (a0 : Int) : Option (Int) := if a0 < 0 then (weirkeeperref06_Need.j0 k a0 true) else (weirkeeperref06_Need.j0 k a0 (decide (a0 > 65535)))
theorem weirkeeperref06_Need.mono_l : ∀ k, (∀ y0 y1, LeO (weirkeeperref06_Need.j0 k y0 y1) (weirkeeperref06_Need.j0 (k + 1) y0 y1)) ∧ (∀ y0 y1, LeO (weirkeeperref06_Need.l0 k y0 y1) (weirkeeperref06_Need.l0 (k + 1) y0 y1))
 | 0 => ⟨fun _ _ r h => by simp [weirkeeperref06_Need.j0] at h, fun _ _ r h => by simp [weirkeeperref06_Need.l0] at h⟩
 | k + 1 => by
  obtain ⟨ih0, ih1⟩ := weirkeeperref06_Need.mono_l k
  refine ⟨?_, ?_⟩
  ·intro y0 y1
   unfold weirkeeperref06_Need.j0
   repeat' first
   | (with_reducible exact ih0 _ _)
   | (with_reducible exact ih1 _ _)
   | (with_reducible exact LeO.refl _)
   | (with_reducible exact LeO.none _)
   | (with_reducible refine LeO.ite ?_ ?_)
   | (with_reducible refine LeO.bind ?_ (fun _ => ?_))
   | exact ih0 _ _
   | exact ih1 _ _
   | exact LeO.none _
   | refine LeO.ite ?_ ?_
   | refine LeO.bind ?_ (fun _ => ?_)
  ·intro y0 y1
   unfold weirkeeperref06_Need.l0
   repeat' first
   | (with_reducible exact ih0 _ _)
   | (with_reducible exact ih1 _ _)
   | (with_reducible exact LeO.refl _)
   | (with_reducible exact LeO.none _)
   | (with_reducible refine LeO.ite ?_ ?_)
   | (with_reducible refine LeO.bind ?_ (fun _ => ?_))
   | exact ih0 _ _
   | exact ih1 _ _
   | exact LeO.none _
   | refine LeO.ite ?_ ?_
   | refine LeO.bind ?_ (fun _ => ?_)
theorem weirkeeperref06_Need.mono : ∀ a0 k, LeO (weirkeeperref06_Need.f k a0) (weirkeeperref06_Need.f (k + 1) a0) := by
 intro a0 k
 obtain ⟨ih0, ih1⟩ := weirkeeperref06_Need.mono_l k
 unfold weirkeeperref06_Need.f
 repeat' first
   | (with_reducible exact ih0 _ _)
   | (with_reducible exact ih1 _ _)
   | (with_reducible exact LeO.refl _)
   | (with_reducible exact LeO.none _)
   | (with_reducible refine LeO.ite ?_ ?_)
   | (with_reducible refine LeO.bind ?_ (fun _ => ?_))
   | exact ih0 _ _
   | exact ih1 _ _
   | exact LeO.none _
   | refine LeO.ite ?_ ?_
   | refine LeO.bind ?_ (fun _ => ?_)
set_option maxHeartbeats 8000000 in
set_option maxRecDepth 100000 in
theorem weirkeeperref06_Need.calls (k : Nat) (a0 : Int) (r : Int) (w : World) (h : weirkeeperref06_Need.f k a0 = some r) :
  Calls Try.prog 73 #[.int .i64 a0] w fun e w' => e = .returned (.int .i64 r) ∧ Drawn0 w w' := by
 have H : (if a0 < 0 then (weirkeeperref06_Need.j0 k a0 true) else (weirkeeperref06_Need.j0 k a0 (decide (a0 > 65535)))) = some r := h
 clear h
 have HC2 := Aside0.mk H
 clear H
 go_enter Try.func73, Try.ntmps73
 go_upto_region 1 with (fail)
 go_cut [9] (fun v9 wc => ∃ (kq : Nat) (x9_1 : Bool), v9 = .bool x9_1 ∧ Aside0 (weirkeeperref06_Need.j0 kq a0 x9_1 = some r) ∧ Aside0 (kq ≤ k) ∧ Drawn0 w wc)
 case first =>
  have H := HC2.out
  clear HC2
  by_cases c3 : a0 < 0
  ·rw [if_pos c3] at H
   have c3b0 : decide (a0 < 0) = true := decide_eq_true c3
   clear c3
   (first | rw [c3b0] | (simp only [i64_w, i32_w]; rw [c3b0]) | skip)
   have H' := Aside0.mk H
   clear H
   go_wp2
   go_meet
   case rel => exact ⟨_, (true), (by first | rfl | (simp; done) | (simp [*]; done)), H', ⟨by first | omega | exact Nat.le_refl _⟩, by repeat (first | exact Drawn0.refl _ | apply Drawn0.step)⟩
  ·rw [if_neg c3] at H
   have c3b0 : decide (a0 < 0) = false := decide_eq_false c3
   clear c3
   (first | rw [c3b0] | (simp only [i64_w, i32_w]; rw [c3b0]) | skip)
   have H' := Aside0.mk H
   clear H
   go_wp2
   go_meet
   case rel => exact ⟨_, (decide (a0 > 65535)), (by first | rfl | (simp; done) | (simp [*]; done)), H', ⟨by first | omega | exact Nat.le_refl _⟩, by repeat (first | exact Drawn0.refl _ | apply Drawn0.step)⟩
 case rest =>
  clear HC2
  try clear p2
  try clear c3
  try clear c3b0
  obtain ⟨kq, x9_1, rfl, HA, HJ1, ⟨mc1, rfl⟩⟩ := hcut
  cases kq with
  | zero => exact absurd HA.out (by simp [weirkeeperref06_Need.j0])
  | succ kj1 =>
   have H := HA.out
   clear HA
   simp only [weirkeeperref06_Need.j0] at H
   by_cases c4 : x9_1 = true
   ·subst c4
    have H1 : (some 0) = some r := by rw [if_pos rfl] at H; exact H
    clear H
    have H := H1
    clear H1
    obtain rfl := Option.some.inj H
    go_wp2
    go_ret
    exact ⟨by first | rfl | (simp; done) | (simp [*]; done), by repeat (first | exact Drawn0.refl _ | apply Drawn0.step)⟩
   ·replace c4 := Bool.eq_false_iff.mpr c4
    subst c4
    have H1 : (weirkeeperref06_Need.l0 kj1 a0 0) = some r := by rw [if_neg (show ¬ (false = true) by decide)] at H; exact H
    clear H
    have H := H1
    clear H1
    have H' := Aside0.mk H
    clear H
    go_wp2
    go_loopg [3] kj1 (fun kq v3 w' => ∃ (x3_2 : Int), v3 = .int .i64 x3_2 ∧ Aside0 (weirkeeperref06_Need.l0 kq a0 x3_2 = some r) ∧ Aside0 (kq ≤ kj1) ∧ Drawn0 w w')
    case atStart => exact ⟨(0), (by first | rfl | (simp; done) | (simp [*]; done)), H', ⟨Nat.le_refl _⟩, by repeat (first | exact Drawn0.refl _ | apply Drawn0.step)⟩
    case round =>
     clear H'
     try clear c1
     try clear p2
     try clear c3
     try clear c3b0
     try clear c4
     try clear p2
     obtain ⟨x3_2, rfl, HA, HK2, ⟨m2, rfl⟩⟩ := hrel
     cases gk with
     | zero => exact absurd HA.out (by simp [weirkeeperref06_Need.l0])
     | succ k2 =>
      have H := HA.out
      clear HA
      simp only [weirkeeperref06_Need.l0] at H
      by_cases c5 : (wrap64 (32 * x3_2)) < (wrap64 (a0 + 7))
      ·rw [if_pos c5] at H
       have c5b0 : decide ((wrap64 (32 * x3_2)) < (wrap64 (a0 + 7))) = true := decide_eq_true c5
       clear c5
       have H' := Aside0.mk H
       clear H
       go_wp2
       go_roundg k2
       case measure => have := HJ1.out; have := HK2.out; omega
       case rel => exact ⟨(wrap64 (x3_2 + 1)), (by first | rfl | (simp; done) | (simp [*]; done)), H', ⟨by have := HJ1.out; have := HK2.out; omega⟩, by repeat (first | exact Drawn0.refl _ | apply Drawn0.step)⟩
      ·rw [if_neg c5] at H
       have c5b0 : decide ((wrap64 (32 * x3_2)) < (wrap64 (a0 + 7))) = false := decide_eq_false c5
       clear c5
       obtain rfl := Option.some.inj H
       go_wp2
       go_ret
       exact ⟨by first | rfl | (simp; done) | (simp [*]; done), by repeat (first | exact Drawn0.refl _ | apply Drawn0.step)⟩
end Go.Proofs.Ythcohkgpbjcliaa.F
