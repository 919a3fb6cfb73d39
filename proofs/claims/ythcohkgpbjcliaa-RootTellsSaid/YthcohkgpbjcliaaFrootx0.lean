import Derived.Test.YthcohkgpbjcliaaFUp
import Derived.Test.YthcohkgpbjcliaaFPre
import Derived.Test.YthcohkgpbjcliaaFLem
import Derived.Test.YthcohkgpbjcliaaPlPackN
import Derived.Deep.LoopGhost
import Derived.Test.YthcohkgpbjcliaaFblockx1
import Derived.Test.YthcohkgpbjcliaaFblockx0
import Derived.Test.YthcohkgpbjcliaaFpack
namespace Go.Proofs.Ythcohkgpbjcliaa.F
open Go.RowKit Go.Proofs.YthcohkgpbjcliaaW.PrintWords Go.Proofs.YthcohkgpbjcliaaW.PrintLast Go.Proofs.YthcohkgpbjcliaaW.PrintMore
attribute [local go_sem] max2_int min2_int max_two min_two max_three min_three max_four min_four
set_option linter.unusedVariables false
set_option linter.unusedSimpArgs false
def root_fits.f (a0 : Int) : Option (Bool) := if a0 ≥ 0 then (some (decide (a0 ≤ 2147483647))) else (some false)
set_option maxHeartbeats 8000000 in
set_option maxRecDepth 100000 in
theorem root_fits.calls (a0 : Int) (r : Bool) (w : World) (h : root_fits.f a0 = some r) :
  Calls Try.prog 49 #[.int .i64 a0] w fun e w' => e = .returned (.bool r) ∧ Drawn0 w w' := by
 have H : (if a0 ≥ 0 then (some (decide (a0 ≤ 2147483647))) else (some false)) = some r := h
 clear h
 by_cases c2 : a0 ≥ 0
 ·rw [if_pos c2] at H
  have c2b0 : decide (0 ≤ a0) = true := decide_eq_true c2
  clear c2
  obtain rfl := Option.some.inj H
  go_enter Try.func49, Try.ntmps49
  go_wp2
  go_ret
  exact ⟨by first | rfl | (simp; done) | (simp [*]; done), by repeat (first | exact Drawn0.refl _ | apply Drawn0.step)⟩
 ·rw [if_neg c2] at H
  have c2b0 : decide (0 ≤ a0) = false := decide_eq_false c2
  clear c2
  obtain rfl := Option.some.inj H
  go_enter Try.func49, Try.ntmps49
  go_wp2
  go_ret
  exact ⟨by first | rfl | (simp; done) | (simp [*]; done), by repeat (first | exact Drawn0.refl _ | apply Drawn0.step)⟩
def root_Right.f (a0_0 : Int) (a0_1 : Int) (a0_2 : Int) : Option (Bool) := (root_fits.f a0_0).bind fun t111 => (if t111 = true then ((root_fits.f a0_1).bind fun t112 => (if t112 = true then ((root_fits.f a0_2).bind fun t113 => (some t113)) else (some false))) else (some false))
set_option maxHeartbeats 8000000 in
set_option maxRecDepth 100000 in
theorem root_Right.calls (a0_0 : Int) (a0_1 : Int) (a0_2 : Int) (r : Bool) (w : World) (h : root_Right.f a0_0 a0_1 a0_2 = some r) :
  Calls Try.prog 23 #[.agg #[.int .i64 a0_0, .int .i64 a0_1, .int .i64 a0_2]] w fun e w' => e = .returned (.bool r) ∧ Below w.heap.size w w' := by
 have hu27 := Try.underlying27
 have HB := Aside0.mk (Below.refl w.heap.size w)
 have H : ((root_fits.f a0_0).bind fun t111 => (if t111 = true then ((root_fits.f a0_1).bind fun t112 => (if t112 = true then ((root_fits.f a0_2).bind fun t113 => (some t113)) else (some false))) else (some false))) = some r := h
 clear h
 replace H := Option.bind_eq_some_iff.mp H
 obtain ⟨t111, A20, H⟩ := H
 try dsimp only at H
 have A2 := Aside0.mk A20
 clear A20
 by_cases c3 : t111 = true
 ·subst c3
  have H1 : ((root_fits.f a0_1).bind fun t112 => (if t112 = true then ((root_fits.f a0_2).bind fun t113 => (some t113)) else (some false))) = some r := by rw [if_pos rfl] at H; exact H
  clear H
  have H := H1
  clear H1
  replace H := Option.bind_eq_some_iff.mp H
  obtain ⟨t112, A40, H⟩ := H
  try dsimp only at H
  have A4 := Aside0.mk A40
  clear A40
  by_cases c5 : t112 = true
  ·subst c5
   have H1 : ((root_fits.f a0_2).bind fun t113 => (some t113)) = some r := by rw [if_pos rfl] at H; exact H
   clear H
   have H := H1
   clear H1
   replace H := Option.bind_eq_some_iff.mp H
   obtain ⟨t113, A60, H⟩ := H
   try dsimp only at H
   have A6 := Aside0.mk A60
   clear A60
   obtain rfl := Option.some.inj H
   go_enter Try.func23, Try.ntmps23
   go_wp2_with (first | ((with_reducible refine gate_dst (N := 1) rfl ?_); refine box_event ?hg (N := 1) ?hd (cs := #[.int .i64 a0_0, .int .i64 a0_1, .int .i64 a0_2]) (t := 27) ?hr ?_; (case hd => rfl); (case hg => rfl); (case hr => first | (go_simp; done) | (go_simp; rfl)); intro gb110 hg w7 hbox hb; have BK110 := Aside0.mk (hbox); have GW110 := Aside0.mk ((geU HB.out hg)); have GE110 := Aside0.mk ((geU HB.out hg)); replace HB := Aside0.mk (below_step (beU HB.out) hb); clear hb hbox hg; have hcz8_0 : w7.cell? ⟨gb110, 0, none⟩ = some (.int .i64 a0_0) := (blk_cell BK110.out 0).trans rfl; have hcz8_1 : w7.cell? ⟨gb110, 1, none⟩ = some (.int .i64 a0_1) := (blk_cell BK110.out 1).trans rfl; have hcz8_2 : w7.cell? ⟨gb110, 2, none⟩ = some (.int .i64 a0_2) := (blk_cell BK110.out 2).trans rfl; have hfz8_0 := blk_frozen BK110.out 0; have hfz8_1 := blk_frozen BK110.out 1; have hfz8_2 := blk_frozen BK110.out 2) | ((with_reducible refine gate_callee (f := 49) rfl ?_); refine goesL_ (some 5) rfl rfl Try.func49 (by kernel_rfl) rfl #[.int .i64 a0_0] rfl (by (try simp only [List.map_toArray, List.map_cons, List.map_nil]); first | done | rfl | (simp only [List.length_drop, List.length_take]; rfl)) ?_; (with_reducible refine (root_fits.calls a0_0 true _ A2.out).mono ?_); rintro e w' ⟨rfl, ⟨nd, rfl⟩⟩; refine ⟨_, rfl, ?_⟩) | (go_at_call 49; (with_reducible refine (root_fits.calls a0_1 true _ A4.out).mono ?_); rintro e w' ⟨rfl, ⟨nd, rfl⟩⟩) | (go_at_call 49; (with_reducible refine (root_fits.calls a0_2 t113 _ A6.out).mono ?_); rintro e w' ⟨rfl, ⟨nd, rfl⟩⟩))
   go_ret
   exact ⟨by first | rfl | (simp [errW_none, errW_some] <;> rfl) | (simp [*, errW_none, errW_some] <;> rfl), by repeat (first | (with_reducible first | exact HB.out | apply below_alloc | apply pw_below_drewN | apply below_drew1 | refine below_set ?_ GE110.out) | exact HB.out)⟩
  ·replace c5 := Bool.eq_false_iff.mpr c5
   subst c5
   have H1 : (some false) = some r := by rw [if_neg (show ¬ (false = true) by decide)] at H; exact H
   clear H
   have H := H1
   clear H1
   obtain rfl := Option.some.inj H
   go_enter Try.func23, Try.ntmps23
   go_wp2_with (first | ((with_reducible refine gate_dst (N := 1) rfl ?_); refine box_event ?hg (N := 1) ?hd (cs := #[.int .i64 a0_0, .int .i64 a0_1, .int .i64 a0_2]) (t := 27) ?hr ?_; (case hd => rfl); (case hg => rfl); (case hr => first | (go_simp; done) | (go_simp; rfl)); intro gb110 hg w9 hbox hb; have BK110 := Aside0.mk (hbox); have GW110 := Aside0.mk ((geU HB.out hg)); have GE110 := Aside0.mk ((geU HB.out hg)); replace HB := Aside0.mk (below_step (beU HB.out) hb); clear hb hbox hg; have hcz10_0 : w9.cell? ⟨gb110, 0, none⟩ = some (.int .i64 a0_0) := (blk_cell BK110.out 0).trans rfl; have hcz10_1 : w9.cell? ⟨gb110, 1, none⟩ = some (.int .i64 a0_1) := (blk_cell BK110.out 1).trans rfl; have hcz10_2 : w9.cell? ⟨gb110, 2, none⟩ = some (.int .i64 a0_2) := (blk_cell BK110.out 2).trans rfl; have hfz10_0 := blk_frozen BK110.out 0; have hfz10_1 := blk_frozen BK110.out 1; have hfz10_2 := blk_frozen BK110.out 2) | ((with_reducible refine gate_callee (f := 49) rfl ?_); refine goesL_ (some 5) rfl rfl Try.func49 (by kernel_rfl) rfl #[.int .i64 a0_0] rfl (by (try simp only [List.map_toArray, List.map_cons, List.map_nil]); first | done | rfl | (simp only [List.length_drop, List.length_take]; rfl)) ?_; (with_reducible refine (root_fits.calls a0_0 true _ A2.out).mono ?_); rintro e w' ⟨rfl, ⟨nd, rfl⟩⟩; refine ⟨_, rfl, ?_⟩) | (go_at_call 49; (with_reducible refine (root_fits.calls a0_1 false _ A4.out).mono ?_); rintro e w' ⟨rfl, ⟨nd, rfl⟩⟩))
   go_ret
   exact ⟨by first | rfl | (simp [errW_none, errW_some] <;> rfl) | (simp [*, errW_none, errW_some] <;> rfl), by repeat (first | (with_reducible first | exact HB.out | apply below_alloc | apply pw_below_drewN | apply below_drew1 | refine below_set ?_ GE110.out) | exact HB.out)⟩
 ·replace c3 := Bool.eq_false_iff.mpr c3
  subst c3
  have H1 : (some false) = some r := by rw [if_neg (show ¬ (false = true) by decide)] at H; exact H
  clear H
  have H := H1
  clear H1
  obtain rfl := Option.some.inj H
  go_enter Try.func23, Try.ntmps23
  go_wp2_with (first | ((with_reducible refine gate_dst (N := 1) rfl ?_); refine box_event ?hg (N := 1) ?hd (cs := #[.int .i64 a0_0, .int .i64 a0_1, .int .i64 a0_2]) (t := 27) ?hr ?_; (case hd => rfl); (case hg => rfl); (case hr => first | (go_simp; done) | (go_simp; rfl)); intro gb110 hg w11 hbox hb; have BK110 := Aside0.mk (hbox); have GW110 := Aside0.mk ((geU HB.out hg)); have GE110 := Aside0.mk ((geU HB.out hg)); replace HB := Aside0.mk (below_step (beU HB.out) hb); clear hb hbox hg; have hcz12_0 : w11.cell? ⟨gb110, 0, none⟩ = some (.int .i64 a0_0) := (blk_cell BK110.out 0).trans rfl; have hcz12_1 : w11.cell? ⟨gb110, 1, none⟩ = some (.int .i64 a0_1) := (blk_cell BK110.out 1).trans rfl; have hcz12_2 : w11.cell? ⟨gb110, 2, none⟩ = some (.int .i64 a0_2) := (blk_cell BK110.out 2).trans rfl; have hfz12_0 := blk_frozen BK110.out 0; have hfz12_1 := blk_frozen BK110.out 1; have hfz12_2 := blk_frozen BK110.out 2) | ((with_reducible refine gate_callee (f := 49) rfl ?_); refine goesL_ (some 5) rfl rfl Try.func49 (by kernel_rfl) rfl #[.int .i64 a0_0] rfl (by (try simp only [List.map_toArray, List.map_cons, List.map_nil]); first | done | rfl | (simp only [List.length_drop, List.length_take]; rfl)) ?_; (with_reducible refine (root_fits.calls a0_0 false _ A2.out).mono ?_); rintro e w' ⟨rfl, ⟨nd, rfl⟩⟩; refine ⟨_, rfl, ?_⟩))
  go_ret
  exact ⟨by first | rfl | (simp [errW_none, errW_some] <;> rfl) | (simp [*, errW_none, errW_some] <;> rfl), by repeat (first | (with_reducible first | exact HB.out | apply below_alloc | apply pw_below_drewN | apply below_drew1 | refine below_set ?_ GE110.out) | exact HB.out)⟩
def root_Write.l0 : Nat → ByteArray → List Int → Int → Int → List ByteArray → List (S83) → Int → Int → Int → Option (List ByteArray × (List (S83)) × Int)
 | 0, _, _, _, _, _, _, _, _, _ => none
 | k + 1, x6, x21, x22, x23, x158000, x158001, x159000, x159001, x159002 => if x23 < x22 then (if 0 ≤ x23 then (if x23 < (x21.length : Int) then ((pack_Num.f k (IntKind.u64.wrap (rd x21 x23)) 4).bind fun bt165 => (if x6.size + bt165.1.size ≤ 9223372036854775807 then (root_Write.l0 k (x6 ++ bt165.1) x21 x22 (wrap64 (x23 + 1)) x158000 x158001 x159000 x159001 x159002) else (none))) else (none)) else (none)) else ((block_Write.f k x158000 x158001 (Int.tmod x159000 2) x6).bind fun bt167 => (some (bt167.1, bt167.2.1, bt167.2.2)))
def root_Write.f (k : Nat) (l0_0 : List ByteArray) (l0_1 : List (S83)) (a1_0 : Int) (a1_1 : Int) (a1_2 : Int) : Option (List ByteArray × (List (S83)) × Int) := (root_Right.f a1_0 a1_1 a1_2).bind fun t160 => (if t160 = true then ((some (([a1_0, a1_1, a1_2] : List Int) : List Int)).bind fun y161 => (root_Write.l0 k (⟨#[]⟩ : ByteArray) y161 (y161.length : Int) 0 l0_0 l0_1 a1_0 a1_1 a1_2)) else (some (l0_0, l0_1, 1)))
theorem root_Write.mono_l : ∀ k, (∀ y0 y1 y2 y3 y4 y5 y6 y7 y8, LeO (root_Write.l0 k y0 y1 y2 y3 y4 y5 y6 y7 y8) (root_Write.l0 (k + 1) y0 y1 y2 y3 y4 y5 y6 y7 y8))
 | 0 => fun _ _ _ _ _ _ _ _ _ r h => by simp [root_Write.l0] at h
 | k + 1 => by
  have ih0 := root_Write.mono_l k
  ·intro y0 y1 y2 y3 y4 y5 y6 y7 y8
   unfold root_Write.l0
   repeat' first
   | (with_reducible exact ih0 _ _ _ _ _ _ _ _ _)
   | (with_reducible exact block_Write.mono _ _ _ _ _)
   | (with_reducible exact pack_Num.mono _ _ _)
   | (with_reducible exact LeO.refl _)
   | (with_reducible exact LeO.none _)
   | (with_reducible refine LeO.ite ?_ ?_)
   | (with_reducible refine LeO.bind ?_ (fun _ => ?_))
   | exact ih0 _ _ _ _ _ _ _ _ _
   | exact LeO.none _
   | refine LeO.ite ?_ ?_
   | refine LeO.bind ?_ (fun _ => ?_)
theorem root_Write.mono : ∀ a0 a1 a2 a3 a4 k, LeO (root_Write.f k a0 a1 a2 a3 a4) (root_Write.f (k + 1) a0 a1 a2 a3 a4) := by
 intro a0 a1 a2 a3 a4 k
 have ih0 := root_Write.mono_l k
 unfold root_Write.f
 repeat' first
   | (with_reducible exact ih0 _ _ _ _ _ _ _ _ _)
   | (with_reducible exact block_Write.mono _ _ _ _ _)
   | (with_reducible exact pack_Num.mono _ _ _)
   | (with_reducible exact LeO.refl _)
   | (with_reducible exact LeO.none _)
   | (with_reducible refine LeO.ite ?_ ?_)
   | (with_reducible refine LeO.bind ?_ (fun _ => ?_))
   | exact ih0 _ _ _ _ _ _ _ _ _
   | exact LeO.none _
   | refine LeO.ite ?_ ?_
   | refine LeO.bind ?_ (fun _ => ?_)
set_option maxHeartbeats 8000000 in
set_option maxRecDepth 100000 in
theorem root_Write.calls (k : Nat) (P0_0_ : Nat → Prop) (A0_0 : Option Addr) (c0_0 : Nat) (l0_0 : List ByteArray) (P0_1_ : Nat → Prop) (A0_1 : Option Addr) (c0_1 : Nat) (l0_1 : List (S83)) (a1_0 : Int) (a1_1 : Int) (a1_2 : Int) (r1 : List ByteArray) (r2 : List (S83)) (r3 : Int) (w : World) (hs0_0 : Kd.V Kd.string 9 w w.heap.size (fun k_ => P0_0_ k_) (.slice A0_0 l0_0.length c0_0) l0_0) (hs0_1 : Kd.V k83 83 w w.heap.size (fun k_ => P0_1_ k_) (.slice A0_1 l0_1.length c0_1) l0_1) (h : root_Write.f k l0_0 l0_1 a1_0 a1_1 a1_2 = some (r1, r2, r3)) :
  Calls Try.prog 17 #[.agg #[.slice A0_0 l0_0.length c0_0, .slice A0_1 l0_1.length c0_1], .agg #[.int .i64 a1_0, .int .i64 a1_1, .int .i64 a1_2]] w fun e w' => ∃ v0_ v1_ : Value, e = .returned (.tuple #[.agg #[v0_, v1_], .int .i64 r3]) ∧ Kd.V Kd.string 9 w' w.heap.size (fun k_ => ((P0_0_ k_ ∨ P0_1_ k_) ∨ w.heap.size ≤ k_)) v0_ r1 ∧ Kd.V k83 83 w' w.heap.size (fun k_ => ((P0_0_ k_ ∨ P0_1_ k_) ∨ w.heap.size ≤ k_)) v1_ r2 ∧ Below w.heap.size w w' := by
 have hu25 := Try.underlying25
 have hu27 := Try.underlying27
 have HO0_0 := Aside0.mk (show Kd.V Kd.string 9 w w.heap.size (fun k_ => ((P0_0_ k_ ∨ P0_1_ k_) ∨ w.heap.size ≤ k_)) (.slice A0_0 l0_0.length c0_0) l0_0 from Kd.V_mono hs0_0 (fun k_ hk => .inl (.inl hk)))
 have HO0_1 := Aside0.mk (show Kd.V k83 83 w w.heap.size (fun k_ => ((P0_0_ k_ ∨ P0_1_ k_) ∨ w.heap.size ≤ k_)) (.slice A0_1 l0_1.length c0_1) l0_1 from Kd.V_mono hs0_1 (fun k_ hk => .inl (.inr hk)))
 have HB := Aside0.mk (Below.refl w.heap.size w)
 have H : ((root_Right.f a1_0 a1_1 a1_2).bind fun t160 => (if t160 = true then ((some (([a1_0, a1_1, a1_2] : List Int) : List Int)).bind fun y161 => (root_Write.l0 k (⟨#[]⟩ : ByteArray) y161 (y161.length : Int) 0 l0_0 l0_1 a1_0 a1_1 a1_2)) else (some (l0_0, l0_1, 1)))) = some (r1, r2, r3) := h
 clear h
 replace H := Option.bind_eq_some_iff.mp H
 obtain ⟨t160, A30, H⟩ := H
 try dsimp only at H
 have A3 := Aside0.mk A30
 clear A30
 by_cases c4 : t160 = true
 ·subst c4
  have H1 : ((some (([a1_0, a1_1, a1_2] : List Int) : List Int)).bind fun y161 => (root_Write.l0 k (⟨#[]⟩ : ByteArray) y161 (y161.length : Int) 0 l0_0 l0_1 a1_0 a1_1 a1_2)) = some (r1, r2, r3) := by rw [if_pos rfl] at H; exact H
  clear H
  have H := H1
  clear H1
  obtain ⟨y161, hy161⟩ : ∃ y_ : List Int, y_ = (([a1_0, a1_1, a1_2] : List Int)) := ⟨_, rfl⟩
  replace H : (root_Write.l0 k (⟨#[]⟩ : ByteArray) y161 (y161.length : Int) 0 l0_0 l0_1 a1_0 a1_1 a1_2) = some (r1, r2, r3) := by first | (rw [hy161]; with_reducible exact H) | (have H2_ := (Option.bind_some _ _).symm.trans H; rw [hy161]; with_reducible exact H2_) | (have H2_ := (Option.bind_some _ _).symm.trans H; with_reducible exact H2_) | with_reducible exact H | (rw [hy161]; exact H) | exact H
  have Ny161 := Aside0.mk hy161
  clear hy161
  have H' := Aside0.mk H
  clear H
  go_enter Try.func17, Try.ntmps17
  go_wp2_with (first | ((with_reducible refine gate_dst (N := 2) rfl ?_); refine box_event ?hg (N := 2) ?hd (cs := #[.slice A0_0 l0_0.length c0_0, .slice A0_1 l0_1.length c0_1]) (t := 25) ?hr ?_; (case hd => rfl); (case hg => rfl); (case hr => first | (go_simp; done) | (go_simp; rfl)); intro gb157 hg w5 hbox hb; have BK157 := Aside0.mk (hbox); have GW157 := Aside0.mk ((geU HB.out hg)); have GE157 := Aside0.mk ((geU HB.out hg)); replace HO0_0 := Aside0.mk (Kd.V_below (Kd.V_elderB (vU HO0_0.out) gb157 (Nat.le_of_eq hg.symm)) hb); replace HO0_1 := Aside0.mk (Kd.V_below (Kd.V_elderB (vU HO0_1.out) gb157 (Nat.le_of_eq hg.symm)) hb); replace HB := Aside0.mk (below_step (beU HB.out) hb); clear hb hbox hg) | ((with_reducible refine gate_dst (N := 3) rfl ?_); refine box_event ?hg (N := 3) ?hd (cs := #[.int .i64 a1_0, .int .i64 a1_1, .int .i64 a1_2]) (t := 27) ?hr ?_; (case hd => rfl); (case hg => rfl); (case hr => first | (go_simp; done) | (go_simp; rfl)); intro gb158 hg w6 hbox hb; have BK158 := Aside0.mk (hbox); have GW158 := Aside0.mk ((by first | exact geU HB.out hg | (rw [hg]; exact below_size (by repeat (first | exact beU HB.out | refine below_set ?_ (Aside0.out ‹_›) | apply below_alloc | apply pw_below_drewN | apply below_drew1))))); have GE158 := Aside0.mk ((by first | exact geU HB.out hg | (rw [hg]; exact below_size (by repeat (first | exact beU HB.out | refine below_set ?_ (Aside0.out ‹_›) | apply below_alloc | apply pw_below_drewN | apply below_drew1))))); have NB157_158 := Aside0.mk ((neU BK157.out hg)); have NB158_157 := Aside0.mk ((enU BK157.out hg)); replace HO0_0 := Aside0.mk (Kd.V_below (Kd.V_elderB (vU HO0_0.out) gb158 (Nat.le_of_eq hg.symm)) hb); replace HO0_1 := Aside0.mk (Kd.V_below (Kd.V_elderB (vU HO0_1.out) gb158 (Nat.le_of_eq hg.symm)) hb); replace BK157 := Aside0.mk (blk_below (bU BK157.out) hb); replace HB := Aside0.mk (below_step (by repeat (first | exact beU HB.out | refine below_set ?_ (Aside0.out ‹_›) | apply below_alloc | apply pw_below_drewN | apply below_drew1)) hb); clear hb hbox hg) | ((with_reducible refine gate_dst (N := 4) rfl ?_); refine box_event ?hg (N := 4) ?hd (cs := #[.slice none 0 0, .slice none 0 0]) (t := 25) ?hr ?_; (case hd => rfl); (case hg => rfl); (case hr => first | (go_simp; done) | (go_simp; rfl)); intro gb159 hg w7 hbox hb; have BK159 := Aside0.mk (hbox); have GW159 := Aside0.mk ((by first | exact geU HB.out hg | (rw [hg]; exact below_size (by repeat (first | exact beU HB.out | refine below_set ?_ (Aside0.out ‹_›) | apply below_alloc | apply pw_below_drewN | apply below_drew1))))); have GE159 := Aside0.mk ((by first | exact geU HB.out hg | (rw [hg]; exact below_size (by repeat (first | exact beU HB.out | refine below_set ?_ (Aside0.out ‹_›) | apply below_alloc | apply pw_below_drewN | apply below_drew1))))); have NB157_159 := Aside0.mk ((neU BK157.out hg)); have NB159_157 := Aside0.mk ((enU BK157.out hg)); have NB158_159 := Aside0.mk ((neU BK158.out hg)); have NB159_158 := Aside0.mk ((enU BK158.out hg)); replace HO0_0 := Aside0.mk (Kd.V_below (Kd.V_elderB (vU HO0_0.out) gb159 (Nat.le_of_eq hg.symm)) hb); replace HO0_1 := Aside0.mk (Kd.V_below (Kd.V_elderB (vU HO0_1.out) gb159 (Nat.le_of_eq hg.symm)) hb); replace BK157 := Aside0.mk (blk_below (bU BK157.out) hb); replace BK158 := Aside0.mk (blk_below (bU BK158.out) hb); replace HB := Aside0.mk (below_step (by repeat (first | exact beU HB.out | refine below_set ?_ (Aside0.out ‹_›) | apply below_alloc | apply pw_below_drewN | apply below_drew1)) hb); clear hb hbox hg; have hnb8 := NB158_157.out; have hnc8 := NB157_158.out; have hnb9 := NB158_159.out; have hnc9 := NB159_158.out; have hcz10_0 : w7.cell? ⟨gb158, 0, none⟩ = some (.int .i64 a1_0) := (blk_cell BK158.out 0).trans rfl; have hcz10_1 : w7.cell? ⟨gb158, 1, none⟩ = some (.int .i64 a1_1) := (blk_cell BK158.out 1).trans rfl; have hcz10_2 : w7.cell? ⟨gb158, 2, none⟩ = some (.int .i64 a1_2) := (blk_cell BK158.out 2).trans rfl; have hfz10_0 := blk_frozen BK158.out 0; have hfz10_1 := blk_frozen BK158.out 1; have hfz10_2 := blk_frozen BK158.out 2) | ((with_reducible refine gate_callee (f := 23) rfl ?_); refine goesL_ (some 12) rfl rfl Try.func23 (by kernel_rfl) rfl #[.agg #[.int .i64 a1_0, .int .i64 a1_1, .int .i64 a1_2]] rfl (by (try simp only [List.map_toArray, List.map_cons, List.map_nil]); first | done | rfl | (simp only [List.length_drop, List.length_take]; rfl)) ?_; (with_reducible refine (root_Right.calls a1_0 a1_1 a1_2 true _ A3.out).mono ?_); rintro e w11 ⟨rfl, hb⟩; refine ⟨_, rfl, ?_⟩; replace HO0_0 := Aside0.mk (Kd.V_below (vU HO0_0.out) hb); replace HO0_1 := Aside0.mk (Kd.V_below (vU HO0_1.out) hb); replace BK157 := Aside0.mk (blk_below (bU BK157.out) hb); replace BK158 := Aside0.mk (blk_below (bU BK158.out) hb); replace BK159 := Aside0.mk (blk_below (bU BK159.out) hb); replace HB := Aside0.mk (below_step (by repeat (first | exact beU HB.out | refine below_set ?_ (Aside0.out ‹_›) | apply below_alloc | apply pw_below_drewN | apply below_drew1)) hb); (try clear hb); (try clear hb2); (try clear hk); (try clear hi); have hcz12_0 : w11.cell? ⟨gb158, 0, none⟩ = some (.int .i64 a1_0) := (blk_cell BK158.out 0).trans rfl; have hcz12_1 : w11.cell? ⟨gb158, 1, none⟩ = some (.int .i64 a1_1) := (blk_cell BK158.out 1).trans rfl; have hcz12_2 : w11.cell? ⟨gb158, 2, none⟩ = some (.int .i64 a1_2) := (blk_cell BK158.out 2).trans rfl; have hfz12_0 := blk_frozen BK158.out 0; have hfz12_1 := blk_frozen BK158.out 1; have hfz12_2 := blk_frozen BK158.out 2) | ((with_reducible refine gate_dst (N := 21) rfl ?_); refine Kd.R_lit (Kd.int .i64) _ 3 ?hg (N := 21) ?hd (xs := ([a1_0, a1_1, a1_2] : List Int)) (inner := [.int .i64 a1_0, .int .i64 a1_1, .int .i64 a1_2]) (ok := fun _ => True) (okp := fun _ => True) ?hr ?hp (fun _ hk => hk) trivial (Below.refl _ _) (Nat.le_refl _) (by simp) ?_; (case hd => rfl); (case hg => rfl); (case hr => first | (go_simp; done) | (go_simp; rfl)); (case hp => exact (Reps.one (show Kd.M (Kd.int .i64) _ _ _ a1_0 [.int .i64 a1_0] from rfl) (Reps.one (show Kd.M (Kd.int .i64) _ _ _ a1_1 [.int .i64 a1_1] from rfl) (Reps.one (show Kd.M (Kd.int .i64) _ _ _ a1_2 [.int .i64 a1_2] from rfl) (Reps.none _ _))))); intro v162 w13 ho14 hb hg_ hnew_; clear hg_ hnew_; (first | rw [← Ny161.out] at ho14 | (simp only [Int.reduceToNat] at ho14; rw [← Ny161.out] at ho14)); have HO163 := Aside0.mk (Kd.R_lower (Kd.R_newM (M := fun k_ => (w.heap.size ≤ k_)) ho14 (below_size (by repeat (first | exact beU HB.out | refine below_set ?_ (Aside0.out ‹_›) | apply below_alloc | apply pw_below_drewN | apply below_drew1))) (fun k_ h_ => h_)) (below_size (by repeat (first | exact beU HB.out | refine below_set ?_ (Aside0.out ‹_›) | apply below_alloc | apply pw_below_drewN | apply below_drew1)))); replace HO0_0 := Aside0.mk (Kd.V_elder' (vU HO0_0.out) (Kd.R_base ho14) hb); replace HO0_1 := Aside0.mk (Kd.V_elder' (vU HO0_1.out) (Kd.R_base ho14) hb); replace BK157 := Aside0.mk (blk_below (bU BK157.out) hb); replace BK158 := Aside0.mk (blk_below (bU BK158.out) hb); replace BK159 := Aside0.mk (blk_below (bU BK159.out) hb); replace HB := Aside0.mk (below_step (by repeat (first | exact beU HB.out | refine below_set ?_ (Aside0.out ‹_›) | apply below_alloc | apply pw_below_drewN | apply below_drew1)) hb); clear hb ho14; obtain ⟨Ao15, co15, eo15⟩ := Kd.R_slice HO163.out; subst eo15))
  go_loopg [6, 23] k (fun kq v6 v23 w' => ∃ (x6_1 : ByteArray) (x23_1 : Int), v6 = .string x6_1 ∧ v23 = .int .i64 x23_1 ∧ Aside0 (root_Write.l0 kq x6_1 y161 (y161.length : Int) x23_1 l0_0 l0_1 a1_0 a1_1 a1_2 = some (r1, r2, r3)) ∧ Aside0 (kq ≤ k) ∧ Aside0 (Kd.R (Kd.int .i64) 3 w' w.heap.size (fun k_ => (w.heap.size ≤ k_)) (.slice Ao15 y161.length co15) y161) ∧ Aside0 (Kd.V Kd.string 9 w' w.heap.size (fun k_ => ((P0_0_ k_ ∨ P0_1_ k_) ∨ w.heap.size ≤ k_) ∧ some k_ ≠ ((.slice Ao15 y161.length co15) : Value).ownBlock ∧ k_ ≠ gb157 ∧ k_ ≠ gb158 ∧ k_ ≠ gb159) (.slice A0_0 l0_0.length c0_0) l0_0) ∧ Aside0 (Kd.V k83 83 w' w.heap.size (fun k_ => ((P0_0_ k_ ∨ P0_1_ k_) ∨ w.heap.size ≤ k_) ∧ some k_ ≠ ((.slice Ao15 y161.length co15) : Value).ownBlock ∧ k_ ≠ gb157 ∧ k_ ≠ gb158 ∧ k_ ≠ gb159) (.slice A0_1 l0_1.length c0_1) l0_1) ∧ Aside0 (w'.heap[gb157]? = some (.cells #[(.slice A0_0 l0_0.length c0_0), (.slice A0_1 l0_1.length c0_1)] 25 (0, 0))) ∧ Aside0 (w'.heap[gb158]? = some (.cells #[.int .i64 a1_0, .int .i64 a1_1, .int .i64 a1_2] 27 (0, 0))) ∧ Aside0 (w'.heap[gb159]? = some (.cells #[(.slice none 0 0), (.slice none 0 0)] 25 (0, 0))) ∧ Aside0 (Below w.heap.size w w'))
  case atStart => exact ⟨((⟨#[]⟩ : ByteArray)), (0), (by first | rfl | (simp; done) | (simp [*]; done)), (by first | rfl | (simp; done) | (simp [*]; done)), H', ⟨Nat.le_refl _⟩, ⟨by (with_reducible repeat (first | apply Kd.R_alloc | apply Kd.R_drewN | apply Kd.R_drew)); exact Kd.R_mono HO163.out (fun _ hk => hk.1)⟩, ⟨by (with_reducible repeat (first | apply Kd.V_alloc | apply Kd.V_drewN | apply Kd.V_drew)); exact Kd.V_mono HO0_0.out (fun _ hk => ⟨hk.1.1.1.1, ⟨hk.2, ⟨hk.1.1.1.2, ⟨hk.1.1.2, hk.1.2⟩⟩⟩⟩)⟩, ⟨by (with_reducible repeat (first | apply Kd.V_alloc | apply Kd.V_drewN | apply Kd.V_drew)); exact Kd.V_mono HO0_1.out (fun _ hk => ⟨hk.1.1.1.1, ⟨hk.2, ⟨hk.1.1.1.2, ⟨hk.1.1.2, hk.1.2⟩⟩⟩⟩)⟩, ⟨by (with_reducible repeat (first | refine blk_drewN ?_ _ | refine blk_drew ?_ | refine blk_alloc ?_ _)); exact BK157.out⟩, ⟨by (with_reducible repeat (first | refine blk_drewN ?_ _ | refine blk_drew ?_ | refine blk_alloc ?_ _)); exact BK158.out⟩, ⟨by (with_reducible repeat (first | refine blk_drewN ?_ _ | refine blk_drew ?_ | refine blk_alloc ?_ _)); exact BK159.out⟩, ⟨by repeat (first | (with_reducible first | exact HB.out | apply below_alloc | apply pw_below_drewN | apply below_drew1 | refine below_set ?_ GE157.out | refine below_set ?_ GE158.out | refine below_set ?_ GE159.out) | exact HB.out)⟩⟩
  case round =>
   clear H'
   try clear c1
   try clear c2
   try clear p2
   try clear c4
   try clear c8
   try clear c9
   try clear hcz10_0
   try clear hcz10_1
   try clear hcz10_2
   try clear hcz12_0
   try clear hcz12_1
   try clear hcz12_2
   try clear hfz10_0
   try clear hfz10_1
   try clear hfz10_2
   try clear hfz12_0
   try clear hfz12_1
   try clear hfz12_2
   obtain ⟨x6_1, x23_1, rfl, rfl, HA, HK1, HO_21, HO_158000, HO_158001, BK157, BK158, BK159, HB⟩ := hrel
   cases gk with
   | zero => exact absurd HA.out (by simp [root_Write.l0])
   | succ k1 =>
    have H := HA.out
    clear HA
    simp only [root_Write.l0] at H
    by_cases c16 : x23_1 < (y161.length : Int)
    ·rw [if_pos c16] at H
     have c16b0 : decide (x23_1 < (y161.length : Int)) = true := decide_eq_true c16
     clear c16
     by_cases c17 : 0 ≤ x23_1
     ·rw [if_pos c17] at H
      have c17b0 : decide (0 ≤ x23_1) = true := decide_eq_true c17
      clear c17
      by_cases c18 : x23_1 < (y161.length : Int)
      ·rw [if_pos c18] at H
       have c18b0 : decide (x23_1 < (y161.length : Int)) = true := decide_eq_true c18
       clear c18
       replace H := Option.bind_eq_some_iff.mp H
       obtain ⟨⟨t165, t166⟩, A190, H⟩ := H
       try dsimp only at H
       have A19 := Aside0.mk A190
       clear A190
       by_cases c20 : x6_1.size + t165.size ≤ 9223372036854775807
       ·rw [if_pos c20] at H
        have c20b0 := eq_true c20
        have c20b1 : decide (x6_1.size + t165.size ≤ 9223372036854775807) = true := decide_eq_true c20
        try have c20b2 : (9223372036854775807 < x6_1.size + t165.size) = False := eq_false (Nat.not_lt.2 c20)
        clear c20
        have H' := Aside0.mk H
        clear H
        have p164 : 0 ≤ (x23_1 : Int) := of_decide_eq_true (by first | (with_reducible assumption) | assumption)
        have q164 : x23_1 < (y161.length : Int) := of_decide_eq_true (by first | (with_reducible assumption) | assumption)
        obtain ⟨ad164, e164, hx164_0⟩ := Kd.at_int (Kd.R_reads' HO_21.out).2.2 x23_1 p164 q164
        cases e164
        replace p164 := eq_true p164
        replace q164 := eq_true q164
        go_wp2_with (first | ((with_reducible refine gate_callee (f := 41) rfl ?_); refine goesL_ (some 30) rfl rfl Try.func41 (by kernel_rfl) rfl #[.int .u64 (IntKind.u64.wrap (rd y161 x23_1)), .int .i64 4] rfl (by (try simp only [List.map_toArray, List.map_cons, List.map_nil]); first | done | rfl | (simp only [List.length_drop, List.length_take]; rfl)) ?_; (with_reducible refine (pack_Num.calls k1 (IntKind.u64.wrap (rd y161 x23_1)) 4 t165 t166 _ A19.out).mono ?_); rintro e w21 ⟨rfl, hb⟩; refine ⟨_, rfl, ?_⟩; replace HO_21 := Aside0.mk (Kd.R_below (rU HO_21.out) hb); replace HO_158000 := Aside0.mk (Kd.V_below (vU HO_158000.out) hb); replace HO_158001 := Aside0.mk (Kd.V_below (vU HO_158001.out) hb); replace BK157 := Aside0.mk (blk_below (bU BK157.out) hb); replace BK158 := Aside0.mk (blk_below (bU BK158.out) hb); replace BK159 := Aside0.mk (blk_below (bU BK159.out) hb); replace HB := Aside0.mk (below_step (by repeat (first | exact beU HB.out | refine below_set ?_ (Aside0.out ‹_›) | apply below_alloc | apply pw_below_drewN | apply below_drew1)) hb); (try clear hb); (try clear hb2); (try clear hk); (try clear hi)))
        go_roundg k1
        case measure => have := HK1.out; omega
        case rel => exact ⟨(x6_1 ++ t165), (wrap64 (x23_1 + 1)), (by first | rfl | (simp; done) | (simp [*]; done)), (by first | rfl | (simp; done) | (simp [*]; done)), H', ⟨by have := HK1.out; omega⟩, ⟨by (with_reducible repeat (first | apply Kd.R_alloc | apply Kd.R_drewN | apply Kd.R_drew)); exact HO_21.out⟩, ⟨by (with_reducible repeat (first | apply Kd.V_alloc | apply Kd.V_drewN | apply Kd.V_drew)); exact HO_158000.out⟩, ⟨by (with_reducible repeat (first | apply Kd.V_alloc | apply Kd.V_drewN | apply Kd.V_drew)); exact HO_158001.out⟩, ⟨by (with_reducible repeat (first | refine blk_drewN ?_ _ | refine blk_drew ?_ | refine blk_alloc ?_ _)); exact BK157.out⟩, ⟨by (with_reducible repeat (first | refine blk_drewN ?_ _ | refine blk_drew ?_ | refine blk_alloc ?_ _)); exact BK158.out⟩, ⟨by (with_reducible repeat (first | refine blk_drewN ?_ _ | refine blk_drew ?_ | refine blk_alloc ?_ _)); exact BK159.out⟩, ⟨by repeat (first | (with_reducible first | exact HB.out | apply below_alloc | apply pw_below_drewN | apply below_drew1 | refine below_set ?_ GE157.out | refine below_set ?_ GE158.out | refine below_set ?_ GE159.out) | exact HB.out)⟩⟩
       ·rw [if_neg c20] at H
        exact absurd H (by simp)
      ·rw [if_neg c18] at H
       exact absurd H (by simp)
     ·rw [if_neg c17] at H
      exact absurd H (by simp)
    ·rw [if_neg c16] at H
     have c16b0 : decide (x23_1 < (y161.length : Int)) = false := decide_eq_false c16
     clear c16
     replace H := Option.bind_eq_some_iff.mp H
     obtain ⟨⟨t167, t170, t173⟩, A220, H⟩ := H
     try dsimp only at H
     have A22 := Aside0.mk A220
     clear A220
     simp only [Option.some.injEq, Prod.mk.injEq] at H
     obtain ⟨rfl, rfl, rfl⟩ := H
     have hnb23 := NB157_158.out
     have hnc23 := NB158_157.out
     have hnb24 := NB157_159.out
     have hnc24 := NB159_157.out
     have hcz25_0 : wr.cell? ⟨gb157, 0, none⟩ = some (.slice A0_0 l0_0.length c0_0) := (blk_cell BK157.out 0).trans rfl
     have hcz25_1 : wr.cell? ⟨gb157, 1, none⟩ = some (.slice A0_1 l0_1.length c0_1) := (blk_cell BK157.out 1).trans rfl
     have hfz25_0 := blk_frozen BK157.out 0
     have hfz25_1 := blk_frozen BK157.out 1
     have hnb26 := NB158_159.out
     have hnc26 := NB159_158.out
     have hcz27_0 : wr.cell? ⟨gb158, 0, none⟩ = some (.int .i64 a1_0) := (blk_cell BK158.out 0).trans rfl
     have hcz27_1 : wr.cell? ⟨gb158, 1, none⟩ = some (.int .i64 a1_1) := (blk_cell BK158.out 1).trans rfl
     have hcz27_2 : wr.cell? ⟨gb158, 2, none⟩ = some (.int .i64 a1_2) := (blk_cell BK158.out 2).trans rfl
     have hfz27_0 := blk_frozen BK158.out 0
     have hfz27_1 := blk_frozen BK158.out 1
     have hfz27_2 := blk_frozen BK158.out 2
     go_wp2_with (first | ((with_reducible refine gate_callee (f := 42) rfl ?_); refine goesL_ (some 42) rfl rfl Try.func42 (by kernel_rfl) rfl #[.agg #[.slice A0_0 l0_0.length c0_0, .slice A0_1 l0_1.length c0_1], .int .i64 (Int.tmod a1_0 2), .string x6_1] rfl (by (try simp only [List.map_toArray, List.map_cons, List.map_nil]); first | done | rfl | (simp only [List.length_drop, List.length_take]; rfl)) ?_; (with_reducible refine (block_Write.calls k1 (fun k_ => (((P0_0_ k_ ∨ P0_1_ k_) ∨ w.heap.size ≤ k_) ∧ (some k_ ≠ (.slice Ao15 y161.length co15 : Value).ownBlock ∧ (k_ ≠ gb157 ∧ (k_ ≠ gb158 ∧ k_ ≠ gb159))))) _ _ l0_0 (fun k_ => (((P0_0_ k_ ∨ P0_1_ k_) ∨ w.heap.size ≤ k_) ∧ (some k_ ≠ (.slice Ao15 y161.length co15 : Value).ownBlock ∧ (k_ ≠ gb157 ∧ (k_ ≠ gb158 ∧ k_ ≠ gb159))))) _ _ l0_1 (Int.tmod a1_0 2) x6_1 t167 t170 t173 _ ?side1 ?side2 A22.out).mono ?_); (case side1 => exact HO_158000.out); (case side2 => exact HO_158001.out); rintro e w28 ⟨v168, v171, rfl, ho0, ho1, hb⟩; refine ⟨_, rfl, ?_⟩; have HO169 := Aside0.mk (Kd.V_lower (Kd.V_mono (ok' := fun k_ => ((P0_0_ k_ ∨ P0_1_ k_) ∨ w.heap.size ≤ k_) ∧ some k_ ≠ (.slice Ao15 y161.length co15 : Value).ownBlock ∧ k_ ≠ gb157 ∧ k_ ≠ gb158 ∧ k_ ≠ gb159) ho0 (fun k_ hk_ => ⟨Or.elim hk_ (fun hs_ => Or.elim hs_ (fun hs_ => hs_.1) (fun hs_ => hs_.1)) (fun hn_ => (.inr (Nat.le_trans (below_size (by repeat (first | exact beU HB.out | refine below_set ?_ (Aside0.out ‹_›) | apply below_alloc | apply pw_below_drewN | apply below_drew1))) hn_))), Or.elim hk_ (fun hs_ => Or.elim hs_ (fun hs_ => hs_.2.1) (fun hs_ => hs_.2.1)) (fun hn_ => (Kd.fresh' (Kd.R_lt (rU HO_21.out)) k_ hn_)), Or.elim hk_ (fun hs_ => Or.elim hs_ (fun hs_ => hs_.2.2.1) (fun hs_ => hs_.2.2.1)) (fun hn_ => (Kd.freshB (g := gb157) (o := .cells #[.slice A0_0 l0_0.length c0_0, .slice A0_1 l0_1.length c0_1] 25 (0, 0)) (bU BK157.out) k_ hn_)), Or.elim hk_ (fun hs_ => Or.elim hs_ (fun hs_ => hs_.2.2.2.1) (fun hs_ => hs_.2.2.2.1)) (fun hn_ => (Kd.freshB (g := gb158) (o := .cells #[.int .i64 a1_0, .int .i64 a1_1, .int .i64 a1_2] 27 (0, 0)) (bU BK158.out) k_ hn_)), Or.elim hk_ (fun hs_ => Or.elim hs_ (fun hs_ => hs_.2.2.2.2) (fun hs_ => hs_.2.2.2.2)) (fun hn_ => (Kd.freshB (g := gb159) (o := .cells #[.slice none 0 0, .slice none 0 0] 25 (0, 0)) (bU BK159.out) k_ hn_))⟩)) (below_size (by repeat (first | exact beU HB.out | refine below_set ?_ (Aside0.out ‹_›) | apply below_alloc | apply pw_below_drewN | apply below_drew1)))); have HO172 := Aside0.mk (Kd.V_lower (Kd.V_mono (ok' := fun k_ => ((P0_0_ k_ ∨ P0_1_ k_) ∨ w.heap.size ≤ k_) ∧ some k_ ≠ (.slice Ao15 y161.length co15 : Value).ownBlock ∧ k_ ≠ gb157 ∧ k_ ≠ gb158 ∧ k_ ≠ gb159) ho1 (fun k_ hk_ => ⟨Or.elim hk_ (fun hs_ => Or.elim hs_ (fun hs_ => hs_.1) (fun hs_ => hs_.1)) (fun hn_ => (.inr (Nat.le_trans (below_size (by repeat (first | exact beU HB.out | refine below_set ?_ (Aside0.out ‹_›) | apply below_alloc | apply pw_below_drewN | apply below_drew1))) hn_))), Or.elim hk_ (fun hs_ => Or.elim hs_ (fun hs_ => hs_.2.1) (fun hs_ => hs_.2.1)) (fun hn_ => (Kd.fresh' (Kd.R_lt (rU HO_21.out)) k_ hn_)), Or.elim hk_ (fun hs_ => Or.elim hs_ (fun hs_ => hs_.2.2.1) (fun hs_ => hs_.2.2.1)) (fun hn_ => (Kd.freshB (g := gb157) (o := .cells #[.slice A0_0 l0_0.length c0_0, .slice A0_1 l0_1.length c0_1] 25 (0, 0)) (bU BK157.out) k_ hn_)), Or.elim hk_ (fun hs_ => Or.elim hs_ (fun hs_ => hs_.2.2.2.1) (fun hs_ => hs_.2.2.2.1)) (fun hn_ => (Kd.freshB (g := gb158) (o := .cells #[.int .i64 a1_0, .int .i64 a1_1, .int .i64 a1_2] 27 (0, 0)) (bU BK158.out) k_ hn_)), Or.elim hk_ (fun hs_ => Or.elim hs_ (fun hs_ => hs_.2.2.2.2) (fun hs_ => hs_.2.2.2.2)) (fun hn_ => (Kd.freshB (g := gb159) (o := .cells #[.slice none 0 0, .slice none 0 0] 25 (0, 0)) (bU BK159.out) k_ hn_))⟩)) (below_size (by repeat (first | exact beU HB.out | refine below_set ?_ (Aside0.out ‹_›) | apply below_alloc | apply pw_below_drewN | apply below_drew1)))); replace HO_21 := Aside0.mk (Kd.R_below (rU HO_21.out) hb); replace HO_158000 := Aside0.mk (Kd.V_below (vU HO_158000.out) hb); replace HO_158001 := Aside0.mk (Kd.V_below (vU HO_158001.out) hb); replace BK157 := Aside0.mk (blk_below (bU BK157.out) hb); replace BK158 := Aside0.mk (blk_below (bU BK158.out) hb); replace BK159 := Aside0.mk (blk_below (bU BK159.out) hb); replace HB := Aside0.mk (below_step (by repeat (first | exact beU HB.out | refine below_set ?_ (Aside0.out ‹_›) | apply below_alloc | apply pw_below_drewN | apply below_drew1)) hb); (try clear hb); (try clear hb2); (try clear hk); (try clear hi); (try clear ho0); (try clear ho1); obtain ⟨Ao29, co29, eo29⟩ := Kd.V_slice HO169.out; subst eo29; have hcz30_0 : w28.cell? ⟨gb159, 0, none⟩ = some (.slice none 0 0) := (blk_cell BK159.out 0).trans rfl; have hcz30_1 : w28.cell? ⟨gb159, 1, none⟩ = some (.slice none 0 0) := (blk_cell BK159.out 1).trans rfl; have hfz30_0 := blk_frozen BK159.out 0; have hfz30_1 := blk_frozen BK159.out 1; obtain ⟨Ao31, co31, eo31⟩ := Kd.V_slice HO172.out; subst eo31))
     refine bodyPost_ret (results_ct rfl _ _ gb159 25 #[.slice Ao29 t167.length co29, .slice Ao31 t170.length co31] (0, 0) _ rfl (by (with_reducible repeat (first | refine blk_drewN ?_ _ | refine blk_drew ?_ | refine blk_alloc ?_ _)); refine blk_put (cs := #[.slice Ao29 t167.length co29, .slice none 0 0]) ?_ 1 _ rfl; (with_reducible repeat (first | refine blk_drewN ?_ _ | refine blk_drew ?_ | refine blk_alloc ?_ _)); refine blk_put (cs := #[.slice none 0 0, .slice none 0 0]) ?_ 0 _ rfl; (with_reducible repeat (first | refine blk_drewN ?_ _ | refine blk_drew ?_ | refine blk_alloc ?_ _)); exact BK159.out) Try.underlying25 rfl (by kernel_rfl)) rfl ?_
     exact ⟨_, _, by first | rfl | (simp [errW_none, errW_some] <;> rfl) | (simp [*, errW_none, errW_some] <;> rfl), by (with_reducible repeat (first | apply Kd.V_alloc | apply Kd.V_drewN | apply Kd.V_drew)); exact Kd.V_mono (Kd.V_far (p := ⟨gb159, 1, none⟩) (Kd.V_far (p := ⟨gb159, 0, none⟩) (Kd.V_mono HO169.out (fun k_ hk => (⟨hk, hk.2.2.2.2⟩ : _ ∧ k_ ≠ gb159))) (fun _ hk => hk.2) (.slice Ao29 t167.length co29)) (fun _ hk => hk.2) (.slice Ao31 t170.length co31)) (fun _ hk => hk.1.1), by (with_reducible repeat (first | apply Kd.V_alloc | apply Kd.V_drewN | apply Kd.V_drew)); exact Kd.V_mono (Kd.V_far (p := ⟨gb159, 1, none⟩) (Kd.V_far (p := ⟨gb159, 0, none⟩) (Kd.V_mono HO172.out (fun k_ hk => (⟨hk, hk.2.2.2.2⟩ : _ ∧ k_ ≠ gb159))) (fun _ hk => hk.2) (.slice Ao29 t167.length co29)) (fun _ hk => hk.2) (.slice Ao31 t170.length co31)) (fun _ hk => hk.1.1), by repeat (first | (with_reducible first | exact HB.out | apply below_alloc | apply pw_below_drewN | apply below_drew1 | refine below_set ?_ GE157.out | refine below_set ?_ GE158.out | refine below_set ?_ GE159.out) | exact HB.out)⟩
 ·replace c4 := Bool.eq_false_iff.mpr c4
  subst c4
  have H1 : (some (l0_0, l0_1, 1)) = some (r1, r2, r3) := by rw [if_neg (show ¬ (false = true) by decide)] at H; exact H
  clear H
  have H := H1
  clear H1
  simp only [Option.some.injEq, Prod.mk.injEq] at H
  obtain ⟨rfl, rfl, rfl⟩ := H
  go_enter Try.func17, Try.ntmps17
  go_wp2_with (first | ((with_reducible refine gate_dst (N := 2) rfl ?_); refine box_event ?hg (N := 2) ?hd (cs := #[.slice A0_0 l0_0.length c0_0, .slice A0_1 l0_1.length c0_1]) (t := 25) ?hr ?_; (case hd => rfl); (case hg => rfl); (case hr => first | (go_simp; done) | (go_simp; rfl)); intro gb157 hg w32 hbox hb; have BK157 := Aside0.mk (hbox); have GW157 := Aside0.mk ((geU HB.out hg)); have GE157 := Aside0.mk ((geU HB.out hg)); replace HO0_0 := Aside0.mk (Kd.V_below (Kd.V_elderB (vU HO0_0.out) gb157 (Nat.le_of_eq hg.symm)) hb); replace HO0_1 := Aside0.mk (Kd.V_below (Kd.V_elderB (vU HO0_1.out) gb157 (Nat.le_of_eq hg.symm)) hb); replace HB := Aside0.mk (below_step (beU HB.out) hb); clear hb hbox hg) | ((with_reducible refine gate_dst (N := 3) rfl ?_); refine box_event ?hg (N := 3) ?hd (cs := #[.int .i64 a1_0, .int .i64 a1_1, .int .i64 a1_2]) (t := 27) ?hr ?_; (case hd => rfl); (case hg => rfl); (case hr => first | (go_simp; done) | (go_simp; rfl)); intro gb158 hg w33 hbox hb; have BK158 := Aside0.mk (hbox); have GW158 := Aside0.mk ((by first | exact geU HB.out hg | (rw [hg]; exact below_size (by repeat (first | exact beU HB.out | refine below_set ?_ (Aside0.out ‹_›) | apply below_alloc | apply pw_below_drewN | apply below_drew1))))); have GE158 := Aside0.mk ((by first | exact geU HB.out hg | (rw [hg]; exact below_size (by repeat (first | exact beU HB.out | refine below_set ?_ (Aside0.out ‹_›) | apply below_alloc | apply pw_below_drewN | apply below_drew1))))); have NB157_158 := Aside0.mk ((neU BK157.out hg)); have NB158_157 := Aside0.mk ((enU BK157.out hg)); replace HO0_0 := Aside0.mk (Kd.V_below (Kd.V_elderB (vU HO0_0.out) gb158 (Nat.le_of_eq hg.symm)) hb); replace HO0_1 := Aside0.mk (Kd.V_below (Kd.V_elderB (vU HO0_1.out) gb158 (Nat.le_of_eq hg.symm)) hb); replace BK157 := Aside0.mk (blk_below (bU BK157.out) hb); replace HB := Aside0.mk (below_step (by repeat (first | exact beU HB.out | refine below_set ?_ (Aside0.out ‹_›) | apply below_alloc | apply pw_below_drewN | apply below_drew1)) hb); clear hb hbox hg) | ((with_reducible refine gate_dst (N := 4) rfl ?_); refine box_event ?hg (N := 4) ?hd (cs := #[.slice none 0 0, .slice none 0 0]) (t := 25) ?hr ?_; (case hd => rfl); (case hg => rfl); (case hr => first | (go_simp; done) | (go_simp; rfl)); intro gb159 hg w34 hbox hb; have BK159 := Aside0.mk (hbox); have GW159 := Aside0.mk ((by first | exact geU HB.out hg | (rw [hg]; exact below_size (by repeat (first | exact beU HB.out | refine below_set ?_ (Aside0.out ‹_›) | apply below_alloc | apply pw_below_drewN | apply below_drew1))))); have GE159 := Aside0.mk ((by first | exact geU HB.out hg | (rw [hg]; exact below_size (by repeat (first | exact beU HB.out | refine below_set ?_ (Aside0.out ‹_›) | apply below_alloc | apply pw_below_drewN | apply below_drew1))))); have NB157_159 := Aside0.mk ((neU BK157.out hg)); have NB159_157 := Aside0.mk ((enU BK157.out hg)); have NB158_159 := Aside0.mk ((neU BK158.out hg)); have NB159_158 := Aside0.mk ((enU BK158.out hg)); replace HO0_0 := Aside0.mk (Kd.V_below (Kd.V_elderB (vU HO0_0.out) gb159 (Nat.le_of_eq hg.symm)) hb); replace HO0_1 := Aside0.mk (Kd.V_below (Kd.V_elderB (vU HO0_1.out) gb159 (Nat.le_of_eq hg.symm)) hb); replace BK157 := Aside0.mk (blk_below (bU BK157.out) hb); replace BK158 := Aside0.mk (blk_below (bU BK158.out) hb); replace HB := Aside0.mk (below_step (by repeat (first | exact beU HB.out | refine below_set ?_ (Aside0.out ‹_›) | apply below_alloc | apply pw_below_drewN | apply below_drew1)) hb); clear hb hbox hg; have hnb35 := NB158_157.out; have hnc35 := NB157_158.out; have hnb36 := NB158_159.out; have hnc36 := NB159_158.out; have hcz37_0 : w34.cell? ⟨gb158, 0, none⟩ = some (.int .i64 a1_0) := (blk_cell BK158.out 0).trans rfl; have hcz37_1 : w34.cell? ⟨gb158, 1, none⟩ = some (.int .i64 a1_1) := (blk_cell BK158.out 1).trans rfl; have hcz37_2 : w34.cell? ⟨gb158, 2, none⟩ = some (.int .i64 a1_2) := (blk_cell BK158.out 2).trans rfl; have hfz37_0 := blk_frozen BK158.out 0; have hfz37_1 := blk_frozen BK158.out 1; have hfz37_2 := blk_frozen BK158.out 2) | ((with_reducible refine gate_callee (f := 23) rfl ?_); refine goesL_ (some 12) rfl rfl Try.func23 (by kernel_rfl) rfl #[.agg #[.int .i64 a1_0, .int .i64 a1_1, .int .i64 a1_2]] rfl (by (try simp only [List.map_toArray, List.map_cons, List.map_nil]); first | done | rfl | (simp only [List.length_drop, List.length_take]; rfl)) ?_; (with_reducible refine (root_Right.calls a1_0 a1_1 a1_2 false _ A3.out).mono ?_); rintro e w38 ⟨rfl, hb⟩; refine ⟨_, rfl, ?_⟩; replace HO0_0 := Aside0.mk (Kd.V_below (vU HO0_0.out) hb); replace HO0_1 := Aside0.mk (Kd.V_below (vU HO0_1.out) hb); replace BK157 := Aside0.mk (blk_below (bU BK157.out) hb); replace BK158 := Aside0.mk (blk_below (bU BK158.out) hb); replace BK159 := Aside0.mk (blk_below (bU BK159.out) hb); replace HB := Aside0.mk (below_step (by repeat (first | exact beU HB.out | refine below_set ?_ (Aside0.out ‹_›) | apply below_alloc | apply pw_below_drewN | apply below_drew1)) hb); (try clear hb); (try clear hb2); (try clear hk); (try clear hi); have hnb39 := NB157_159.out; have hnc39 := NB159_157.out; have hcz40_0 : w38.cell? ⟨gb157, 0, none⟩ = some (.slice A0_0 l0_0.length c0_0) := (blk_cell BK157.out 0).trans rfl; have hcz40_1 : w38.cell? ⟨gb157, 1, none⟩ = some (.slice A0_1 l0_1.length c0_1) := (blk_cell BK157.out 1).trans rfl; have hfz40_0 := blk_frozen BK157.out 0; have hfz40_1 := blk_frozen BK157.out 1; have hcz41_0 : w38.cell? ⟨gb159, 0, none⟩ = some (.slice none 0 0) := (blk_cell BK159.out 0).trans rfl; have hcz41_1 : w38.cell? ⟨gb159, 1, none⟩ = some (.slice none 0 0) := (blk_cell BK159.out 1).trans rfl; have hfz41_0 := blk_frozen BK159.out 0; have hfz41_1 := blk_frozen BK159.out 1))
  refine bodyPost_ret (results_ct rfl _ _ gb159 25 #[.slice A0_0 l0_0.length c0_0, .slice A0_1 l0_1.length c0_1] (0, 0) _ rfl (by (with_reducible repeat (first | refine blk_drewN ?_ _ | refine blk_drew ?_ | refine blk_alloc ?_ _)); refine blk_put (cs := #[.slice A0_0 l0_0.length c0_0, .slice none 0 0]) ?_ 1 _ rfl; (with_reducible repeat (first | refine blk_drewN ?_ _ | refine blk_drew ?_ | refine blk_alloc ?_ _)); refine blk_put (cs := #[.slice none 0 0, .slice none 0 0]) ?_ 0 _ rfl; (with_reducible repeat (first | refine blk_drewN ?_ _ | refine blk_drew ?_ | refine blk_alloc ?_ _)); exact BK159.out) Try.underlying25 rfl (by kernel_rfl)) rfl ?_
  exact ⟨_, _, by first | rfl | (simp [errW_none, errW_some] <;> rfl) | (simp [*, errW_none, errW_some] <;> rfl), by (with_reducible repeat (first | apply Kd.V_alloc | apply Kd.V_drewN | apply Kd.V_drew)); exact Kd.V_mono (Kd.V_far (p := ⟨gb159, 1, none⟩) (Kd.V_far (p := ⟨gb159, 0, none⟩) (Kd.V_mono HO0_0.out (fun k_ hk => (⟨hk, hk.2⟩ : _ ∧ k_ ≠ gb159))) (fun _ hk => hk.2) (.slice A0_0 l0_0.length c0_0)) (fun _ hk => hk.2) (.slice A0_1 l0_1.length c0_1)) (fun _ hk => hk.1.1.1.1), by (with_reducible repeat (first | apply Kd.V_alloc | apply Kd.V_drewN | apply Kd.V_drew)); exact Kd.V_mono (Kd.V_far (p := ⟨gb159, 1, none⟩) (Kd.V_far (p := ⟨gb159, 0, none⟩) (Kd.V_mono HO0_1.out (fun k_ hk => (⟨hk, hk.2⟩ : _ ∧ k_ ≠ gb159))) (fun _ hk => hk.2) (.slice A0_0 l0_0.length c0_0)) (fun _ hk => hk.2) (.slice A0_1 l0_1.length c0_1)) (fun _ hk => hk.1.1.1.1), by repeat (first | (with_reducible first | exact HB.out | apply below_alloc | apply pw_below_drewN | apply below_drew1 | refine below_set ?_ GE157.out | refine below_set ?_ GE158.out | refine below_set ?_ GE159.out) | exact HB.out)⟩
-- uses block_Read.calls pack_Take.calls root_Right.calls root_fits.calls
def rootN (l : List UInt8) (i : Nat) : Nat := Pl.val ((l.drop (4 * i)).take 4)
def rootC (l : List UInt8) : Nat → Array Value
 | 0 => #[.int .i64 0, .int .i64 0, .int .i64 0]
 | 1 => #[.int .i64 (rootN l 0), .int .i64 0, .int .i64 0]
 | 2 => #[.int .i64 (rootN l 0), .int .i64 (rootN l 1), .int .i64 0]
 | _ => #[.int .i64 (rootN l 0), .int .i64 (rootN l 1), .int .i64 (rootN l 2)]
theorem rootC_set (l : List UInt8) (i : Nat) (h : i < 3) : (rootC l i).setIfInBounds i (.int .i64 (rootN l i)) = rootC l (i + 1) := by
 match i, h with
 | 0, _ => rfl
 | 1, _ => rfl
 | 2, _ => rfl
theorem rootC_size (l : List UInt8) : ∀ i : Nat, (rootC l i).size = 3
 | 0 => rfl
 | 1 => rfl
 | 2 => rfl
 | _ + 3 => rfl
theorem rootN_lt (l : List UInt8) (i : Nat) : rootN l i < 4294967296 := by
 have h1 := Pl.val_lt ((l.drop (4 * i)).take 4)
 have h2 : (256 : Nat) ^ ((l.drop (4 * i)).take 4).length ≤ 256 ^ 4 := Nat.pow_le_pow_right (by decide) (by rw [List.length_take]; omega)
 unfold rootN
 omega
def rootB (l : List UInt8) (a : Int) : Bool := decide (l.length = 12) && (decide (rootN l 0 ≤ 2147483647) && decide (rootN l 1 ≤ 2147483647) && decide (rootN l 2 ≤ 2147483647)) && decide (((rootN l 0 % 2 : Nat) : Int) = a)
def rootR (s : ByteArray) (e a : Int) : Int × Int × Int × Bool :=
 if e = 0 ∧ 0 ≤ a ∧ a < 2 ∧ rootB s.data.toList a = true then ((rootN s.data.toList 0 : Nat), (rootN s.data.toList 1 : Nat), (rootN s.data.toList 2 : Nat), true) else (0, 0, 0, false)
def root_Read.f (l0 : List ByteArray) (l1 : List S83) (a1 : Int) : Option (Int × Int × Int × Bool) := (block_Read.f 100 l0 l1 a1 1).bind fun r => if r.1.size ≤ 9000000000000 then some (rootR r.1 r.2 a1) else none
theorem rtake_ok (l : List UInt8) (hl : l.length ≤ 9000000000000) (i : Nat) (h : 4 * i + 4 ≤ l.length) : pack_Take.f 20 (Pl.B (l.drop (4 * i))) 4 = some (((rootN l i : Nat) : Int), Pl.B (l.drop (4 * (i + 1))), 0) := by
 rw [Pl.take_eq _ (by rw [List.length_drop]; omega) 4 20 (by omega)]
 unfold Pl.takeR
 rw [if_pos (by decide), if_neg (by rw [List.length_drop]; show ¬ l.length - 4 * i < 4; omega), List.drop_drop]
 rfl
theorem rtake_no (l : List UInt8) (hl : l.length ≤ 9000000000000) (i : Nat) (h : ¬ 4 * i + 4 ≤ l.length) : pack_Take.f 20 (Pl.B (l.drop (4 * i))) 4 = some (0, Pl.B [], 2) := by
 rw [Pl.take_eq _ (by rw [List.length_drop]; omega) 4 20 (by omega)]
 unfold Pl.takeR
 rw [if_pos (by decide), if_pos (by rw [List.length_drop]; show l.length - 4 * i < 4; omega)]
theorem rright_eq (a b c : Nat) : root_Right.f (a : Int) (b : Int) (c : Int) = some (decide (a ≤ 2147483647) && decide (b ≤ 2147483647) && decide (c ≤ 2147483647)) := by
 have hf : ∀ x : Nat, root_fits.f (x : Int) = some (decide (x ≤ 2147483647)) := fun x => by
  unfold root_fits.f
  rw [if_pos (by omega)]
  congr 1
  rw [decide_eq_decide]
  omega
 unfold root_Right.f
 rw [hf, hf, hf]
 by_cases h1 : a ≤ 2147483647 <;> by_cases h2 : b ≤ 2147483647 <;> simp [h1, h2]
def RootP (r : Int × Int × Int × Bool) (w : World) (e : Ending) (w' : World) : Prop := e = .returned (.tuple #[.agg #[.int .i64 r.1, .int .i64 r.2.1, .int .i64 r.2.2.1], .bool r.2.2.2]) ∧ Below w.heap.size w w'
structure RootE (w w8 : World) (g : Nat) (c : Array Value) : Prop where
 b4 : w8.heap[w.heap.size + 1]? = some (.cells #[.int .i64 0, .int .i64 0, .int .i64 0] 27 (0, 0))
 br : w8.heap[g]? = some (.cells c 27 (0, 0))
 hb : Below w.heap.size w w8
structure RootW (w wr : World) (g : Nat) (c : Array Value) : Prop where
 b4 : wr.heap[w.heap.size + 1]? = some (.cells #[.int .i64 0, .int .i64 0, .int .i64 0] 27 (0, 0))
 b8 : wr.heap[g]? = some (.cells c 93 (0, 0))
 hg : w.heap.size + 2 ≤ g
 hb : Below w.heap.size w wr
theorem RootW.step {w wr w1 : World} {g : Nat} {c : Array Value} (h : RootW w wr g c) (hb : Below wr.heap.size wr w1) : RootW w w1 g c := ⟨blk_below h.b4 hb, blk_below h.b8 hb, h.hg, below_step h.hb hb⟩
theorem RootW.put {w wr : World} {g i : Nat} {l : List UInt8} (h : RootW w wr g (rootC l i)) (hi : i < 3) : RootW w (wr.setCell ⟨g, i, none⟩ (.int .i64 (rootN l i))) g (rootC l (i + 1)) :=
 ⟨blk_far h.b4 (by have := h.hg; simp only; omega) _, by rw [← rootC_set l i hi]; exact blk_put h.b8 i _ rfl, h.hg, Below.setCell h.hb (by have := h.hg; simp only; omega) _⟩
theorem RootW.b4A {w wr : World} {g : Nat} {c : Array Value} (h : RootW w wr g c) {w8 : World} (cs : Array Value) (hb : Below (wr.alloc (.cells cs 27)).heap.size (wr.alloc (.cells cs 27)) w8) : RootE w w8 wr.heap.size cs :=
 ⟨blk_below (blk_alloc h.b4 _) hb, blk_below (heap_alloc_new _ _) hb, below_step (below_alloc h.hb _) hb⟩
set_option maxHeartbeats 8000000 in
set_option maxRecDepth 100000 in
theorem root_Read.walk (A0 : Option Addr) (c0 : Nat) (l0 : List ByteArray) (A1 : Option Addr) (c1 : Nat) (l1 : List S83) (a1 : Int) (s : ByteArray) (e1 : Int) (w : World) (hr0 : Kd.C Kd.string w A0 l0.length l0) (hc0 : l0.length ≤ c0) (hr1 : Kd.C k83 w A1 l1.length l1) (hc1 : l1.length ≤ c1)
  (h : block_Read.f 100 l0 l1 a1 1 = some (s, e1)) (hs : s.size ≤ 9000000000000) :
  Calls Try.prog 19 #[.agg #[.slice A0 l0.length c0, .slice A1 l1.length c1], .int .i64 a1] w (RootP (rootR s e1 a1) w) := by
 have HR0 := Aside0.mk hr0
 have HC0 := Aside0.mk hc0
 have HR1 := Aside0.mk hr1
 have HC1 := Aside0.mk hc1
 have H := Aside0.mk h
 have HS := Aside0.mk hs
 clear hr0 hc0 hr1 hc1 h hs
 have HW0 : Aside0 (∀ w6, Below ((w.alloc (.cells #[.slice A0 l0.length c0, .slice A1 l1.length c1] 25)).alloc (.cells #[.int .i64 0, .int .i64 0, .int .i64 0] 27)).heap.size ((w.alloc (.cells #[.slice A0 l0.length c0, .slice A1 l1.length c1] 25)).alloc (.cells #[.int .i64 0, .int .i64 0, .int .i64 0] 27)) w6 →
   w6.heap[w.heap.size + 1]? = some (.cells #[.int .i64 0, .int .i64 0, .int .i64 0] 27 (0, 0)) ∧ w.heap.size + 2 ≤ w6.heap.size ∧ Below w.heap.size w w6) := ⟨fun w6 hb => by
  have h1 : ((w.alloc (.cells #[.slice A0 l0.length c0, .slice A1 l1.length c1] 25)).alloc (.cells #[.int .i64 0, .int .i64 0, .int .i64 0] 27)).heap[w.heap.size + 1]? = some (.cells #[.int .i64 0, .int .i64 0, .int .i64 0] 27 (0, 0)) := by simpa using heap_alloc_new (w.alloc (.cells #[.slice A0 l0.length c0, .slice A1 l1.length c1] 25)) _
  refine ⟨blk_below h1 hb, ?_, below_step (below_alloc (below_alloc (Below.refl _ _) _) _) hb⟩
  have := hb.size
  simpa using this⟩
 by_cases ce : e1 = 0 ∧ 0 ≤ a1 ∧ a1 < 2
 ·obtain ⟨rfl, ha0, ha1⟩ := ce
  have q1 : decide (a1 < 0) = false := decide_eq_false (by omega)
  have q2 : decide (2 ≤ a1) = false := decide_eq_false (by omega)
  have HN : Aside0 (s.data.toList.length = s.size) := ⟨data_length s⟩
  have HX0 : Aside0 (s = Pl.B (s.data.toList.drop (4 * 0))) := ⟨by rw [Nat.mul_zero, List.drop_zero]; exact Pl.B_of s⟩
  have HL : Aside0 (s.data.toList.length ≤ 9000000000000) := ⟨by rw [HN.out]; exact HS.out⟩
  go_enter Try.func19, Try.ntmps19
  go_wp2_with (go_at_call 45; (with_reducible refine (block_Read.calls 100 _ c0 l0 _ c1 l1 a1 1 s _ _ ?s1 HC0.out ?s2 HC1.out H.out).mono ?_); (case s1 => exact Kd.C_alloc (Kd.C_alloc HR0.out _) _); (case s2 => exact Kd.C_alloc (Kd.C_alloc HR1.out _) _); rintro e w6 ⟨rfl, hb⟩; have HB6 := Aside0.mk (HW0.out w6 hb); (have xc0 : w6.cell? ⟨w.heap.size + 1, 0, none⟩ = some (.int .i64 0) := (blk_cell HB6.out.1 0).trans rfl); have xf0 := blk_frozen HB6.out.1 0; (have xc1 : w6.cell? ⟨w.heap.size + 1, 1, none⟩ = some (.int .i64 0) := (blk_cell HB6.out.1 1).trans rfl); have xf1 := blk_frozen HB6.out.1 1; (have xc2 : w6.cell? ⟨w.heap.size + 1, 2, none⟩ = some (.int .i64 0) := (blk_cell HB6.out.1 2).trans rfl); have xf2 := blk_frozen HB6.out.1 2; clear hb)
  have HM : Aside0 (RootW w (w6.alloc (.cells #[.int .i64 0, .int .i64 0, .int .i64 0] 93)) w6.heap.size (rootC s.data.toList 0)) :=
   ⟨⟨blk_alloc HB6.out.1 _, heap_alloc_new _ _, HB6.out.2.1, below_alloc HB6.out.2.2 _⟩⟩
  clear xc0 xc1 xc2 xf0 xf1 xf2 HB6 HW0 HR0 HR1 HC0 HC1 H HS
  generalize (w6.alloc (.cells #[.int .i64 0, .int .i64 0, .int .i64 0] 93)) = wa at *
  generalize w6.heap.size = g at *
  generalize hrr : rootR s 0 a1 = r at *
  have HRR : Aside0 (r = if rootB s.data.toList a1 = true then (((rootN s.data.toList 0 : Nat) : Int), ((rootN s.data.toList 1 : Nat) : Int), ((rootN s.data.toList 2 : Nat) : Int), true) else (0, 0, 0, false)) := ⟨by rw [← hrr, rootR]; simp [ha0, ha1]⟩
  clear hrr
  have HX := HX0
  clear HX0
  generalize s.data.toList = l at *
  go_loopg [6, 31] 3 (fun gg v6 v31 wr => ∃ (x : ByteArray) (i : Nat), v6 = .string x ∧ v31 = .int .i64 i ∧ Aside0 (x = Pl.B (l.drop (4 * i))) ∧ Aside0 (i ≤ 3 ∧ 3 - i ≤ gg ∧ 4 * i ≤ l.length) ∧ Aside0 (RootW w wr g (rootC l i)))
  case atStart => exact ⟨s, 0, rfl, rfl, HX, ⟨by omega, by omega, by omega⟩, HM⟩
  case round =>
   clear HX HM
   obtain ⟨x, i, rfl, rfl, HX, HI, HM⟩ := hrel
   by_cases c : i < 3
   ·have c1 : decide ((i : Int) < 3) = true := decide_eq_true (by omega)
    have c2 : decide (i < 3) = true := decide_eq_true c
    have c3 : (i : Int) < 3 := by omega
    have HI3 := Aside0.mk c
    by_cases d : 4 * i + 4 ≤ l.length
    ·have HT : Aside0 (pack_Take.f 20 x 4 = some (((rootN l i : Nat) : Int), Pl.B (l.drop (4 * (i + 1))), 0)) := ⟨by rw [HX.out]; exact rtake_ok l HL.out i d⟩
     have hn1 : (0 : Int) ≤ ((rootN l i : Nat) : Int) := by omega
     have hn2 : ((rootN l i : Nat) : Int) < 4294967296 := by have := rootN_lt l i; omega
     have HI2 : Aside0 (3 - (i + 1) < gk ∧ i + 1 ≤ 3 ∧ 4 * (i + 1) ≤ l.length) := ⟨by have := HI.out; omega⟩
     clear c d
     go_wp2_with (go_at_call 46; (with_reducible refine (pack_Take.calls 20 _ 4 _ _ _ _ HT.out).mono ?_); rintro e w7 ⟨rfl, hd⟩; have HMn := Aside0.mk (HM.out.step hd.below); clear HM; have HM := HMn; clear HMn hd; (have xc0 : w7.cell? ⟨w.heap.size + 1, 0, none⟩ = some (.int .i64 0) := (blk_cell HM.out.b4 0).trans rfl); have xf0 := blk_frozen HM.out.b4 0; (have xc1 : w7.cell? ⟨w.heap.size + 1, 1, none⟩ = some (.int .i64 0) := (blk_cell HM.out.b4 1).trans rfl); have xf1 := blk_frozen HM.out.b4 1; (have xc2 : w7.cell? ⟨w.heap.size + 1, 2, none⟩ = some (.int .i64 0) := (blk_cell HM.out.b4 2).trans rfl); have xf2 := blk_frozen HM.out.b4 2; have xg := blk_frozen HM.out.b8 i; have xh := (blk_cell HM.out.b8 i).trans (Array.getElem?_eq_getElem (by rw [rootC_size]; exact HI3.out)))
     have HP := Aside0.mk (HM.out.put HI3.out)
     go_roundg (3 - (i + 1))
     case measure => exact HI2.out.1
     case rel => exact ⟨_, i + 1, rfl, by go_num, ⟨rfl⟩, ⟨HI2.out.2.1, Nat.le_refl _, HI2.out.2.2⟩, HP⟩
    ·have HT : Aside0 (pack_Take.f 20 x 4 = some (0, Pl.B [], 2)) := ⟨by rw [HX.out]; exact rtake_no l HL.out i d⟩
     have hr0 : r = (0, 0, 0, false) := by
      rw [HRR.out, if_neg]
      intro h
      simp only [rootB, Bool.and_eq_true, decide_eq_true_eq] at h
      omega
     subst hr0
     clear HRR c d
     go_wp2_with (go_at_call 46; (with_reducible refine (pack_Take.calls 20 _ 4 _ _ _ _ HT.out).mono ?_); rintro e w7 ⟨rfl, hd⟩; have HMn := Aside0.mk (HM.out.step hd.below); clear HM; have HM := HMn; clear HMn hd; (have xc0 : w7.cell? ⟨w.heap.size + 1, 0, none⟩ = some (.int .i64 0) := (blk_cell HM.out.b4 0).trans rfl); have xf0 := blk_frozen HM.out.b4 0; (have xc1 : w7.cell? ⟨w.heap.size + 1, 1, none⟩ = some (.int .i64 0) := (blk_cell HM.out.b4 1).trans rfl); have xf1 := blk_frozen HM.out.b4 1; (have xc2 : w7.cell? ⟨w.heap.size + 1, 2, none⟩ = some (.int .i64 0) := (blk_cell HM.out.b4 2).trans rfl); have xf2 := blk_frozen HM.out.b4 2)
     refine bodyPost_ret (results_ct rfl _ _ (w.heap.size + 1) 27 #[.int .i64 (0), .int .i64 (0), .int .i64 (0)] (0, 0) _ rfl (blk_put (blk_put (blk_put HM.out.b4 0 _ rfl) 1 _ rfl) 2 _ rfl) Try.underlying27 rfl (by kernel_rfl)) rfl ⟨rfl, Below.setCell (Below.setCell (Below.setCell (HM.out.hb) (by simp only; omega) _) (by simp only; omega) _) (by simp only; omega) _⟩
   ·have h3 : i = 3 := by have := HI.out; omega
    subst h3
    clear c
    have HM3 : Aside0 (RootW w wr g #[.int .i64 (rootN l 0), .int .i64 (rootN l 1), .int .i64 (rootN l 2)]) := HM
    have HXZ : Aside0 (x = Pl.B (l.drop 12)) := HX
    clear HX HM
    have z0 : wr.cell? ⟨g, 0, none⟩ = some (.int .i64 (rootN l 0)) := (blk_cell HM3.out.b8 0).trans rfl
    have z1 : wr.cell? ⟨g, 1, none⟩ = some (.int .i64 (rootN l 1)) := (blk_cell HM3.out.b8 1).trans rfl
    have z2 : wr.cell? ⟨g, 2, none⟩ = some (.int .i64 (rootN l 2)) := (blk_cell HM3.out.b8 2).trans rfl
    (have xc0 : wr.cell? ⟨w.heap.size + 1, 0, none⟩ = some (.int .i64 0) := (blk_cell HM3.out.b4 0).trans rfl)
    have xf0 := blk_frozen HM3.out.b4 0
    (have xc1 : wr.cell? ⟨w.heap.size + 1, 1, none⟩ = some (.int .i64 0) := (blk_cell HM3.out.b4 1).trans rfl)
    have xf1 := blk_frozen HM3.out.b4 1
    (have xc2 : wr.cell? ⟨w.heap.size + 1, 2, none⟩ = some (.int .i64 0) := (blk_cell HM3.out.b4 2).trans rfl)
    have xf2 := blk_frozen HM3.out.b4 2
    have hn0 : (0 : Int) ≤ ((rootN l 0 : Nat) : Int) := by omega
    have HRI : Aside0 (root_Right.f ((rootN l 0 : Nat) : Int) ((rootN l 1 : Nat) : Int) ((rootN l 2 : Nat) : Int) = some (decide (rootN l 0 ≤ 2147483647) && decide (rootN l 1 ≤ 2147483647) && decide (rootN l 2 ≤ 2147483647))) := ⟨rright_eq _ _ _⟩
    by_cases c12 : l.length = 12
    ·have hx : x = ⟨#[]⟩ := by rw [HXZ.out, List.drop_of_length_le (by omega)]; rfl
     subst hx
     cases hb : (decide (rootN l 0 ≤ 2147483647) && decide (rootN l 1 ≤ 2147483647) && decide (rootN l 2 ≤ 2147483647)) with
     | false =>
      have hr0 : r = (0, 0, 0, false) := by rw [HRR.out, if_neg]; rw [rootB, hb]; simp
      subst hr0
      rw [hb] at HRI
      clear HRR c12 hb
      go_wp2_with (go_at_call 23; (with_reducible refine (root_Right.calls _ _ _ _ _ HRI.out).mono ?_); rintro e w8 ⟨rfl, hb⟩; have HE := Aside0.mk (RootW.b4A HM3.out #[.int .i64 (rootN l 0), .int .i64 (rootN l 1), .int .i64 (rootN l 2)] hb); (have xc0 : w8.cell? ⟨w.heap.size + 1, 0, none⟩ = some (.int .i64 0) := (blk_cell HE.out.b4 0).trans rfl); have xf0 := blk_frozen HE.out.b4 0; (have xc1 : w8.cell? ⟨w.heap.size + 1, 1, none⟩ = some (.int .i64 0) := (blk_cell HE.out.b4 1).trans rfl); have xf1 := blk_frozen HE.out.b4 1; (have xc2 : w8.cell? ⟨w.heap.size + 1, 2, none⟩ = some (.int .i64 0) := (blk_cell HE.out.b4 2).trans rfl); have xf2 := blk_frozen HE.out.b4 2; (have xr0 : w8.cell? ⟨wr.heap.size, 0, none⟩ = some (.int .i64 (rootN l 0)) := (blk_cell HE.out.br 0).trans rfl); (have xr1 : w8.cell? ⟨wr.heap.size, 1, none⟩ = some (.int .i64 (rootN l 1)) := (blk_cell HE.out.br 1).trans rfl); (have xr2 : w8.cell? ⟨wr.heap.size, 2, none⟩ = some (.int .i64 (rootN l 2)) := (blk_cell HE.out.br 2).trans rfl); clear hb)
      refine bodyPost_ret (results_ct rfl _ _ (w.heap.size + 1) 27 #[.int .i64 (0), .int .i64 (0), .int .i64 (0)] (0, 0) _ rfl (blk_put (blk_put (blk_put HE.out.b4 0 _ rfl) 1 _ rfl) 2 _ rfl) Try.underlying27 rfl (by kernel_rfl)) rfl ⟨rfl, Below.setCell (Below.setCell (Below.setCell (HE.out.hb) (by simp only; omega) _) (by simp only; omega) _) (by simp only; omega) _⟩
     | true =>
      rw [hb] at HRI
      by_cases hm : ((rootN l 0 : Nat) : Int) % 2 = a1
      ·have hr0 : r = (((rootN l 0 : Nat) : Int), ((rootN l 1 : Nat) : Int), ((rootN l 2 : Nat) : Int), true) := by rw [HRR.out, if_pos]; rw [rootB, hb, decide_eq_true c12, decide_eq_true (by omega)]; rfl
       have hm1 : ((((rootN l 0 : Nat) : Int) % 2) == a1) = true := beq_iff_eq.2 hm
       have hm2 : ((((rootN l 0 : Nat) : Int) % 2) != a1) = false := by rw [bne, hm1]; rfl
       subst hr0
       clear HRR c12 hb hm
       go_wp2_with (go_at_call 23; (with_reducible refine (root_Right.calls _ _ _ _ _ HRI.out).mono ?_); rintro e w8 ⟨rfl, hb⟩; have HE := Aside0.mk (RootW.b4A HM3.out #[.int .i64 (rootN l 0), .int .i64 (rootN l 1), .int .i64 (rootN l 2)] hb); (have xc0 : w8.cell? ⟨w.heap.size + 1, 0, none⟩ = some (.int .i64 0) := (blk_cell HE.out.b4 0).trans rfl); have xf0 := blk_frozen HE.out.b4 0; (have xc1 : w8.cell? ⟨w.heap.size + 1, 1, none⟩ = some (.int .i64 0) := (blk_cell HE.out.b4 1).trans rfl); have xf1 := blk_frozen HE.out.b4 1; (have xc2 : w8.cell? ⟨w.heap.size + 1, 2, none⟩ = some (.int .i64 0) := (blk_cell HE.out.b4 2).trans rfl); have xf2 := blk_frozen HE.out.b4 2; (have xr0 : w8.cell? ⟨wr.heap.size, 0, none⟩ = some (.int .i64 (rootN l 0)) := (blk_cell HE.out.br 0).trans rfl); (have xr1 : w8.cell? ⟨wr.heap.size, 1, none⟩ = some (.int .i64 (rootN l 1)) := (blk_cell HE.out.br 1).trans rfl); (have xr2 : w8.cell? ⟨wr.heap.size, 2, none⟩ = some (.int .i64 (rootN l 2)) := (blk_cell HE.out.br 2).trans rfl); clear hb)
       refine bodyPost_ret (results_ct rfl _ _ (w.heap.size + 1) 27 #[.int .i64 (rootN l 0), .int .i64 (rootN l 1), .int .i64 (rootN l 2)] (0, 0) _ rfl (blk_put (blk_put (blk_put HE.out.b4 0 _ rfl) 1 _ rfl) 2 _ rfl) Try.underlying27 rfl (by kernel_rfl)) rfl ⟨rfl, Below.setCell (Below.setCell (Below.setCell (HE.out.hb) (by simp only; omega) _) (by simp only; omega) _) (by simp only; omega) _⟩
      ·have hr0 : r = (0, 0, 0, false) := by rw [HRR.out, if_neg]; rw [rootB, decide_eq_false (p := ((rootN l 0 % 2 : Nat) : Int) = a1) (by omega)]; simp
       have hm1 : ((((rootN l 0 : Nat) : Int) % 2) == a1) = false := beq_eq_false_iff_ne.2 hm
       have hm2 : ((((rootN l 0 : Nat) : Int) % 2) != a1) = true := by rw [bne, hm1]; rfl
       subst hr0
       clear HRR c12 hb hm
       go_wp2_with (go_at_call 23; (with_reducible refine (root_Right.calls _ _ _ _ _ HRI.out).mono ?_); rintro e w8 ⟨rfl, hb⟩; have HE := Aside0.mk (RootW.b4A HM3.out #[.int .i64 (rootN l 0), .int .i64 (rootN l 1), .int .i64 (rootN l 2)] hb); (have xc0 : w8.cell? ⟨w.heap.size + 1, 0, none⟩ = some (.int .i64 0) := (blk_cell HE.out.b4 0).trans rfl); have xf0 := blk_frozen HE.out.b4 0; (have xc1 : w8.cell? ⟨w.heap.size + 1, 1, none⟩ = some (.int .i64 0) := (blk_cell HE.out.b4 1).trans rfl); have xf1 := blk_frozen HE.out.b4 1; (have xc2 : w8.cell? ⟨w.heap.size + 1, 2, none⟩ = some (.int .i64 0) := (blk_cell HE.out.b4 2).trans rfl); have xf2 := blk_frozen HE.out.b4 2; (have xr0 : w8.cell? ⟨wr.heap.size, 0, none⟩ = some (.int .i64 (rootN l 0)) := (blk_cell HE.out.br 0).trans rfl); (have xr1 : w8.cell? ⟨wr.heap.size, 1, none⟩ = some (.int .i64 (rootN l 1)) := (blk_cell HE.out.br 1).trans rfl); (have xr2 : w8.cell? ⟨wr.heap.size, 2, none⟩ = some (.int .i64 (rootN l 2)) := (blk_cell HE.out.br 2).trans rfl); clear hb)
       refine bodyPost_ret (results_ct rfl _ _ (w.heap.size + 1) 27 #[.int .i64 (0), .int .i64 (0), .int .i64 (0)] (0, 0) _ rfl (blk_put (blk_put (blk_put HE.out.b4 0 _ rfl) 1 _ rfl) 2 _ rfl) Try.underlying27 rfl (by kernel_rfl)) rfl ⟨rfl, Below.setCell (Below.setCell (Below.setCell (HE.out.hb) (by simp only; omega) _) (by simp only; omega) _) (by simp only; omega) _⟩
    ·have hr0 : r = (0, 0, 0, false) := by rw [HRR.out, if_neg]; rw [rootB, decide_eq_false c12]; simp
     have hx1 : (x.toList == []) = false := by
      rw [HXZ.out, Pl.B_toList, beq_eq_false_iff_ne]
      intro e
      have := congrArg List.length e
      rw [List.length_drop, List.length_nil] at this
      have := HI.out
      omega
     have hx2 : x.toList.isEmpty = false := by cases hx : x.toList with | nil => rw [hx] at hx1; exact absurd hx1 (by decide) | cons a l => rfl
     have hx3 : (!x.toList.isEmpty) = true := by rw [hx2]; rfl
     have hx4 : ¬ x.toList = [] := by rw [← List.isEmpty_iff, hx2]; decide
     have HM4 := Aside0.mk (blk_alloc HM3.out.b4 (.cells #[.int .i64 (rootN l 0), .int .i64 (rootN l 1), .int .i64 (rootN l 2)] 27))
     have HM5 := Aside0.mk (below_alloc HM3.out.hb (.cells #[.int .i64 (rootN l 0), .int .i64 (rootN l 1), .int .i64 (rootN l 2)] 27))
     (have yc0 : (wr.alloc (.cells #[.int .i64 (rootN l 0), .int .i64 (rootN l 1), .int .i64 (rootN l 2)] 27)).cell? ⟨w.heap.size + 1, 0, none⟩ = some (.int .i64 0) := (blk_cell HM4.out 0).trans rfl)
     have yf0 := blk_frozen HM4.out 0
     (have yc1 : (wr.alloc (.cells #[.int .i64 (rootN l 0), .int .i64 (rootN l 1), .int .i64 (rootN l 2)] 27)).cell? ⟨w.heap.size + 1, 1, none⟩ = some (.int .i64 0) := (blk_cell HM4.out 1).trans rfl)
     have yf1 := blk_frozen HM4.out 1
     (have yc2 : (wr.alloc (.cells #[.int .i64 (rootN l 0), .int .i64 (rootN l 1), .int .i64 (rootN l 2)] 27)).cell? ⟨w.heap.size + 1, 2, none⟩ = some (.int .i64 0) := (blk_cell HM4.out 2).trans rfl)
     have yf2 := blk_frozen HM4.out 2
     subst hr0
     clear HRR c12
     go_wp2_with fail
     refine bodyPost_ret (results_ct rfl _ _ (w.heap.size + 1) 27 #[.int .i64 (0), .int .i64 (0), .int .i64 (0)] (0, 0) _ rfl (blk_put (blk_put (blk_put HM4.out 0 _ rfl) 1 _ rfl) 2 _ rfl) Try.underlying27 rfl (by kernel_rfl)) rfl ⟨rfl, Below.setCell (Below.setCell (Below.setCell (HM5.out) (by simp only; omega) _) (by simp only; omega) _) (by simp only; omega) _⟩
 ·have hr : rootR s e1 a1 = (0, 0, 0, false) := if_neg (fun h => ce ⟨h.1, h.2.1, h.2.2.1⟩)
  rw [hr]
  clear hr
  have q1 : (decide (e1 = 0) = false ∨ decide (a1 < 0) = true ∨ decide (2 ≤ a1) = true) := by
   simp only [decide_eq_true_eq, decide_eq_false_iff_not]
   omega
  have HQ := Aside0.mk q1
  clear ce q1
  go_enter Try.func19, Try.ntmps19
  go_wp2_with (go_at_call 45; (with_reducible refine (block_Read.calls 100 _ c0 l0 _ c1 l1 a1 1 s _ _ ?s1 HC0.out ?s2 HC1.out H.out).mono ?_); (case s1 => exact Kd.C_alloc (Kd.C_alloc HR0.out _) _); (case s2 => exact Kd.C_alloc (Kd.C_alloc HR1.out _) _); rintro e w6 ⟨rfl, hb⟩; have HB6 := Aside0.mk (HW0.out w6 hb); (have xc0 : w6.cell? ⟨w.heap.size + 1, 0, none⟩ = some (.int .i64 0) := (blk_cell HB6.out.1 0).trans rfl); have xf0 := blk_frozen HB6.out.1 0; (have xc1 : w6.cell? ⟨w.heap.size + 1, 1, none⟩ = some (.int .i64 0) := (blk_cell HB6.out.1 1).trans rfl); have xf1 := blk_frozen HB6.out.1 1; (have xc2 : w6.cell? ⟨w.heap.size + 1, 2, none⟩ = some (.int .i64 0) := (blk_cell HB6.out.1 2).trans rfl); have xf2 := blk_frozen HB6.out.1 2; clear hb)
  all_goals first
   | (exfalso; have hq := HQ.out; simp only [decide_eq_true_eq, decide_eq_false_iff_not] at hq; omega)
   | (refine bodyPost_ret (results_ct rfl _ _ (w.heap.size + 1) 27 #[.int .i64 0, .int .i64 0, .int .i64 0] (0, 0) _ rfl (blk_put (blk_put (blk_put HB6.out.1 0 _ rfl) 1 _ rfl) 2 _ rfl) Try.underlying27 rfl (by kernel_rfl)) rfl ⟨rfl, Below.setCell (Below.setCell (Below.setCell (HB6.out.2.2) (by simp only; omega) _) (by simp only; omega) _) (by simp only; omega) _⟩)
theorem root_Read.calls (A0 : Option Addr) (c0 : Nat) (l0 : List ByteArray) (A1 : Option Addr) (c1 : Nat) (l1 : List S83) (a1 : Int) (r1 r2 r3 : Int) (r4 : Bool) (w : World) (hr0 : Kd.C Kd.string w A0 l0.length l0) (hc0 : l0.length ≤ c0) (hr1 : Kd.C k83 w A1 l1.length l1) (hc1 : l1.length ≤ c1)
  (h : root_Read.f l0 l1 a1 = some (r1, r2, r3, r4)) :
  Calls Try.prog 19 #[.agg #[.slice A0 l0.length c0, .slice A1 l1.length c1], .int .i64 a1] w fun e w' => e = .returned (.tuple #[.agg #[.int .i64 r1, .int .i64 r2, .int .i64 r3], .bool r4]) ∧ Below w.heap.size w w' := by
 unfold root_Read.f at h
 cases hb : block_Read.f 100 l0 l1 a1 1 with
 | none => rw [hb] at h; exact absurd h (by simp)
 | some r =>
  obtain ⟨s, e⟩ := r
  rw [hb, Option.bind_some] at h
  by_cases c : s.size ≤ 9000000000000
  ·rw [if_pos c] at h
   have := root_Read.walk A0 c0 l0 A1 c1 l1 a1 s e w hr0 hc0 hr1 hc1 hb c
   rw [Option.some.inj h] at this
   exact this
  ·rw [if_neg c] at h
   exact absurd h (by simp)
end Go.Proofs.Ythcohkgpbjcliaa.F
