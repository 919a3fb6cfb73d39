/- Contracts of Go functions of the seat Ythidkdlmpkeogaa: what a call comes to; no condition but those that each theorem names. -/
import Derived.Test.YthidkdlmpkeogaaFPre
import Derived.Test.YthidkdlmpkeogaaFShelf
import Derived.Test.YthidkdlmpkeogaaFLem
import Derived.Test.YthidkdlmpkeogaaFdiskA
import Derived.Test.YthidkdlmpkeogaaFgClone
import Derived.Test.YthidkdlmpkeogaaFgslicesContainsFuncstringstring
namespace Go.Proofs.Ythidkdlmpkeogaa.F
open Go.RowKit Go.Proofs.YthidkdlmpkeogaaW.PrintWords Go.Proofs.YthidkdlmpkeogaaW.PrintLast Go.Proofs.YthidkdlmpkeogaaW.PrintMore
attribute [local go_sem] max2_int min2_int max_two min_two max_three min_three max_four min_four   -- for this text's walks alone
set_option linter.unusedVariables false
set_option linter.unusedSimpArgs false

/-! ### disk_Right: function 45 -/

def wBad (n : Nat) (x : S104) : Bool := x.f1.size != 32 || !(decide (0 ≤ x.f0) && decide (x.f0 < (n : Int)))
def disk_Right.f (l0 : List ByteArray) (l1 : List S104) : Option Bool :=
  some (decide (1 ≤ l0.length) && decide (l0.length ≤ 512) && !(l0.any fun s => s.size != 32) && !(l1.any (wBad l0.length)))
theorem there_one (l0 : List ByteArray) (l1 : List S104) (a : Int) (hl : l0.length ≤ 9223372036854775807) : disk_there.f l0 l1 a 1 = some (decide (0 ≤ a) && decide (a < (l0.length : Int))) := by
  unfold disk_there.f
  rw [if_pos (by decide)]
  by_cases h1 : (1 : Int) ≤ l0.length
  · rw [if_pos h1, show wrap64 ((l0.length : Int) - 1) = (l0.length : Int) - 1 by unfold wrap64; omega]
    by_cases h2 : a ≥ 0
    · rw [if_pos h2, decide_eq_true (show 0 ≤ a from h2), Bool.true_and]
      congr 1
      rw [decide_eq_decide]
      omega
    · rw [if_neg h2, decide_eq_false (show ¬ 0 ≤ a from h2), Bool.false_and]
  · rw [if_neg h1]
    by_cases h2 : 0 ≤ a
    · rw [decide_eq_false (show ¬ a < (l0.length : Int) by omega), Bool.and_false]
    · rw [decide_eq_false h2, Bool.false_and]
theorem short_is (s : ByteArray) (b : Bool) (h : (s.size != 32) = b) : disk_short.f s = some b := by
  unfold disk_short.f
  congr 1
  rw [← h, Bool.eq_iff_iff]
  simp only [bne_iff_ne, ne_eq]
  omega
set_option maxHeartbeats 2000000 in
theorem disk_Right_1.calls (x : S104) (gb : Nat) (A0 : Option Addr) (c0 : Nat) (l0 : List ByteArray) (A1 : Option Addr) (c1 : Nat) (l1 : List S104) (w : World)
    (hr0 : Kd.C Kd.string w A0 l0.length l0) (hc0 : l0.length ≤ c0) (hr1 : Kd.C k104 w A1 l1.length l1) (hc1 : l1.length ≤ c1)
    (h0 : w.cell? ⟨gb, 0, none⟩ = some (.slice A0 l0.length c0)) (h1 : w.cell? ⟨gb, 1, none⟩ = some (.slice A1 l1.length c1)) :
    Calls Try.prog 90 #[.agg #[.int .i64 x.f0, .string x.f1], .pointer (some ⟨gb, 0, none⟩)] w fun e w' => e = .returned (.bool (wBad l0.length x)) ∧ Below w.heap.size w w' := by
  obtain ⟨x0, x1⟩ := x
  have HR0 := Aside0.mk hr0
  have HC0 := Aside0.mk hc0
  have HR1 := Aside0.mk hr1
  have HC1 := Aside0.mk hc1
  have g0 : ∀ o, (w.alloc o).cell? ⟨gb, 0, none⟩ = some (.slice A0 l0.length c0) := fun o => pw_cell_below (below_alloc (Below.refl _ _) o) h0
  have g1 : ∀ o, (w.alloc o).cell? ⟨gb, 1, none⟩ = some (.slice A1 l1.length c1) := fun o => pw_cell_below (below_alloc (Below.refl _ _) o) h1
  have HT := Aside0.mk (there_one l0 l1 x0 (Kd.C_max hr0))
  have HB0 := Aside0.mk (Below.refl w.heap.size w)
  clear hr0 hc0 hr1 hc1 h0 h1
  cases hb : (x1.size != 32) with
  | true =>
    have HS := Aside0.mk (short_is x1 true hb)
    have HW := Aside0.mk (show wBad l0.length ⟨x0, x1⟩ = true by simp only [wBad, hb, Bool.true_or])
    clear hb
    rw [HW.out]
    go_enter Try.func90, Try.ntmps90
    go_wp2_with (go_at_call 88; (with_reducible refine (disk_short.calls _ true _ HS.out).mono ?_); rintro e w5 ⟨rfl, ⟨nd, rfl⟩⟩)
    go_ret
    exact ⟨rfl, pw_below_drewN (below_alloc (Below.refl _ _) _) _⟩
  | false =>
    have HS := Aside0.mk (short_is x1 false hb)
    have HW := Aside0.mk (show wBad l0.length ⟨x0, x1⟩ = !(decide (0 ≤ x0) && decide (x0 < (l0.length : Int))) by simp only [wBad, hb, Bool.false_or])
    clear hb
    rw [HW.out]
    generalize (decide (0 ≤ x0) && decide (x0 < (l0.length : Int))) = b at HT ⊢
    clear HW
    go_enter Try.func90, Try.ntmps90
    go_wp2_with (first
      | (go_at_call 88; (with_reducible refine (disk_short.calls _ false _ HS.out).mono ?_); rintro e w5 ⟨rfl, ⟨nd, rfl⟩⟩)
      | (go_at_call 85; (with_reducible refine (disk_there.calls A0 c0 l0 A1 c1 l1 x0 1 b _ ?s1 HC0.out ?s2 HC1.out HT.out).mono ?_); (case s1 => exact Kd.C_drewN (Kd.C_alloc HR0.out _) _); (case s2 => exact Kd.C_drewN (Kd.C_alloc HR1.out _) _); rintro e w6 ⟨rfl, hb⟩))
    go_ret
    exact ⟨rfl, below_step (pw_below_drewN (below_alloc (Below.refl _ _) _) _) hb⟩
theorem write_IF_none (a : Option Addr) (c : Nat) (fv : Value) (w : World) :
    Calls Try.prog 110 #[.slice a 0 c, fv] w fun e w' => e = .returned (.int .i64 (-1)) ∧ w' = w := by
  go_enter Try.func110, Try.ntmps110
  go_wp2_with fail
  refine wp_loop_rounds 1 ?_
  rw [rounds_succ]
  go_wp2_with fail
  go_ret
  exact ⟨rfl, rfl⟩
theorem write_CF_none (a : Option Addr) (c : Nat) (fv : Value) (w : World) :
    Calls Try.prog 89 #[.slice a 0 c, fv] w fun e w' => e = .returned (.bool false) ∧ w' = w := by
  go_enter Try.func89, Try.ntmps89
  go_wp2_with (go_at_call 110; (with_reducible refine (write_IF_none _ _ _ _).mono ?_); rintro e w' ⟨rfl, rfl⟩)
  go_ret
  exact ⟨rfl, rfl⟩
theorem write_CW (gb : Nat) (A0 : Option Addr) (c0 : Nat) (l0 : List ByteArray) (A1 : Option Addr) (c1 : Nat) (l1 : List S104) (w : World)
    (hr0 : Kd.C Kd.string w A0 l0.length l0) (hc0 : l0.length ≤ c0) (hr1 : Kd.C k104 w A1 l1.length l1) (hc1 : l1.length ≤ c1)
    (h0 : w.cell? ⟨gb, 0, none⟩ = some (.slice A0 l0.length c0)) (h1 : w.cell? ⟨gb, 1, none⟩ = some (.slice A1 l1.length c1)) :
    Calls Try.prog 89 #[.slice A1 l1.length c1, .func (.func 90) #[] #[.pointer (some ⟨gb, 0, none⟩)]] w fun e w' => e = .returned (.bool (l1.any (wBad l0.length))) ∧ Below w.heap.size w w' := by
  haveI : Inhabited S104 := ⟨z104⟩
  by_cases hn : 0 < l1.length
  · obtain ⟨b, o, rfl, hb, hc⟩ := cells_row hr1 (by decide) hn
    have := AnyQ.slices_ContainsFunc laysCW 2 Try.isAgg104 Try.sizeOf104 (fun x : S104 => [.int .i64 x.f0, .string x.f1]) (fun _ => rfl) (wBad l0.length) 90 #[.pointer (some ⟨gb, 0, none⟩)] (fun args w => by kernel_rfl) b o l1.length c1 l1 w
      (fun W x hW => (disk_Right_1.calls x gb A0 c0 l0 _ c1 l1 W (ReadsRow.imp_ hr0 hW (fun _ _ hp => Kd.string.K_below hW hp)) hc0 (ReadsRow.imp_ hr1 hW (fun _ _ hp => k104.K_below hW hp)) hc1 ((hW.cell (World.block_lt_of_cell? _ _ h0)).trans h0) ((hW.cell (World.block_lt_of_cell? _ _ h1)).trans h1)).mono fun e w' ⟨he, hb⟩ => ⟨he, below_step hW hb⟩)
      (Nat.le_refl _) (Kd.C_max hr1) hb (fun j hj i v hv => by
        obtain ⟨c, c2, c3, c4⟩ := hc j l1[j]! (by rw [List.getElem?_eq_getElem hj]; congr 1; exact (getElem!_pos l1 j hj).symm)
        obtain rfl := k104_open c3
        have := c4 i v hv
        rw [← Nat.add_assoc] at this
        exact this)
    rw [List.take_length] at this
    exact this
  · obtain rfl : l1 = [] := List.length_eq_zero_iff.1 (by omega)
    exact (write_CF_none A1 c1 _ w).mono fun e w' ⟨he, hw⟩ => ⟨he, hw ▸ Below.refl _ _⟩
theorem contains_is (l : List ByteArray) (b : Bool) (h : (l.any fun s => s.size != 32) = b) : slices_ContainsFunc_string_string.f l = some b := congrArg some h
set_option maxHeartbeats 2000000 in
theorem disk_Right.calls (A0 : Option Addr) (c0 : Nat) (l0 : List ByteArray) (A1 : Option Addr) (c1 : Nat) (l1 : List S104) (r : Bool) (w : World)
    (hr0 : Kd.C Kd.string w A0 l0.length l0) (hc0 : l0.length ≤ c0) (hr1 : Kd.C k104 w A1 l1.length l1) (hc1 : l1.length ≤ c1) (h : disk_Right.f l0 l1 = some r) :
    Calls Try.prog 45 #[.agg #[.slice A0 l0.length c0, .slice A1 l1.length c1]] w fun e w' => e = .returned (.bool r) ∧ Below w.heap.size w w' := by
  obtain rfl := Option.some.inj h
  clear h
  have hn0 : l0.length ≤ 9223372036854775807 := Kd.C_max hr0
  have HR0 := Aside0.mk hr0
  have HC0 := Aside0.mk hc0
  have HR1 := Aside0.mk hr1
  have HC1 := Aside0.mk hc1
  clear hr0 hc0 hr1 hc1
  by_cases c1' : l0.length < 1
  · have e1 : decide (l0.length < 1) = true := decide_eq_true c1'
    have e2 : decide ((l0.length : Int) < 1) = true := decide_eq_true (by omega)
    have e3 : decide (1 ≤ l0.length) = false := decide_eq_false (by omega)
    rw [e3]
    simp only [Bool.false_and]
    clear e3
    go_enter Try.func45, Try.ntmps45
    go_wp2_with fail
    go_ret
    exact ⟨rfl, below_alloc (Below.refl _ _) _⟩
  · have e1 : decide (l0.length < 1) = false := decide_eq_false c1'
    have e2 : decide ((l0.length : Int) < 1) = false := decide_eq_false (by omega)
    have e3 : decide (1 ≤ l0.length) = true := decide_eq_true (by omega)
    rw [e3]
    simp only [Bool.true_and]
    clear e3
    by_cases c2' : 512 < l0.length
    · have d1 : decide (512 < l0.length) = true := decide_eq_true c2'
      have d2 : decide (512 < (l0.length : Int)) = true := decide_eq_true (by omega)
      have d3 : decide (l0.length ≤ 512) = false := decide_eq_false (by omega)
      rw [d3]
      simp only [Bool.false_and]
      clear d3
      go_enter Try.func45, Try.ntmps45
      go_wp2_with fail
      go_ret
      exact ⟨rfl, below_alloc (Below.refl _ _) _⟩
    · have d1 : decide (512 < l0.length) = false := decide_eq_false c2'
      have d2 : decide (512 < (l0.length : Int)) = false := decide_eq_false (by omega)
      have d3 : decide (l0.length ≤ 512) = true := decide_eq_true (by omega)
      rw [d3]
      simp only [Bool.true_and]
      clear d3
      cases hb : (l0.any fun s => s.size != 32) with
      | true =>
        have HA := Aside0.mk (contains_is l0 true hb)
        clear hb
        simp only [Bool.not_true, Bool.false_and]
        go_enter Try.func45, Try.ntmps45
        go_wp2_with (go_at_call 87; (with_reducible refine (slices_ContainsFunc_string_string.calls _ c0 l0 true _ ?s1 HC0.out HA.out).mono ?_); (case s1 => exact Kd.C_alloc HR0.out _); rintro e w5 ⟨rfl, ⟨nd, rfl⟩⟩)
        go_ret
        exact ⟨rfl, pw_below_drewN (below_alloc (Below.refl _ _) _) _⟩
      | false =>
        have HA := Aside0.mk (contains_is l0 false hb)
        clear hb
        simp only [Bool.not_false, Bool.true_and]
        have HW := Aside0.mk (fun (o : Nat) => write_CW w.heap.size A0 c0 l0 A1 c1 l1 ((w.alloc (.cells #[.slice A0 l0.length c0, .slice A1 l1.length c1] 86)).drewN o) (Kd.C_drewN (Kd.C_alloc HR0.out _) _) HC0.out (Kd.C_drewN (Kd.C_alloc HR1.out _) _) HC1.out (by simp) (by simp))
        generalize (l1.any (wBad l0.length)) = b at HW ⊢
        go_enter Try.func45, Try.ntmps45
        go_wp2_with (first
          | (go_at_call 87; (with_reducible refine (slices_ContainsFunc_string_string.calls _ c0 l0 false _ ?s1 HC0.out HA.out).mono ?_); (case s1 => exact Kd.C_alloc HR0.out _); rintro e w5 ⟨rfl, ⟨nd, rfl⟩⟩)
          | (go_at_call 89; (with_reducible refine (HW.out _).mono ?_); rintro e w6 ⟨rfl, hb⟩))
        go_ret
        exact ⟨rfl, below_step (pw_below_drewN (below_alloc (Below.refl _ _) _) _) hb⟩


/-! ### disk_own: function 91 -/
def disk_own.f (l0_0 : List ByteArray) (l0_1 : List (S104)) : Option (List ByteArray × (List (S104))) := (slices_Clone_string_string.f l0_0).bind fun t641 => ((slices_Clone_disk_Write_disk_Write.f l0_1).bind fun t644 => (some (t641, t644)))
def disk_own.T1 : Bool × List (List Nat × List Nat) := (true, [([], []), ([0], [0]), ([1], [1]), ([], []), ([3], [3]), ([4, 2], [4]), ([2, 5], [2, 5]), ([6, 5, 0, 1, 2, 3, 4, 5, 6], [6])])
def disk_own.B1 : List Nat := [0, 1, 3, 0, 8, 31, 63, 127]
theorem disk_own.tab1 : rtab .any (opsOf Try.f91 1) = disk_own.T1 := by kernel_rfl
theorem disk_own.bits1 : waitsOk disk_own.T1.2 disk_own.B1 = true := by kernel_rfl
set_option maxHeartbeats 8000000 in
set_option maxRecDepth 100000 in
theorem disk_own.calls (A0_0 : Option Addr) (c0_0 : Nat) (l0_0 : List ByteArray) (A0_1 : Option Addr) (c0_1 : Nat) (l0_1 : List (S104)) (r1 : List ByteArray) (r2 : List (S104)) (w : World) (hr0_0 : Kd.C Kd.string w A0_0 l0_0.length l0_0) (hc0_0 : l0_0.length ≤ c0_0) (hr0_1 : Kd.C k104 w A0_1 l0_1.length l0_1) (hc0_1 : l0_1.length ≤ c0_1) (h : disk_own.f l0_0 l0_1 = some (r1, r2)) :
    Calls Try.prog 91 #[.agg #[.slice A0_0 l0_0.length c0_0, .slice A0_1 l0_1.length c0_1]] w fun e w' => ∃ v0_ v1_ : Value, e = .returned (.agg #[v0_, v1_]) ∧ Kd.R Kd.string 9 w' w.heap.size (fun _ => True) v0_ r1 ∧ Kd.R k104 104 w' w.heap.size (fun _ => True) v1_ r2 ∧ Below w.heap.size w w' := by
  have hu86 := Try.underlying86
  have HR0_0 := Aside0.mk hr0_0
  have HC0_0 := Aside0.mk hc0_0
  clear hr0_0 hc0_0
  have HR0_1 := Aside0.mk hr0_1
  have HC0_1 := Aside0.mk hc0_1
  clear hr0_1 hc0_1
  have HB := Aside0.mk (Below.refl w.heap.size w)
  have H : ((slices_Clone_string_string.f l0_0).bind fun t641 => ((slices_Clone_disk_Write_disk_Write.f l0_1).bind fun t644 => (some (t641, t644)))) = some (r1, r2) := h
  clear h
  replace H := Option.bind_eq_some_iff.mp H
  obtain ⟨t641, A20, H⟩ := H
  replace H : ((slices_Clone_disk_Write_disk_Write.f l0_1).bind fun t644 => (some (t641, t644))) = some (r1, r2) := H
  have A2 := Aside0.mk A20
  clear A20
  replace H := Option.bind_eq_some_iff.mp H
  obtain ⟨t644, A30, H⟩ := H
  replace H : (some (t641, t644)) = some (r1, r2) := H
  have A3 := Aside0.mk A30
  clear A30
  simp only [Option.some.injEq, Prod.mk.injEq] at H
  obtain ⟨rfl, rfl⟩ := H
  go_enter Try.func91, Try.ntmps91
  try go_wp2_with (first | ((with_reducible refine gate_dst (N := 1) rfl ?_); refine box_event ?hg (N := 1) ?hd (cs := #[.slice A0_0 l0_0.length c0_0, .slice A0_1 l0_1.length c0_1]) (t := 86) ?hr ?_; (case hd => rfl); (case hg => rfl); (case hr => first | (go_simp; done) | (go_simp; rfl)); intro gb639 hg w4 hbox hb; have n0_ := Aside0.mk (below_step (by repeat (first | (with_reducible first | exact HB.out | apply below_alloc | apply pw_below_drewN | apply below_drew1) | exact HB.out)) hb); have n1_ := Aside0.mk (hbox); have n2_ := Aside0.mk ((by rw [hg]; exact (below_size (by repeat (first | (with_reducible first | exact HB.out | apply below_alloc | apply pw_below_drewN | apply below_drew1) | exact HB.out))) : w.heap.size ≤ gb639)); have n3_ := Aside0.mk ((by rw [hg]; exact (below_size (by repeat (first | (with_reducible first | exact HB.out | apply below_alloc | apply pw_below_drewN | apply below_drew1) | exact HB.out))) : w.heap.size ≤ gb639)); clear HB; have HB := n0_; have BK639 := n1_; have GW639 := n2_; have GE639 := n3_; clear n0_ n1_ n2_ n3_; clear hb hbox hg) | ((with_reducible refine gate_dst (N := 2) rfl ?_); refine box_event ?hg (N := 2) ?hd (cs := #[.slice none 0 0, .slice none 0 0]) (t := 86) ?hr ?_; (case hd => rfl); (case hg => rfl); (case hr => first | (go_simp; done) | (go_simp; rfl)); intro gb640 hg w5 hbox hb; have n0_ := Aside0.mk (blk_below (g := gb639) (o := .cells #[.slice A0_0 l0_0.length c0_0, .slice A0_1 l0_1.length c0_1] 86 (0, 0)) (by (with_reducible repeat (first | refine blk_drewN ?_ _ | refine blk_drew ?_ | refine blk_alloc ?_ _)); exact BK639.out) hb); have n1_ := Aside0.mk (below_step (by repeat (first | (with_reducible first | exact HB.out | apply below_alloc | apply pw_below_drewN | apply below_drew1 | refine below_set ?_ GE639.out) | exact HB.out)) hb); have n2_ := Aside0.mk (hbox); have n3_ := Aside0.mk ((by rw [hg]; exact (below_size (by repeat (first | (with_reducible first | exact HB.out | apply below_alloc | apply pw_below_drewN | apply below_drew1 | refine below_set ?_ GE639.out) | exact HB.out))) : w.heap.size ≤ gb640)); have n4_ := Aside0.mk ((by rw [hg]; exact (below_size (by repeat (first | (with_reducible first | exact HB.out | apply below_alloc | apply pw_below_drewN | apply below_drew1 | refine below_set ?_ GE639.out) | exact HB.out))) : w.heap.size ≤ gb640)); have n5_ := Aside0.mk ((by rw [hg]; exact Nat.ne_of_lt (blk_lt (g := gb639) (o := .cells #[.slice A0_0 l0_0.length c0_0, .slice A0_1 l0_1.length c0_1] 86 (0, 0)) (by (with_reducible repeat (first | refine blk_drewN ?_ _ | refine blk_drew ?_ | refine blk_alloc ?_ _)); exact BK639.out)) : gb639 ≠ gb640)); have n6_ := Aside0.mk ((by rw [hg]; exact Nat.ne_of_gt (blk_lt (g := gb639) (o := .cells #[.slice A0_0 l0_0.length c0_0, .slice A0_1 l0_1.length c0_1] 86 (0, 0)) (by (with_reducible repeat (first | refine blk_drewN ?_ _ | refine blk_drew ?_ | refine blk_alloc ?_ _)); exact BK639.out)) : gb640 ≠ gb639)); clear BK639; clear HB; have BK639 := n0_; have HB := n1_; have BK640 := n2_; have GW640 := n3_; have GE640 := n4_; have NB639_640 := n5_; have NB640_639 := n6_; clear n0_ n1_ n2_ n3_ n4_ n5_ n6_; clear hb hbox hg))
  have n0_ := Aside0.mk (blk_drew BK639.out)
  have n1_ := Aside0.mk (blk_drew BK640.out)
  have n2_ := Aside0.mk (below_drew1 HB.out)
  clear BK639
  clear BK640
  clear HB
  have BK639 := n0_
  have BK640 := n1_
  have HB := n2_
  clear n0_ n1_ n2_
  refine start_ (n := 8) (S := fun w' => w'.cell? ⟨gb639, 0, none⟩ = some (.slice A0_0 l0_0.length c0_0) ∧ w'.cell? ⟨gb639, 1, none⟩ = some (.slice A0_1 l0_1.length c0_1)) (ds := []) #[false, false, false, false, false, false, false, false] (by kernel_rfl) rfl rfl ⟨(blk_cell BK639.out 0).trans rfl, (blk_cell BK639.out 1).trans rfl⟩ (fun hHeld => ?_); refine with_tabW disk_own.tab1 disk_own.bits1 (fun HT_ HW_ => ?_)
  generalize w5.drew = w6 at BK639 BK640 HB hHeld ⊢
  refine pure_ (i := 0) (N := some 3) (v := ?_) (a' := ?_) #[true, false, false, false, false, false, false, false] rfl rfl (any_of HT_.out (by kernel_rfl)) (fun _ _ _ h => h) (Or.inl ⟨by rfl, ?_⟩) ?_ ?_
  rotate_left
  · intro w'
    go_simp
    with_reducible rfl
  rotate_left
  · simp only [Act.put, List.setIfInBounds_toArray, List.set_cons_zero, List.set_cons_succ, i64_w, i32_w]
    rfl
  refine pure_ (i := 3) (N := some 6) (v := ?_) (a' := ?_) #[true, false, false, true, false, false, false, false] rfl rfl (any_of HT_.out (by kernel_rfl)) (fun _ _ _ h => h) (Or.inl ⟨by rfl, ?_⟩) ?_ ?_
  rotate_left
  · intro w'
    go_simp
    with_reducible rfl
  rotate_left
  · simp only [Act.put, List.setIfInBounds_toArray, List.set_cons_zero, List.set_cons_succ, i64_w, i32_w]
    rfl
  refine take_ (i := 1) (N := some 4) (v := ?_) (a' := ?_) #[true, true, false, true, false, false, false, false] rfl rfl (take_ofW HT_.out HW_.out (by kernel_rfl)) (fun _ _ _ h => h) (Or.inl ⟨by rfl, ?_⟩) hHeld ?_ ?_
  rotate_left
  · rintro w' ⟨s0, s1⟩
    go_simp
    with_reducible rfl
  rotate_left
  · simp only [Act.put, List.setIfInBounds_toArray, List.set_cons_zero, List.set_cons_succ, i64_w, i32_w]
    rfl
  refine take_ (i := 4) (N := some 7) (v := ?_) (a' := ?_) #[true, true, false, true, true, false, false, false] rfl rfl (take_ofW HT_.out HW_.out (by kernel_rfl)) (fun _ _ _ h => h) (Or.inl ⟨by rfl, ?_⟩) hHeld ?_ ?_
  rotate_left
  · rintro w' ⟨s0, s1⟩
    go_simp
    with_reducible rfl
  rotate_left
  · simp only [Act.put, List.setIfInBounds_toArray, List.set_cons_zero, List.set_cons_succ, i64_w, i32_w]
    rfl
  refine one_ (i := 2) (N := some 5) #[true, true, true, true, true, false, false, false] rfl rfl (one_of HT_.out (by kernel_rfl)) (by decide) (fun K hK => ?_)
  refine goes_ Try.func111 (by kernel_rfl) rfl #[.slice A0_0 l0_0.length c0_0] (by rfl) rfl rfl (by (try simp only [List.map_toArray, List.map_cons, List.map_nil]); first | done | rfl | (simp only [List.length_drop, List.length_take]; rfl)) ?_
  with_reducible refine (slices_Clone_string_string.calls _ _ l0_0 t641 _ ?side1 ?side2 A2.out).mono ?_
  (case side1 => repeat (first | exact (Kd.C_below HR0_0.out HB.out) | (with_reducible refine Kd.C_alloc ?_ _) | (with_reducible refine Kd.C_drewN ?_ _) | (with_reducible refine Kd.C_drew ?_)))
  (case side2 => exact HC0_0.out)
  rintro e w7 ⟨v642, rfl, ho0, hb⟩
  refine ⟨_, rfl, ?_⟩
  have n0_ := Aside0.mk (Kd.R_lower ho0 (below_size (by repeat (first | (with_reducible first | exact HB.out | apply below_alloc | apply pw_below_drewN | apply below_drew1 | refine below_set ?_ GE639.out | refine below_set ?_ GE640.out) | exact HB.out))))
  have n1_ := Aside0.mk (blk_below (g := gb639) (o := .cells #[.slice A0_0 l0_0.length c0_0, .slice A0_1 l0_1.length c0_1] 86 (0, 0)) (by (with_reducible repeat (first | refine blk_drewN ?_ _ | refine blk_drew ?_ | refine blk_alloc ?_ _)); exact BK639.out) hb)
  have n2_ := Aside0.mk (blk_below (g := gb640) (o := .cells #[.slice none 0 0, .slice none 0 0] 86 (0, 0)) (by (with_reducible repeat (first | refine blk_drewN ?_ _ | refine blk_drew ?_ | refine blk_alloc ?_ _)); exact BK640.out) hb)
  have n3_ := Aside0.mk (below_step (by repeat (first | (with_reducible first | exact HB.out | apply below_alloc | apply pw_below_drewN | apply below_drew1 | refine below_set ?_ GE639.out | refine below_set ?_ GE640.out) | exact HB.out)) hb)
  clear BK639
  clear BK640
  clear HB
  have HO643 := n0_
  have BK639 := n1_
  have BK640 := n2_
  have HB := n3_
  clear n0_ n1_ n2_ n3_
  (try clear hb)
  (try clear hb2)
  (try clear hk)
  (try clear hi)
  (try clear ho0)
  refine hK.out _ _ ⟨(blk_cell BK639.out 0).trans rfl, (blk_cell BK639.out 1).trans rfl⟩ (fun hHeld => ?_)
  clear hK K
  refine norm_ (a' := ?_) ?_ ?_
  rotate_left
  · show Act.put _ (some 5) _ = _
    simp only [Act.put, List.setIfInBounds_toArray, List.set_cons_zero, List.set_cons_succ, i64_w, i32_w]
    rfl
  refine one_ (i := 5) (N := some 8) #[true, true, true, true, true, true, false, false] rfl rfl (one_of HT_.out (by kernel_rfl)) (by decide) (fun K hK => ?_)
  refine goes_ Try.func112 (by kernel_rfl) rfl #[.slice A0_1 l0_1.length c0_1] (by rfl) rfl rfl (by (try simp only [List.map_toArray, List.map_cons, List.map_nil]); first | done | rfl | (simp only [List.length_drop, List.length_take]; rfl)) ?_
  with_reducible refine (slices_Clone_disk_Write_disk_Write.calls _ _ l0_1 t644 _ ?side1 ?side2 A3.out).mono ?_
  (case side1 => repeat (first | exact (Kd.C_below HR0_1.out HB.out) | (with_reducible refine Kd.C_alloc ?_ _) | (with_reducible refine Kd.C_drewN ?_ _) | (with_reducible refine Kd.C_drew ?_)))
  (case side2 => exact HC0_1.out)
  rintro e w8 ⟨v645, rfl, ho0, hb⟩
  refine ⟨_, rfl, ?_⟩
  have n0_ := Aside0.mk (Kd.R_below (by (with_reducible repeat (first | apply Kd.R_alloc | apply Kd.R_drewN | apply Kd.R_drew)); exact HO643.out) hb)
  have n1_ := Aside0.mk (Kd.R_lower ho0 (below_size (by repeat (first | (with_reducible first | exact HB.out | apply below_alloc | apply pw_below_drewN | apply below_drew1 | refine below_set ?_ GE639.out | refine below_set ?_ GE640.out) | exact HB.out))))
  have n2_ := Aside0.mk (blk_below (g := gb639) (o := .cells #[.slice A0_0 l0_0.length c0_0, .slice A0_1 l0_1.length c0_1] 86 (0, 0)) (by (with_reducible repeat (first | refine blk_drewN ?_ _ | refine blk_drew ?_ | refine blk_alloc ?_ _)); exact BK639.out) hb)
  have n3_ := Aside0.mk (blk_below (g := gb640) (o := .cells #[.slice none 0 0, .slice none 0 0] 86 (0, 0)) (by (with_reducible repeat (first | refine blk_drewN ?_ _ | refine blk_drew ?_ | refine blk_alloc ?_ _)); exact BK640.out) hb)
  have n4_ := Aside0.mk (below_step (by repeat (first | (with_reducible first | exact HB.out | apply below_alloc | apply pw_below_drewN | apply below_drew1 | refine below_set ?_ GE639.out | refine below_set ?_ GE640.out) | exact HB.out)) hb)
  clear HO643
  clear BK639
  clear BK640
  clear HB
  have HO643 := n0_
  have HO646 := n1_
  have BK639 := n2_
  have BK640 := n3_
  have HB := n4_
  clear n0_ n1_ n2_ n3_ n4_
  (try clear hb)
  (try clear hb2)
  (try clear hk)
  (try clear hi)
  (try clear ho0)
  obtain ⟨Ao9, co9, eo9⟩ := Kd.R_slice HO646.out
  (first | subst eo9 | (injection eo9 with f1_ f2_ f3_; have f4_ := f1_.symm; have f5_ := f3_.symm; clear f1_ f2_ f3_; subst f4_; subst f5_))
  obtain ⟨Ao10, co10, eo10⟩ := Kd.R_slice HO643.out
  (first | subst eo10 | (injection eo10 with f1_ f2_ f3_; have f4_ := f1_.symm; have f5_ := f3_.symm; clear f1_ f2_ f3_; subst f4_; subst f5_))
  refine hK.out _ _ ⟨(blk_cell BK639.out 0).trans rfl, (blk_cell BK639.out 1).trans rfl⟩ (fun hHeld => ?_)
  clear hK K
  refine norm_ (a' := ?_) ?_ ?_
  rotate_left
  · show Act.put _ (some 8) _ = _
    simp only [Act.put, List.setIfInBounds_toArray, List.set_cons_zero, List.set_cons_succ, i64_w, i32_w]
    rfl
  refine pure_ (i := 6) (N := some 9) (v := ?_) (a' := ?_) #[true, true, true, true, true, true, true, false] rfl rfl (any_of HT_.out (by kernel_rfl)) (fun _ _ _ h => h) (Or.inl ⟨by rfl, ?_⟩) ?_ ?_
  rotate_left
  · intro w'
    go_simp
    with_reducible rfl
  rotate_left
  · simp only [Act.put, List.setIfInBounds_toArray, List.set_cons_zero, List.set_cons_succ, i64_w, i32_w]
    rfl
  refine one_ (i := 7) (N := none) #[true, true, true, true, true, true, true, true] rfl rfl (one_of HT_.out (by kernel_rfl)) (by decide) (fun K hK => ?_)
  have hs11 : w8.cell? ⟨gb640, 0, none⟩ = some (.slice none 0 0) := (blk_cell BK640.out 0).trans rfl
  have hfs11 := blk_frozen BK640.out 0
  have hns11_0 := NB639_640.out
  have hms11_0 := NB640_639.out
  have hs12 : w8.cell? ⟨gb640, 1, none⟩ = some (.slice none 0 0) := (blk_cell BK640.out 1).trans rfl
  have hfs12 := blk_frozen BK640.out 1
  have hns12_0 := NB639_640.out
  have hms12_0 := NB640_639.out
  refine skip_ (w1 := ?_) (by rfl) rfl ?_ ?_
  rotate_left
  · go_simp
    rfl
  refine hK.out _ _ ⟨((cell_far (p := ⟨gb640, _, none⟩) NB639_640.out _).trans (((cell_far (p := ⟨gb640, _, none⟩) NB639_640.out _).trans (hHeld.1)))), ((cell_far (p := ⟨gb640, _, none⟩) NB639_640.out _).trans (((cell_far (p := ⟨gb640, _, none⟩) NB639_640.out _).trans (hHeld.2))))⟩ (fun hHeld => ?_)
  clear hK K
  refine done_ (done_of HT_.out (by kernel_rfl)) ?_
  try go_wp2
  refine bodyPost_ret (results_cell_row rfl _ _ gb640 86 #[.slice Ao10 t641.length co10, .slice Ao9 t644.length co9] (0, 0) _ rfl (by (with_reducible repeat (first | refine blk_drewN ?_ _ | refine blk_drew ?_ | refine blk_alloc ?_ _)); refine blk_put (cs := #[.slice Ao10 t641.length co10, .slice none 0 0]) ?_ 1 _ rfl; (with_reducible repeat (first | refine blk_drewN ?_ _ | refine blk_drew ?_ | refine blk_alloc ?_ _)); refine blk_put (cs := #[.slice none 0 0, .slice none 0 0]) ?_ 0 _ rfl; (with_reducible repeat (first | refine blk_drewN ?_ _ | refine blk_drew ?_ | refine blk_alloc ?_ _)); exact BK640.out) Try.underlying86 rfl (by kernel_rfl)) rfl ?_
  exact ⟨_, _, by first | rfl | (simp [errW_none, errW_some] <;> rfl) | (simp [*, errW_none, errW_some] <;> rfl), by (with_reducible repeat (first | apply Kd.R_alloc | apply Kd.R_drewN | apply Kd.R_drew)); exact Kd.R_mono (Kd.R_far (p := ⟨gb640, 1, none⟩) (Kd.R_far (p := ⟨gb640, 0, none⟩) (Kd.R_types HO643.out BK640.out (by decide)) (fun _ hk => hk.2) (.slice Ao10 t641.length co10)) (fun _ hk => hk.2) (.slice Ao9 t644.length co9)) (fun _ hk => trivial), by (with_reducible repeat (first | apply Kd.R_alloc | apply Kd.R_drewN | apply Kd.R_drew)); exact Kd.R_mono (Kd.R_far (p := ⟨gb640, 1, none⟩) (Kd.R_far (p := ⟨gb640, 0, none⟩) (Kd.R_types HO646.out BK640.out (by decide)) (fun _ hk => hk.2) (.slice Ao10 t641.length co10)) (fun _ hk => hk.2) (.slice Ao9 t644.length co9)) (fun _ hk => trivial), by repeat (first | (with_reducible first | exact HB.out | apply below_alloc | apply pw_below_drewN | apply below_drew1 | refine below_set ?_ GE639.out | refine below_set ?_ GE640.out) | exact HB.out)⟩

-- NOT PRINTED: function 93 (disk_lasting)

end Go.Proofs.Ythidkdlmpkeogaa.F
