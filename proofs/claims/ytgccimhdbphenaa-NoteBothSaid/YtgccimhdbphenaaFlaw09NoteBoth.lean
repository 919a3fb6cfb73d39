/- Contracts of Go functions of the seat Ytgccimhdbphenaa: what a call comes to; no condition but those that each theorem names. -/
import Derived.Test.YtgccimhdbphenaaFPre
import Derived.Test.YtgccimhdbphenaaFnotex1
import Derived.Test.YtgccimhdbphenaaFnotex0
import Derived.Test.YtgccimhdbphenaaFlaw09awake
import Derived.Test.YtgccimhdbphenaaFlaw09short
namespace Go.Proofs.Ytgccimhdbphenaa.F
open Go.RowKit Go.Proofs.YtgccimhdbphenaaW.PrintWords Go.Proofs.YtgccimhdbphenaaW.PrintLast Go.Proofs.YtgccimhdbphenaaW.PrintMore
attribute [local go_sem] max2_int min2_int max_two min_two max_three min_three max_four min_four   -- for this text's walks alone
set_option linter.unusedVariables false
set_option linter.unusedSimpArgs false

theorem fld_law09NoteBoth_55_0 (x0 : Int) (x1 : ByteArray) (x2 : ByteArray) (x3 : Int) (w : World) : (Instr.field 55 (.agg #[.int .i64 x0, .string x1, .string x2, .int .u64 x3]) 0).run Try.prog w = .ok (.int .i64 x0) w := by kernel_rfl
theorem fld_law09NoteBoth_55_1 (x0 : Int) (x1 : ByteArray) (x2 : ByteArray) (x3 : Int) (w : World) : (Instr.field 55 (.agg #[.int .i64 x0, .string x1, .string x2, .int .u64 x3]) 1).run Try.prog w = .ok (.string x1) w := by kernel_rfl
theorem fld_law09NoteBoth_55_2 (x0 : Int) (x1 : ByteArray) (x2 : ByteArray) (x3 : Int) (w : World) : (Instr.field 55 (.agg #[.int .i64 x0, .string x1, .string x2, .int .u64 x3]) 2).run Try.prog w = .ok (.string x2) w := by kernel_rfl
theorem fld_law09NoteBoth_55_3 (x0 : Int) (x1 : ByteArray) (x2 : ByteArray) (x3 : Int) (w : World) : (Instr.field 55 (.agg #[.int .i64 x0, .string x1, .string x2, .int .u64 x3]) 3).run Try.prog w = .ok (.int .u64 x3) w := by kernel_rfl
/-! ### weirkeeperlaw09_NoteBoth: function 10 -/
mutual
def weirkeeperlaw09_NoteBoth.j0 : Nat → ByteArray → Bool → Bool → Int → ByteArray → ByteArray → Int → Int → ByteArray → ByteArray → Int → Int → ByteArray → ByteArray → Int → Option (Bool)
  | 0, _, _, _, _, _, _, _, _, _, _, _, _, _, _, _ => none
  | k + 1, x0, x1, x29, x323000, x323001, x323002, x323003, x324000, x324001, x324002, x324003, x325000, x325001, x325002, x325003 => if x29 = true then ((weirkeeperlaw09_awake.f k).bind fun t329 => (some t329)) else ((note_Done.f k x0 x1 (([(⟨x323000, x323001, x323002, x323003⟩ : S55), (⟨x324000, x324001, x324002, x324003⟩ : S55)] : List (S55)))).bind fun bt333 => ((note_Both.f k x323000 x323001 x323002 x323003 x324000 x324001 x324002 x324003).bind fun bt335 => ((note_Done.f k x0 x1 (([(⟨bt335.1, bt335.2.1, bt335.2.2.1, bt335.2.2.2⟩ : S55)] : List (S55)))).bind fun bt342 => ((note_Both.f k x323000 x323001 x323002 x323003 x324000 x324001 x324002 x324003).bind fun bt344 => ((note_Both.f k bt344.1 bt344.2.1 bt344.2.2.1 bt344.2.2.2 x325000 x325001 x325002 x325003).bind fun bt348 => ((note_Done.f k x0 x1 (([(⟨bt348.1, bt348.2.1, bt348.2.2.1, bt348.2.2.2⟩ : S55)] : List (S55)))).bind fun bt355 => ((note_Both.f k x324000 x324001 x324002 x324003 x325000 x325001 x325002 x325003).bind fun bt357 => ((note_Both.f k x323000 x323001 x323002 x323003 bt357.1 bt357.2.1 bt357.2.2.1 bt357.2.2.2).bind fun bt361 => ((note_Done.f k x0 x1 (([(⟨bt361.1, bt361.2.1, bt361.2.2.1, bt361.2.2.2⟩ : S55)] : List (S55)))).bind fun bt368 => ((note_Right.f k x323000 x323001 x323002 x323003).bind fun t370 => (if t370 = true then ((note_Right.f k x324000 x324001 x324002 x324003).bind fun t371 => (if t371 = true then ((note_Both.f k x323000 x323001 x323002 x323003 x324000 x324001 x324002 x324003).bind fun bt372 => ((note_Right.f k bt372.1 bt372.2.1 bt372.2.2.1 bt372.2.2.2).bind fun t376 => (weirkeeperlaw09_NoteBoth.j1 k bt333.1 bt333.2 bt342.1 bt342.2 bt355.1 bt355.2 bt368.1 bt368.2 (!t376) x323000 x323001 x323002 x323003 x324000 x324001 x324002 x324003))) else (weirkeeperlaw09_NoteBoth.j1 k bt333.1 bt333.2 bt342.1 bt342.2 bt355.1 bt355.2 bt368.1 bt368.2 false x323000 x323001 x323002 x323003 x324000 x324001 x324002 x324003))) else (weirkeeperlaw09_NoteBoth.j1 k bt333.1 bt333.2 bt342.1 bt342.2 bt355.1 bt355.2 bt368.1 bt368.2 false x323000 x323001 x323002 x323003 x324000 x324001 x324002 x324003))))))))))))
def weirkeeperlaw09_NoteBoth.j1 : Nat → ByteArray → Bool → ByteArray → Bool → ByteArray → Bool → ByteArray → Bool → Bool → Int → ByteArray → ByteArray → Int → Int → ByteArray → ByteArray → Int → Option (Bool)
  | 0, _, _, _, _, _, _, _, _, _, _, _, _, _, _, _, _, _ => none
  | k + 1, x11, x12, x13, x14, x15, x16, x17, x18, x86, x323000, x323001, x323002, x323003, x324000, x324001, x324002, x324003 => if x86 = true then (some false) else (if x11.toList = x13.toList then (if (x12 == x14) = true then (if x15.toList = x17.toList then (if (x16 == x18) = true then ((note_Both.f k x323000 x323001 x323002 x323003 x324000 x324001 x324002 x324003).bind fun bt377 => (if bt377.2.1.toList = x324001.toList then ((weirkeeperlaw09_awake.f k).bind fun t381 => (some t381)) else (some false))) else (some false)) else (some false)) else (some false)) else (some false))
end
def weirkeeperlaw09_NoteBoth.f (k : Nat) (a0 : ByteArray) (a1 : Bool) (a2_0 : Int) (a2_1 : ByteArray) (a2_2 : ByteArray) (a2_3 : Int) (a3_0 : Int) (a3_1 : ByteArray) (a3_2 : ByteArray) (a3_3 : Int) (a4_0 : Int) (a4_1 : ByteArray) (a4_2 : ByteArray) (a4_3 : Int) : Option (Bool) := if (a0.size : Int) > 300 then (weirkeeperlaw09_NoteBoth.j0 k a0 a1 true a2_0 a2_1 a2_2 a2_3 a3_0 a3_1 a3_2 a3_3 a4_0 a4_1 a4_2 a4_3) else ((weirkeeperlaw09_short.f k (([(⟨a2_0, a2_1, a2_2, a2_3⟩ : S55), (⟨a3_0, a3_1, a3_2, a3_3⟩ : S55), (⟨a4_0, a4_1, a4_2, a4_3⟩ : S55)] : List (S55)))).bind fun t328 => (weirkeeperlaw09_NoteBoth.j0 k a0 a1 (!t328) a2_0 a2_1 a2_2 a2_3 a3_0 a3_1 a3_2 a3_3 a4_0 a4_1 a4_2 a4_3))
theorem weirkeeperlaw09_NoteBoth.mono_l : ∀ k, (∀ y0 y1 y2 y3 y4 y5 y6 y7 y8 y9 y10 y11 y12 y13 y14, LeO (weirkeeperlaw09_NoteBoth.j0 k y0 y1 y2 y3 y4 y5 y6 y7 y8 y9 y10 y11 y12 y13 y14) (weirkeeperlaw09_NoteBoth.j0 (k + 1) y0 y1 y2 y3 y4 y5 y6 y7 y8 y9 y10 y11 y12 y13 y14)) ∧ (∀ y0 y1 y2 y3 y4 y5 y6 y7 y8 y9 y10 y11 y12 y13 y14 y15 y16, LeO (weirkeeperlaw09_NoteBoth.j1 k y0 y1 y2 y3 y4 y5 y6 y7 y8 y9 y10 y11 y12 y13 y14 y15 y16) (weirkeeperlaw09_NoteBoth.j1 (k + 1) y0 y1 y2 y3 y4 y5 y6 y7 y8 y9 y10 y11 y12 y13 y14 y15 y16))
  | 0 => ⟨fun _ _ _ _ _ _ _ _ _ _ _ _ _ _ _ r h => by simp [weirkeeperlaw09_NoteBoth.j0] at h, fun _ _ _ _ _ _ _ _ _ _ _ _ _ _ _ _ _ r h => by simp [weirkeeperlaw09_NoteBoth.j1] at h⟩
  | k + 1 => by
    obtain ⟨ih0, ih1⟩ := weirkeeperlaw09_NoteBoth.mono_l k
    refine ⟨?_, ?_⟩
    · intro y0 y1 y2 y3 y4 y5 y6 y7 y8 y9 y10 y11 y12 y13 y14
      unfold weirkeeperlaw09_NoteBoth.j0
      repeat' first
      | (with_reducible exact ih0 _ _ _ _ _ _ _ _ _ _ _ _ _ _ _)
      | (with_reducible exact ih1 _ _ _ _ _ _ _ _ _ _ _ _ _ _ _ _ _)
      | (with_reducible exact note_Both.mono _ _ _ _ _ _ _ _ _)
      | (with_reducible exact note_Done.mono _ _ _ _)
      | (with_reducible exact note_Right.mono _ _ _ _ _)
      | (with_reducible exact weirkeeperlaw09_awake.mono _)
      | (with_reducible exact weirkeeperlaw09_short.mono _ _)
      | (with_reducible exact LeO.refl _)
      | (with_reducible exact LeO.none _)
      | (with_reducible refine LeO.ite ?_ ?_)
      | (with_reducible refine LeO.bind ?_ (fun _ => ?_))
      | exact ih0 _ _ _ _ _ _ _ _ _ _ _ _ _ _ _
      | exact ih1 _ _ _ _ _ _ _ _ _ _ _ _ _ _ _ _ _
      | exact note_Both.mono _ _ _ _ _ _ _ _ _
      | exact note_Done.mono _ _ _ _
      | exact note_Right.mono _ _ _ _ _
      | exact weirkeeperlaw09_awake.mono _
      | exact weirkeeperlaw09_short.mono _ _
      | exact LeO.none _
      | refine LeO.ite ?_ ?_
      | refine LeO.bind ?_ (fun _ => ?_)
    · intro y0 y1 y2 y3 y4 y5 y6 y7 y8 y9 y10 y11 y12 y13 y14 y15 y16
      unfold weirkeeperlaw09_NoteBoth.j1
      repeat' first
      | (with_reducible exact ih0 _ _ _ _ _ _ _ _ _ _ _ _ _ _ _)
      | (with_reducible exact ih1 _ _ _ _ _ _ _ _ _ _ _ _ _ _ _ _ _)
      | (with_reducible exact note_Both.mono _ _ _ _ _ _ _ _ _)
      | (with_reducible exact note_Done.mono _ _ _ _)
      | (with_reducible exact note_Right.mono _ _ _ _ _)
      | (with_reducible exact weirkeeperlaw09_awake.mono _)
      | (with_reducible exact weirkeeperlaw09_short.mono _ _)
      | (with_reducible exact LeO.refl _)
      | (with_reducible exact LeO.none _)
      | (with_reducible refine LeO.ite ?_ ?_)
      | (with_reducible refine LeO.bind ?_ (fun _ => ?_))
      | exact ih0 _ _ _ _ _ _ _ _ _ _ _ _ _ _ _
      | exact ih1 _ _ _ _ _ _ _ _ _ _ _ _ _ _ _ _ _
      | exact note_Both.mono _ _ _ _ _ _ _ _ _
      | exact note_Done.mono _ _ _ _
      | exact note_Right.mono _ _ _ _ _
      | exact weirkeeperlaw09_awake.mono _
      | exact weirkeeperlaw09_short.mono _ _
      | exact LeO.none _
      | refine LeO.ite ?_ ?_
      | refine LeO.bind ?_ (fun _ => ?_)
theorem weirkeeperlaw09_NoteBoth.mono : ∀ a0 a1 a2 a3 a4 a5 a6 a7 a8 a9 a10 a11 a12 a13 k, LeO (weirkeeperlaw09_NoteBoth.f k a0 a1 a2 a3 a4 a5 a6 a7 a8 a9 a10 a11 a12 a13) (weirkeeperlaw09_NoteBoth.f (k + 1) a0 a1 a2 a3 a4 a5 a6 a7 a8 a9 a10 a11 a12 a13) := by
  intro a0 a1 a2 a3 a4 a5 a6 a7 a8 a9 a10 a11 a12 a13 k
  obtain ⟨ih0, ih1⟩ := weirkeeperlaw09_NoteBoth.mono_l k
  unfold weirkeeperlaw09_NoteBoth.f
  repeat' first
      | (with_reducible exact ih0 _ _ _ _ _ _ _ _ _ _ _ _ _ _ _)
      | (with_reducible exact ih1 _ _ _ _ _ _ _ _ _ _ _ _ _ _ _ _ _)
      | (with_reducible exact note_Both.mono _ _ _ _ _ _ _ _ _)
      | (with_reducible exact note_Done.mono _ _ _ _)
      | (with_reducible exact note_Right.mono _ _ _ _ _)
      | (with_reducible exact weirkeeperlaw09_awake.mono _)
      | (with_reducible exact weirkeeperlaw09_short.mono _ _)
      | (with_reducible exact LeO.refl _)
      | (with_reducible exact LeO.none _)
      | (with_reducible refine LeO.ite ?_ ?_)
      | (with_reducible refine LeO.bind ?_ (fun _ => ?_))
      | exact ih0 _ _ _ _ _ _ _ _ _ _ _ _ _ _ _
      | exact ih1 _ _ _ _ _ _ _ _ _ _ _ _ _ _ _ _ _
      | exact note_Both.mono _ _ _ _ _ _ _ _ _
      | exact note_Done.mono _ _ _ _
      | exact note_Right.mono _ _ _ _ _
      | exact weirkeeperlaw09_awake.mono _
      | exact weirkeeperlaw09_short.mono _ _
      | exact LeO.none _
      | refine LeO.ite ?_ ?_
      | refine LeO.bind ?_ (fun _ => ?_)
def weirkeeperlaw09_NoteBoth.T5 : Bool × List (List Nat × List Nat) := (true, [([], []), ([], []), ([], []), ([], []), ([2, 3], [2, 3]), ([], []), ([4, 5, 4], [4, 5]), ([6], [6]), ([0, 1, 7, 6], [0, 1, 7]), ([8], [8]), ([9], [9]), ([9], [9]), ([10, 8, 0, 1, 2, 3, 4, 5, 6, 7, 8, 9, 10], [10]), ([11, 12, 0, 1, 2, 3, 4, 5, 6, 7, 8, 9, 10, 11, 12], [11])])
def weirkeeperlaw09_NoteBoth.B5 : List Nat := [0, 0, 0, 0, 12, 0, 60, 124, 255, 511, 1023, 1023, 2047, 8191]
theorem weirkeeperlaw09_NoteBoth.tab5 : rtab .any (opsOf Try.f10 5) = weirkeeperlaw09_NoteBoth.T5 := by kernel_rfl
theorem weirkeeperlaw09_NoteBoth.bits5 : waitsOk weirkeeperlaw09_NoteBoth.T5.2 weirkeeperlaw09_NoteBoth.B5 = true := by kernel_rfl
def weirkeeperlaw09_NoteBoth.T6 : Bool × List (List Nat × List Nat) := (true, [([], []), ([], []), ([], []), ([], []), ([], []), ([3, 4], [3, 4]), ([2, 5, 5], [2, 5]), ([6], [6]), ([0, 1, 7, 6], [0, 1, 7]), ([8], [8]), ([9], [9]), ([9], [9]), ([10, 8, 0, 1, 2, 3, 4, 5, 6, 7, 8, 9, 10], [10]), ([11, 12, 0, 1, 2, 3, 4, 5, 6, 7, 8, 9, 10, 11, 12], [11])])
def weirkeeperlaw09_NoteBoth.B6 : List Nat := [0, 0, 0, 0, 0, 24, 60, 124, 255, 511, 1023, 1023, 2047, 8191]
theorem weirkeeperlaw09_NoteBoth.tab6 : rtab .any (opsOf Try.f10 6) = weirkeeperlaw09_NoteBoth.T6 := by kernel_rfl
theorem weirkeeperlaw09_NoteBoth.bits6 : waitsOk weirkeeperlaw09_NoteBoth.T6.2 weirkeeperlaw09_NoteBoth.B6 = true := by kernel_rfl
def weirkeeperlaw09_NoteBoth.T9 : Bool × List (List Nat × List Nat) := (true, [([], []), ([], []), ([0, 1], [0, 1]), ([2], [2]), ([3], [3]), ([3], [3]), ([4, 5, 3], [3, 4, 5]), ([3, 6], [3, 6]), ([7, 3], [7]), ([8], [8]), ([8], [8]), ([9, 10, 8], [8, 9, 10]), ([8, 11], [8, 11]), ([12, 8], [12]), ([13], [13]), ([13], [13]), ([14, 15, 13], [13, 14, 15]), ([13, 16], [13, 16]), ([17, 13], [17]), ([18], [18]), ([18], [18]), ([19, 20, 18, 18], [18, 19, 20]), ([21, 18], [18, 21]), ([18], [18]), ([23, 18], [18, 23]), ([22, 24, 18], [18, 22, 24]), ([18, 25], [18, 25]), ([26, 21], [26]), ([27, 27], [27]), ([27, 28], [27, 28]), ([29, 28, 0, 1, 2, 3, 4, 5, 6, 7, 8, 9, 10, 11, 12, 13, 14, 15, 16, 17, 18, 19, 20, 21, 22, 23, 24, 25, 26, 27, 28, 29], [29])])
def weirkeeperlaw09_NoteBoth.B9 : List Nat := [0, 0, 3, 7, 15, 15, 63, 127, 255, 511, 511, 2047, 4095, 8191, 16383, 16383, 65535, 131071, 262143, 524287, 524287, 2097151, 4194303, 524287, 8912895, 33554431, 67108863, 134217727, 268435455, 536870911, 1073741823]
theorem weirkeeperlaw09_NoteBoth.tab9 : rtab .any (opsOf Try.f10 9) = weirkeeperlaw09_NoteBoth.T9 := by kernel_rfl
theorem weirkeeperlaw09_NoteBoth.bits9 : waitsOk weirkeeperlaw09_NoteBoth.T9.2 weirkeeperlaw09_NoteBoth.B9 = true := by kernel_rfl
set_option maxHeartbeats 8000000 in
set_option maxRecDepth 100000 in
theorem weirkeeperlaw09_NoteBoth.calls (k : Nat) (a0 : ByteArray) (a1 : Bool) (a2_0 : Int) (a2_1 : ByteArray) (a2_2 : ByteArray) (a2_3 : Int) (a3_0 : Int) (a3_1 : ByteArray) (a3_2 : ByteArray) (a3_3 : Int) (a4_0 : Int) (a4_1 : ByteArray) (a4_2 : ByteArray) (a4_3 : Int) (w : World) (h : weirkeeperlaw09_NoteBoth.f k a0 a1 a2_0 a2_1 a2_2 a2_3 a3_0 a3_1 a3_2 a3_3 a4_0 a4_1 a4_2 a4_3 = some true) :
    Calls Try.prog 10 #[.string a0, .bool a1, .agg #[.int .i64 a2_0, .string a2_1, .string a2_2, .int .u64 a2_3], .agg #[.int .i64 a3_0, .string a3_1, .string a3_2, .int .u64 a3_3], .agg #[.int .i64 a4_0, .string a4_1, .string a4_2, .int .u64 a4_3]] w fun e w' => e = .returned (.bool true) ∧ Below w.heap.size w w' := by
  have hu55 := Try.underlying55
  have HB := Aside0.mk (Below.refl w.heap.size w)
  have H : (if (a0.size : Int) > 300 then (weirkeeperlaw09_NoteBoth.j0 k a0 a1 true a2_0 a2_1 a2_2 a2_3 a3_0 a3_1 a3_2 a3_3 a4_0 a4_1 a4_2 a4_3) else ((weirkeeperlaw09_short.f k (([(⟨a2_0, a2_1, a2_2, a2_3⟩ : S55), (⟨a3_0, a3_1, a3_2, a3_3⟩ : S55), (⟨a4_0, a4_1, a4_2, a4_3⟩ : S55)] : List (S55)))).bind fun t328 => (weirkeeperlaw09_NoteBoth.j0 k a0 a1 (!t328) a2_0 a2_1 a2_2 a2_3 a3_0 a3_1 a3_2 a3_3 a4_0 a4_1 a4_2 a4_3))) = some true := h
  clear h
  have HC6 := Aside0.mk H
  clear H
  go_enter Try.func10, Try.ntmps10
  go_upto_region 1 with (first | ((with_reducible refine gate_dst (N := 7) rfl ?_); (try (refine gate_guard (by rfl) ?_; dsimp only)); refine box_event ?hg (N := 7) ?hd (cs := #[.int .i64 a2_0, .string a2_1, .string a2_2, .int .u64 a2_3]) (t := 55) ?hr ?_; (case hd => rfl); (case hg => rfl); (case hr => first | (go_simp; done) | (go_simp; rfl)); intro gb322 hg w7 hbox hb; have n0_ := Aside0.mk (below_step (by repeat (first | (with_reducible first | exact HB.out | apply below_alloc | apply pw_below_drewN | apply below_drew1) | exact HB.out)) hb); have n1_ := Aside0.mk (hbox); have n2_ := Aside0.mk ((by rw [hg]; exact (below_size (by repeat (first | (with_reducible first | exact HB.out | apply below_alloc | apply pw_below_drewN | apply below_drew1) | exact HB.out))) : w.heap.size ≤ gb322)); have n3_ := Aside0.mk ((by rw [hg]; exact (below_size (by repeat (first | (with_reducible first | exact HB.out | apply below_alloc | apply pw_below_drewN | apply below_drew1) | exact HB.out))) : w.heap.size ≤ gb322)); clear HB; have HB := n0_; have BK322 := n1_; have GW322 := n2_; have GE322 := n3_; clear n0_ n1_ n2_ n3_; clear hb hbox hg) | ((with_reducible refine gate_dst (N := 8) rfl ?_); (try (refine gate_guard (by rfl) ?_; dsimp only)); refine box_event ?hg (N := 8) ?hd (cs := #[.int .i64 a3_0, .string a3_1, .string a3_2, .int .u64 a3_3]) (t := 55) ?hr ?_; (case hd => rfl); (case hg => rfl); (case hr => first | (go_simp; done) | (go_simp; rfl)); intro gb323 hg w8 hbox hb; have n0_ := Aside0.mk (blk_below (g := gb322) (o := .cells #[.int .i64 a2_0, .string a2_1, .string a2_2, .int .u64 a2_3] 55 (0, 0)) (by (with_reducible repeat (first | refine blk_drewN ?_ _ | refine blk_drew ?_ | refine blk_alloc ?_ _)); exact BK322.out) hb); have n1_ := Aside0.mk (below_step (by repeat (first | (with_reducible first | exact HB.out | apply below_alloc | apply pw_below_drewN | apply below_drew1 | refine below_set ?_ GE322.out) | exact HB.out)) hb); have n2_ := Aside0.mk (hbox); have n3_ := Aside0.mk ((by rw [hg]; exact (below_size (by repeat (first | (with_reducible first | exact HB.out | apply below_alloc | apply pw_below_drewN | apply below_drew1 | refine below_set ?_ GE322.out) | exact HB.out))) : w.heap.size ≤ gb323)); have n4_ := Aside0.mk ((by rw [hg]; exact (below_size (by repeat (first | (with_reducible first | exact HB.out | apply below_alloc | apply pw_below_drewN | apply below_drew1 | refine below_set ?_ GE322.out) | exact HB.out))) : w.heap.size ≤ gb323)); have n5_ := Aside0.mk ((by rw [hg]; exact Nat.ne_of_lt (blk_lt (g := gb322) (o := .cells #[.int .i64 a2_0, .string a2_1, .string a2_2, .int .u64 a2_3] 55 (0, 0)) (by (with_reducible repeat (first | refine blk_drewN ?_ _ | refine blk_drew ?_ | refine blk_alloc ?_ _)); exact BK322.out)) : gb322 ≠ gb323)); have n6_ := Aside0.mk ((by rw [hg]; exact Nat.ne_of_gt (blk_lt (g := gb322) (o := .cells #[.int .i64 a2_0, .string a2_1, .string a2_2, .int .u64 a2_3] 55 (0, 0)) (by (with_reducible repeat (first | refine blk_drewN ?_ _ | refine blk_drew ?_ | refine blk_alloc ?_ _)); exact BK322.out)) : gb323 ≠ gb322)); clear BK322; clear HB; have BK322 := n0_; have HB := n1_; have BK323 := n2_; have GW323 := n3_; have GE323 := n4_; have NB322_323 := n5_; have NB323_322 := n6_; clear n0_ n1_ n2_ n3_ n4_ n5_ n6_; clear hb hbox hg) | ((with_reducible refine gate_dst (N := 9) rfl ?_); (try (refine gate_guard (by rfl) ?_; dsimp only)); refine box_event ?hg (N := 9) ?hd (cs := #[.int .i64 a4_0, .string a4_1, .string a4_2, .int .u64 a4_3]) (t := 55) ?hr ?_; (case hd => rfl); (case hg => rfl); (case hr => first | (go_simp; done) | (go_simp; rfl)); intro gb324 hg w9 hbox hb; have n0_ := Aside0.mk (blk_below (g := gb322) (o := .cells #[.int .i64 a2_0, .string a2_1, .string a2_2, .int .u64 a2_3] 55 (0, 0)) (by (with_reducible repeat (first | refine blk_drewN ?_ _ | refine blk_drew ?_ | refine blk_alloc ?_ _)); exact BK322.out) hb); have n1_ := Aside0.mk (blk_below (g := gb323) (o := .cells #[.int .i64 a3_0, .string a3_1, .string a3_2, .int .u64 a3_3] 55 (0, 0)) (by (with_reducible repeat (first | refine blk_drewN ?_ _ | refine blk_drew ?_ | refine blk_alloc ?_ _)); exact BK323.out) hb); have n2_ := Aside0.mk (below_step (by repeat (first | (with_reducible first | exact HB.out | apply below_alloc | apply pw_below_drewN | apply below_drew1 | refine below_set ?_ GE322.out | refine below_set ?_ GE323.out) | exact HB.out)) hb); have n3_ := Aside0.mk (hbox); have n4_ := Aside0.mk ((by rw [hg]; exact (below_size (by repeat (first | (with_reducible first | exact HB.out | apply below_alloc | apply pw_below_drewN | apply below_drew1 | refine below_set ?_ GE322.out | refine below_set ?_ GE323.out) | exact HB.out))) : w.heap.size ≤ gb324)); have n5_ := Aside0.mk ((by rw [hg]; exact (below_size (by repeat (first | (with_reducible first | exact HB.out | apply below_alloc | apply pw_below_drewN | apply below_drew1 | refine below_set ?_ GE322.out | refine below_set ?_ GE323.out) | exact HB.out))) : w.heap.size ≤ gb324)); have n6_ := Aside0.mk ((by rw [hg]; exact Nat.ne_of_lt (blk_lt (g := gb322) (o := .cells #[.int .i64 a2_0, .string a2_1, .string a2_2, .int .u64 a2_3] 55 (0, 0)) (by (with_reducible repeat (first | refine blk_drewN ?_ _ | refine blk_drew ?_ | refine blk_alloc ?_ _)); exact BK322.out)) : gb322 ≠ gb324)); have n7_ := Aside0.mk ((by rw [hg]; exact Nat.ne_of_gt (blk_lt (g := gb322) (o := .cells #[.int .i64 a2_0, .string a2_1, .string a2_2, .int .u64 a2_3] 55 (0, 0)) (by (with_reducible repeat (first | refine blk_drewN ?_ _ | refine blk_drew ?_ | refine blk_alloc ?_ _)); exact BK322.out)) : gb324 ≠ gb322)); have n8_ := Aside0.mk ((by rw [hg]; exact Nat.ne_of_lt (blk_lt (g := gb323) (o := .cells #[.int .i64 a3_0, .string a3_1, .string a3_2, .int .u64 a3_3] 55 (0, 0)) (by (with_reducible repeat (first | refine blk_drewN ?_ _ | refine blk_drew ?_ | refine blk_alloc ?_ _)); exact BK323.out)) : gb323 ≠ gb324)); have n9_ := Aside0.mk ((by rw [hg]; exact Nat.ne_of_gt (blk_lt (g := gb323) (o := .cells #[.int .i64 a3_0, .string a3_1, .string a3_2, .int .u64 a3_3] 55 (0, 0)) (by (with_reducible repeat (first | refine blk_drewN ?_ _ | refine blk_drew ?_ | refine blk_alloc ?_ _)); exact BK323.out)) : gb324 ≠ gb323)); clear BK322; clear BK323; clear HB; have BK322 := n0_; have BK323 := n1_; have HB := n2_; have BK324 := n3_; have GW324 := n4_; have GE324 := n5_; have NB322_324 := n6_; have NB324_322 := n7_; have NB323_324 := n8_; have NB324_323 := n9_; clear n0_ n1_ n2_ n3_ n4_ n5_ n6_ n7_ n8_ n9_; clear hb hbox hg))
  (try simp only [Act.put, List.setIfInBounds_toArray, List.set_cons_zero, List.set_cons_succ])
  go_cut [29] (fun v29 wc => ∃ (kq : Nat) (x29_5 : Bool), v29 = .bool x29_5 ∧ Aside0 (weirkeeperlaw09_NoteBoth.j0 kq a0 a1 x29_5 a2_0 a2_1 a2_2 a2_3 a3_0 a3_1 a3_2 a3_3 a4_0 a4_1 a4_2 a4_3 = some true) ∧ Aside0 (kq ≤ k) ∧ Aside0 (wc.heap[gb322]? = some (.cells #[.int .i64 a2_0, .string a2_1, .string a2_2, .int .u64 a2_3] 55 (0, 0))) ∧ Aside0 (wc.heap[gb323]? = some (.cells #[.int .i64 a3_0, .string a3_1, .string a3_2, .int .u64 a3_3] 55 (0, 0))) ∧ Aside0 (wc.heap[gb324]? = some (.cells #[.int .i64 a4_0, .string a4_1, .string a4_2, .int .u64 a4_3] 55 (0, 0))) ∧ Aside0 (Below w.heap.size w wc))
  case first =>
    have H := HC6.out
    clear HC6
    by_cases c10 : (a0.size : Int) > 300
    · rw [if_pos c10] at H
      have c10b0 : decide (300 < (a0.size : Int)) = true := decide_eq_true c10
      have c10b1 : decide (300 < a0.size) = true := decide_eq_true (by omega)
      clear c10
      (first | rw [c10b0] | (simp only [i64_w, i32_w]; rw [c10b0]) | skip)
      have H' := Aside0.mk H
      clear H
      go_wp2
      go_meet
      case rel => exact ⟨_, (true), (by first | rfl | (simp; done) | (simp [*]; done)), H', ⟨by first | omega | exact Nat.le_refl _⟩, ⟨by (with_reducible repeat (first | refine blk_drewN ?_ _ | refine blk_drew ?_ | refine blk_alloc ?_ _)); exact BK322.out⟩, ⟨by (with_reducible repeat (first | refine blk_drewN ?_ _ | refine blk_drew ?_ | refine blk_alloc ?_ _)); exact BK323.out⟩, ⟨by (with_reducible repeat (first | refine blk_drewN ?_ _ | refine blk_drew ?_ | refine blk_alloc ?_ _)); exact BK324.out⟩, ⟨by repeat (first | (with_reducible first | exact HB.out | apply below_alloc | apply pw_below_drewN | apply below_drew1 | refine below_set ?_ GE322.out | refine below_set ?_ GE323.out | refine below_set ?_ GE324.out) | exact HB.out)⟩⟩
    · rw [if_neg c10] at H
      have c10b0 : decide (300 < (a0.size : Int)) = false := decide_eq_false c10
      have c10b1 : decide (300 < a0.size) = false := decide_eq_false (by omega)
      clear c10
      (first | rw [c10b0] | (simp only [i64_w, i32_w]; rw [c10b0]) | skip)
      obtain ⟨y325, hy325⟩ : ∃ y_ : List (S55), y_ = (([(⟨a2_0, a2_1, a2_2, a2_3⟩ : S55), (⟨a3_0, a3_1, a3_2, a3_3⟩ : S55), (⟨a4_0, a4_1, a4_2, a4_3⟩ : S55)] : List (S55))) := ⟨_, rfl⟩
      replace H : ((weirkeeperlaw09_short.f k y325).bind fun t328 => (weirkeeperlaw09_NoteBoth.j0 k a0 a1 (!t328) a2_0 a2_1 a2_2 a2_3 a3_0 a3_1 a3_2 a3_3 a4_0 a4_1 a4_2 a4_3)) = some true := by first | (rw [hy325]; with_reducible exact H) | (have H2_ := (Option.bind_some _ _).symm.trans H; rw [hy325]; with_reducible exact H2_) | (have H2_ := (Option.bind_some _ _).symm.trans H; with_reducible exact H2_) | with_reducible exact H | (rw [hy325]; exact H) | exact H
      have Ny325 := Aside0.mk hy325
      clear hy325
      replace H := Option.bind_eq_some_iff.mp H
      obtain ⟨t328, A110, H⟩ := H
      replace H : (weirkeeperlaw09_NoteBoth.j0 k a0 a1 (!t328) a2_0 a2_1 a2_2 a2_3 a3_0 a3_1 a3_2 a3_3 a4_0 a4_1 a4_2 a4_3) = some true := H
      have A11 := Aside0.mk A110
      clear A110
      have H' := Aside0.mk H
      clear H
      have hnb12 := NB322_323.out
      have hnc12 := NB323_322.out
      have hnb13 := NB322_324.out
      have hnc13 := NB324_322.out
      have hcz14_0 : w9.cell? ⟨gb322, 0, none⟩ = some (.int .i64 a2_0) := (blk_cell BK322.out 0).trans rfl
      have hcz14_1 : w9.cell? ⟨gb322, 1, none⟩ = some (.string a2_1) := (blk_cell BK322.out 1).trans rfl
      have hcz14_2 : w9.cell? ⟨gb322, 2, none⟩ = some (.string a2_2) := (blk_cell BK322.out 2).trans rfl
      have hcz14_3 : w9.cell? ⟨gb322, 3, none⟩ = some (.int .u64 a2_3) := (blk_cell BK322.out 3).trans rfl
      have hfz14_0 := blk_frozen BK322.out 0
      have hfz14_1 := blk_frozen BK322.out 1
      have hfz14_2 := blk_frozen BK322.out 2
      have hfz14_3 := blk_frozen BK322.out 3
      have hnb15 := NB323_324.out
      have hnc15 := NB324_323.out
      have hcz16_0 : w9.cell? ⟨gb323, 0, none⟩ = some (.int .i64 a3_0) := (blk_cell BK323.out 0).trans rfl
      have hcz16_1 : w9.cell? ⟨gb323, 1, none⟩ = some (.string a3_1) := (blk_cell BK323.out 1).trans rfl
      have hcz16_2 : w9.cell? ⟨gb323, 2, none⟩ = some (.string a3_2) := (blk_cell BK323.out 2).trans rfl
      have hcz16_3 : w9.cell? ⟨gb323, 3, none⟩ = some (.int .u64 a3_3) := (blk_cell BK323.out 3).trans rfl
      have hfz16_0 := blk_frozen BK323.out 0
      have hfz16_1 := blk_frozen BK323.out 1
      have hfz16_2 := blk_frozen BK323.out 2
      have hfz16_3 := blk_frozen BK323.out 3
      have hcz17_0 : w9.cell? ⟨gb324, 0, none⟩ = some (.int .i64 a4_0) := (blk_cell BK324.out 0).trans rfl
      have hcz17_1 : w9.cell? ⟨gb324, 1, none⟩ = some (.string a4_1) := (blk_cell BK324.out 1).trans rfl
      have hcz17_2 : w9.cell? ⟨gb324, 2, none⟩ = some (.string a4_2) := (blk_cell BK324.out 2).trans rfl
      have hcz17_3 : w9.cell? ⟨gb324, 3, none⟩ = some (.int .u64 a4_3) := (blk_cell BK324.out 3).trans rfl
      have hfz17_0 := blk_frozen BK324.out 0
      have hfz17_1 := blk_frozen BK324.out 1
      have hfz17_2 := blk_frozen BK324.out 2
      have hfz17_3 := blk_frozen BK324.out 3
      go_wp2_with (first | ((with_reducible refine gate_dst (N := 26) rfl ?_); (try (refine gate_guard (by rfl) ?_; dsimp only)); refine Kd.R_lit k55 _ 55 ?hg (N := 26) ?hd (xs := ([(⟨a2_0, a2_1, a2_2, a2_3⟩ : S55), (⟨a3_0, a3_1, a3_2, a3_3⟩ : S55), (⟨a4_0, a4_1, a4_2, a4_3⟩ : S55)] : List (S55))) (inner := [.int .i64 a2_0, .string a2_1, .string a2_2, .int .u64 a2_3, .int .i64 a3_0, .string a3_1, .string a3_2, .int .u64 a3_3, .int .i64 a4_0, .string a4_1, .string a4_2, .int .u64 a4_3]) (ok := fun _ => True) (okp := fun _ => True) ?hr ?hp (fun _ hk => hk) trivial (Below.refl _ _) (Nat.le_refl _) (by simp) ?_; (case hd => rfl); (case hg => rfl); (case hr => first | (go_simp; done) | (go_simp; rfl)); (case hp => exact (Reps.c4 (show Kd.M k55 _ _ _ (⟨a2_0, a2_1, a2_2, a2_3⟩ : S55) [.int .i64 a2_0, .string a2_1, .string a2_2, .int .u64 a2_3] from (k55_mkM _ _ _ (⟨a2_0, a2_1, a2_2, a2_3⟩ : S55) )) (Reps.c4 (show Kd.M k55 _ _ _ (⟨a3_0, a3_1, a3_2, a3_3⟩ : S55) [.int .i64 a3_0, .string a3_1, .string a3_2, .int .u64 a3_3] from (k55_mkM _ _ _ (⟨a3_0, a3_1, a3_2, a3_3⟩ : S55) )) (Reps.c4 (show Kd.M k55 _ _ _ (⟨a4_0, a4_1, a4_2, a4_3⟩ : S55) [.int .i64 a4_0, .string a4_1, .string a4_2, .int .u64 a4_3] from (k55_mkM _ _ _ (⟨a4_0, a4_1, a4_2, a4_3⟩ : S55) )) (Reps.none _ _))))); intro v326 w18 ho19 hb hg_ hnew_; clear hg_ hnew_; (first | rw [← Ny325.out] at ho19 | (simp only [Int.reduceToNat] at ho19; rw [← Ny325.out] at ho19)); have n0_ := Aside0.mk (Kd.R_lower (Kd.R_newB (Kd.R_newB (Kd.R_newB ho19 (g := gb322) (o := .cells #[.int .i64 a2_0, .string a2_1, .string a2_2, .int .u64 a2_3] 55 (0, 0)) (by (with_reducible repeat (first | refine blk_drewN ?_ _ | refine blk_drew ?_ | refine blk_alloc ?_ _)); exact BK322.out)) (g := gb323) (o := .cells #[.int .i64 a3_0, .string a3_1, .string a3_2, .int .u64 a3_3] 55 (0, 0)) (by (with_reducible repeat (first | refine blk_drewN ?_ _ | refine blk_drew ?_ | refine blk_alloc ?_ _)); exact BK323.out)) (g := gb324) (o := .cells #[.int .i64 a4_0, .string a4_1, .string a4_2, .int .u64 a4_3] 55 (0, 0)) (by (with_reducible repeat (first | refine blk_drewN ?_ _ | refine blk_drew ?_ | refine blk_alloc ?_ _)); exact BK324.out)) (below_size (by repeat (first | (with_reducible first | exact HB.out | apply below_alloc | apply pw_below_drewN | apply below_drew1 | refine below_set ?_ GE322.out | refine below_set ?_ GE323.out | refine below_set ?_ GE324.out) | exact HB.out)))); have n1_ := Aside0.mk (blk_below (g := gb322) (o := .cells #[.int .i64 a2_0, .string a2_1, .string a2_2, .int .u64 a2_3] 55 (0, 0)) (by (with_reducible repeat (first | refine blk_drewN ?_ _ | refine blk_drew ?_ | refine blk_alloc ?_ _)); exact BK322.out) hb); have n2_ := Aside0.mk (blk_below (g := gb323) (o := .cells #[.int .i64 a3_0, .string a3_1, .string a3_2, .int .u64 a3_3] 55 (0, 0)) (by (with_reducible repeat (first | refine blk_drewN ?_ _ | refine blk_drew ?_ | refine blk_alloc ?_ _)); exact BK323.out) hb); have n3_ := Aside0.mk (blk_below (g := gb324) (o := .cells #[.int .i64 a4_0, .string a4_1, .string a4_2, .int .u64 a4_3] 55 (0, 0)) (by (with_reducible repeat (first | refine blk_drewN ?_ _ | refine blk_drew ?_ | refine blk_alloc ?_ _)); exact BK324.out) hb); have n4_ := Aside0.mk (below_step (by repeat (first | (with_reducible first | exact HB.out | apply below_alloc | apply pw_below_drewN | apply below_drew1 | refine below_set ?_ GE322.out | refine below_set ?_ GE323.out | refine below_set ?_ GE324.out) | exact HB.out)) hb); clear BK322; clear BK323; clear BK324; clear HB; have HO327 := n0_; have BK322 := n1_; have BK323 := n2_; have BK324 := n3_; have HB := n4_; clear n0_ n1_ n2_ n3_ n4_; clear hb ho19; obtain ⟨Ao20, co20, eo20⟩ := Kd.R_slice HO327.out; subst eo20) | (go_at_call 28; (with_reducible refine (weirkeeperlaw09_short.calls k _ _ y325 t328 _ ?side1 ?side2 A11.out).mono ?_); (case side1 => repeat (first | exact (Kd.R_reads' HO327.out).2.2 | (with_reducible refine Kd.C_alloc ?_ _) | (with_reducible refine Kd.C_drewN ?_ _) | (with_reducible refine Kd.C_drew ?_))); (case side2 => exact (Kd.R_reads' HO327.out).2.1); rintro e w21 ⟨rfl, hb⟩; have n0_ := Aside0.mk (Kd.R_below (by (with_reducible repeat (first | apply Kd.R_alloc | apply Kd.R_drewN | apply Kd.R_drew)); exact HO327.out) hb); have n1_ := Aside0.mk (blk_below (g := gb322) (o := .cells #[.int .i64 a2_0, .string a2_1, .string a2_2, .int .u64 a2_3] 55 (0, 0)) (by (with_reducible repeat (first | refine blk_drewN ?_ _ | refine blk_drew ?_ | refine blk_alloc ?_ _)); exact BK322.out) hb); have n2_ := Aside0.mk (blk_below (g := gb323) (o := .cells #[.int .i64 a3_0, .string a3_1, .string a3_2, .int .u64 a3_3] 55 (0, 0)) (by (with_reducible repeat (first | refine blk_drewN ?_ _ | refine blk_drew ?_ | refine blk_alloc ?_ _)); exact BK323.out) hb); have n3_ := Aside0.mk (blk_below (g := gb324) (o := .cells #[.int .i64 a4_0, .string a4_1, .string a4_2, .int .u64 a4_3] 55 (0, 0)) (by (with_reducible repeat (first | refine blk_drewN ?_ _ | refine blk_drew ?_ | refine blk_alloc ?_ _)); exact BK324.out) hb); have n4_ := Aside0.mk (below_step (by repeat (first | (with_reducible first | exact HB.out | apply below_alloc | apply pw_below_drewN | apply below_drew1 | refine below_set ?_ GE322.out | refine below_set ?_ GE323.out | refine below_set ?_ GE324.out) | exact HB.out)) hb); clear HO327; clear BK322; clear BK323; clear BK324; clear HB; have HO327 := n0_; have BK322 := n1_; have BK323 := n2_; have BK324 := n3_; have HB := n4_; clear n0_ n1_ n2_ n3_ n4_; (try clear hb); (try clear hb2); (try clear hk); (try clear hi)))
      go_meet
      case rel => exact ⟨_, (!t328), (by first | rfl | (simp; done) | (simp [*]; done)), H', ⟨by first | omega | exact Nat.le_refl _⟩, ⟨by (with_reducible repeat (first | refine blk_drewN ?_ _ | refine blk_drew ?_ | refine blk_alloc ?_ _)); exact BK322.out⟩, ⟨by (with_reducible repeat (first | refine blk_drewN ?_ _ | refine blk_drew ?_ | refine blk_alloc ?_ _)); exact BK323.out⟩, ⟨by (with_reducible repeat (first | refine blk_drewN ?_ _ | refine blk_drew ?_ | refine blk_alloc ?_ _)); exact BK324.out⟩, ⟨by repeat (first | (with_reducible first | exact HB.out | apply below_alloc | apply pw_below_drewN | apply below_drew1 | refine below_set ?_ GE322.out | refine below_set ?_ GE323.out | refine below_set ?_ GE324.out) | exact HB.out)⟩⟩
  case rest =>
    clear HC6
    try clear c1
    try clear p2
    try clear c4
    try clear c10
    try clear c10b0
    try clear c10b1
    try clear c12
    try clear c13
    try clear c15
    try clear hcz14_0
    try clear hcz14_1
    try clear hcz14_2
    try clear hcz14_3
    try clear hcz16_0
    try clear hcz16_1
    try clear hcz16_2
    try clear hcz16_3
    try clear hcz17_0
    try clear hcz17_1
    try clear hcz17_2
    try clear hcz17_3
    try clear hfz14_0
    try clear hfz14_1
    try clear hfz14_2
    try clear hfz14_3
    try clear hfz16_0
    try clear hfz16_1
    try clear hfz16_2
    try clear hfz16_3
    try clear hfz17_0
    try clear hfz17_1
    try clear hfz17_2
    try clear hfz17_3
    obtain ⟨kq, x29_5, rfl, HA, HJ5, BK322, BK323, BK324, HB⟩ := hcut
    cases kq with
    | zero => exact absurd HA.out (by simp [weirkeeperlaw09_NoteBoth.j0])
    | succ kj5 =>
      have H := HA.out
      clear HA
      simp only [weirkeeperlaw09_NoteBoth.j0] at H
      by_cases c22 : x29_5 = true
      · subst c22
        have H1 : ((weirkeeperlaw09_awake.f kj5).bind fun t329 => (some t329)) = some true := by rw [if_pos rfl] at H; exact H
        clear H
        have H := H1
        clear H1
        replace H := Option.bind_eq_some_iff.mp H
        obtain ⟨t329, A230, H⟩ := H
        replace H : (some t329) = some true := H
        have A23 := Aside0.mk A230
        clear A230
        (have H9_ := Option.some.inj H; first | subst H9_ | clear H9_)
        go_wp2_with (first | ((with_reducible refine gate_callee (f := 29) rfl ?_); refine goesL_ (some 30) rfl rfl Try.func29 (by kernel_rfl) rfl #[] rfl (by (try simp only [List.map_toArray, List.map_cons, List.map_nil]); first | done | rfl | (simp only [List.length_drop, List.length_take]; rfl)) ?_; (with_reducible refine (weirkeeperlaw09_awake.calls kj5 _ A23.out).mono ?_); rintro e w24 ⟨rfl, hb⟩; refine ⟨_, rfl, ?_⟩; have n0_ := Aside0.mk (blk_below (g := gb322) (o := .cells #[.int .i64 a2_0, .string a2_1, .string a2_2, .int .u64 a2_3] 55 (0, 0)) (by (with_reducible repeat (first | refine blk_drewN ?_ _ | refine blk_drew ?_ | refine blk_alloc ?_ _)); exact BK322.out) hb); have n1_ := Aside0.mk (blk_below (g := gb323) (o := .cells #[.int .i64 a3_0, .string a3_1, .string a3_2, .int .u64 a3_3] 55 (0, 0)) (by (with_reducible repeat (first | refine blk_drewN ?_ _ | refine blk_drew ?_ | refine blk_alloc ?_ _)); exact BK323.out) hb); have n2_ := Aside0.mk (blk_below (g := gb324) (o := .cells #[.int .i64 a4_0, .string a4_1, .string a4_2, .int .u64 a4_3] 55 (0, 0)) (by (with_reducible repeat (first | refine blk_drewN ?_ _ | refine blk_drew ?_ | refine blk_alloc ?_ _)); exact BK324.out) hb); have n3_ := Aside0.mk (below_step (by repeat (first | (with_reducible first | exact HB.out | apply below_alloc | apply pw_below_drewN | apply below_drew1 | refine below_set ?_ GE322.out | refine below_set ?_ GE323.out | refine below_set ?_ GE324.out) | exact HB.out)) hb); clear BK322; clear BK323; clear BK324; clear HB; have BK322 := n0_; have BK323 := n1_; have BK324 := n2_; have HB := n3_; clear n0_ n1_ n2_ n3_; (try clear hb); (try clear hb2); (try clear hk); (try clear hi)))
        go_ret
        exact ⟨by first | rfl | (simp [errW_none, errW_some] <;> rfl) | (simp [*, errW_none, errW_some] <;> rfl), by repeat (first | (with_reducible first | exact HB.out | apply below_alloc | apply pw_below_drewN | apply below_drew1 | refine below_set ?_ GE322.out | refine below_set ?_ GE323.out | refine below_set ?_ GE324.out) | exact HB.out)⟩
      · replace c22 := Bool.eq_false_iff.mpr c22
        subst c22
        have H1 : ((note_Done.f kj5 a0 a1 (([(⟨a2_0, a2_1, a2_2, a2_3⟩ : S55), (⟨a3_0, a3_1, a3_2, a3_3⟩ : S55)] : List (S55)))).bind fun bt333 => ((note_Both.f kj5 a2_0 a2_1 a2_2 a2_3 a3_0 a3_1 a3_2 a3_3).bind fun bt335 => ((note_Done.f kj5 a0 a1 (([(⟨bt335.1, bt335.2.1, bt335.2.2.1, bt335.2.2.2⟩ : S55)] : List (S55)))).bind fun bt342 => ((note_Both.f kj5 a2_0 a2_1 a2_2 a2_3 a3_0 a3_1 a3_2 a3_3).bind fun bt344 => ((note_Both.f kj5 bt344.1 bt344.2.1 bt344.2.2.1 bt344.2.2.2 a4_0 a4_1 a4_2 a4_3).bind fun bt348 => ((note_Done.f kj5 a0 a1 (([(⟨bt348.1, bt348.2.1, bt348.2.2.1, bt348.2.2.2⟩ : S55)] : List (S55)))).bind fun bt355 => ((note_Both.f kj5 a3_0 a3_1 a3_2 a3_3 a4_0 a4_1 a4_2 a4_3).bind fun bt357 => ((note_Both.f kj5 a2_0 a2_1 a2_2 a2_3 bt357.1 bt357.2.1 bt357.2.2.1 bt357.2.2.2).bind fun bt361 => ((note_Done.f kj5 a0 a1 (([(⟨bt361.1, bt361.2.1, bt361.2.2.1, bt361.2.2.2⟩ : S55)] : List (S55)))).bind fun bt368 => ((note_Right.f kj5 a2_0 a2_1 a2_2 a2_3).bind fun t370 => (if t370 = true then ((note_Right.f kj5 a3_0 a3_1 a3_2 a3_3).bind fun t371 => (if t371 = true then ((note_Both.f kj5 a2_0 a2_1 a2_2 a2_3 a3_0 a3_1 a3_2 a3_3).bind fun bt372 => ((note_Right.f kj5 bt372.1 bt372.2.1 bt372.2.2.1 bt372.2.2.2).bind fun t376 => (weirkeeperlaw09_NoteBoth.j1 kj5 bt333.1 bt333.2 bt342.1 bt342.2 bt355.1 bt355.2 bt368.1 bt368.2 (!t376) a2_0 a2_1 a2_2 a2_3 a3_0 a3_1 a3_2 a3_3))) else (weirkeeperlaw09_NoteBoth.j1 kj5 bt333.1 bt333.2 bt342.1 bt342.2 bt355.1 bt355.2 bt368.1 bt368.2 false a2_0 a2_1 a2_2 a2_3 a3_0 a3_1 a3_2 a3_3))) else (weirkeeperlaw09_NoteBoth.j1 kj5 bt333.1 bt333.2 bt342.1 bt342.2 bt355.1 bt355.2 bt368.1 bt368.2 false a2_0 a2_1 a2_2 a2_3 a3_0 a3_1 a3_2 a3_3)))))))))))) = some true := by rw [if_neg (show ¬ (false = true) by decide)] at H; exact H
        clear H
        have H := H1
        clear H1
        obtain ⟨y330, hy330⟩ : ∃ y_ : List (S55), y_ = (([(⟨a2_0, a2_1, a2_2, a2_3⟩ : S55), (⟨a3_0, a3_1, a3_2, a3_3⟩ : S55)] : List (S55))) := ⟨_, rfl⟩
        replace H : ((note_Done.f kj5 a0 a1 y330).bind fun bt333 => ((note_Both.f kj5 a2_0 a2_1 a2_2 a2_3 a3_0 a3_1 a3_2 a3_3).bind fun bt335 => ((note_Done.f kj5 a0 a1 (([(⟨bt335.1, bt335.2.1, bt335.2.2.1, bt335.2.2.2⟩ : S55)] : List (S55)))).bind fun bt342 => ((note_Both.f kj5 a2_0 a2_1 a2_2 a2_3 a3_0 a3_1 a3_2 a3_3).bind fun bt344 => ((note_Both.f kj5 bt344.1 bt344.2.1 bt344.2.2.1 bt344.2.2.2 a4_0 a4_1 a4_2 a4_3).bind fun bt348 => ((note_Done.f kj5 a0 a1 (([(⟨bt348.1, bt348.2.1, bt348.2.2.1, bt348.2.2.2⟩ : S55)] : List (S55)))).bind fun bt355 => ((note_Both.f kj5 a3_0 a3_1 a3_2 a3_3 a4_0 a4_1 a4_2 a4_3).bind fun bt357 => ((note_Both.f kj5 a2_0 a2_1 a2_2 a2_3 bt357.1 bt357.2.1 bt357.2.2.1 bt357.2.2.2).bind fun bt361 => ((note_Done.f kj5 a0 a1 (([(⟨bt361.1, bt361.2.1, bt361.2.2.1, bt361.2.2.2⟩ : S55)] : List (S55)))).bind fun bt368 => ((note_Right.f kj5 a2_0 a2_1 a2_2 a2_3).bind fun t370 => (if t370 = true then ((note_Right.f kj5 a3_0 a3_1 a3_2 a3_3).bind fun t371 => (if t371 = true then ((note_Both.f kj5 a2_0 a2_1 a2_2 a2_3 a3_0 a3_1 a3_2 a3_3).bind fun bt372 => ((note_Right.f kj5 bt372.1 bt372.2.1 bt372.2.2.1 bt372.2.2.2).bind fun t376 => (weirkeeperlaw09_NoteBoth.j1 kj5 bt333.1 bt333.2 bt342.1 bt342.2 bt355.1 bt355.2 bt368.1 bt368.2 (!t376) a2_0 a2_1 a2_2 a2_3 a3_0 a3_1 a3_2 a3_3))) else (weirkeeperlaw09_NoteBoth.j1 kj5 bt333.1 bt333.2 bt342.1 bt342.2 bt355.1 bt355.2 bt368.1 bt368.2 false a2_0 a2_1 a2_2 a2_3 a3_0 a3_1 a3_2 a3_3))) else (weirkeeperlaw09_NoteBoth.j1 kj5 bt333.1 bt333.2 bt342.1 bt342.2 bt355.1 bt355.2 bt368.1 bt368.2 false a2_0 a2_1 a2_2 a2_3 a3_0 a3_1 a3_2 a3_3)))))))))))) = some true := by first | (rw [hy330]; with_reducible exact H) | (have H2_ := (Option.bind_some _ _).symm.trans H; rw [hy330]; with_reducible exact H2_) | (have H2_ := (Option.bind_some _ _).symm.trans H; with_reducible exact H2_) | with_reducible exact H | (rw [hy330]; exact H) | exact H
        have Ny330 := Aside0.mk hy330
        clear hy330
        replace H := Option.bind_eq_some_iff.mp H
        obtain ⟨⟨t333, t334⟩, A250, H⟩ := H
        replace H : ((note_Both.f kj5 a2_0 a2_1 a2_2 a2_3 a3_0 a3_1 a3_2 a3_3).bind fun bt335 => ((note_Done.f kj5 a0 a1 (([(⟨bt335.1, bt335.2.1, bt335.2.2.1, bt335.2.2.2⟩ : S55)] : List (S55)))).bind fun bt342 => ((note_Both.f kj5 a2_0 a2_1 a2_2 a2_3 a3_0 a3_1 a3_2 a3_3).bind fun bt344 => ((note_Both.f kj5 bt344.1 bt344.2.1 bt344.2.2.1 bt344.2.2.2 a4_0 a4_1 a4_2 a4_3).bind fun bt348 => ((note_Done.f kj5 a0 a1 (([(⟨bt348.1, bt348.2.1, bt348.2.2.1, bt348.2.2.2⟩ : S55)] : List (S55)))).bind fun bt355 => ((note_Both.f kj5 a3_0 a3_1 a3_2 a3_3 a4_0 a4_1 a4_2 a4_3).bind fun bt357 => ((note_Both.f kj5 a2_0 a2_1 a2_2 a2_3 bt357.1 bt357.2.1 bt357.2.2.1 bt357.2.2.2).bind fun bt361 => ((note_Done.f kj5 a0 a1 (([(⟨bt361.1, bt361.2.1, bt361.2.2.1, bt361.2.2.2⟩ : S55)] : List (S55)))).bind fun bt368 => ((note_Right.f kj5 a2_0 a2_1 a2_2 a2_3).bind fun t370 => (if t370 = true then ((note_Right.f kj5 a3_0 a3_1 a3_2 a3_3).bind fun t371 => (if t371 = true then ((note_Both.f kj5 a2_0 a2_1 a2_2 a2_3 a3_0 a3_1 a3_2 a3_3).bind fun bt372 => ((note_Right.f kj5 bt372.1 bt372.2.1 bt372.2.2.1 bt372.2.2.2).bind fun t376 => (weirkeeperlaw09_NoteBoth.j1 kj5 t333 t334 bt342.1 bt342.2 bt355.1 bt355.2 bt368.1 bt368.2 (!t376) a2_0 a2_1 a2_2 a2_3 a3_0 a3_1 a3_2 a3_3))) else (weirkeeperlaw09_NoteBoth.j1 kj5 t333 t334 bt342.1 bt342.2 bt355.1 bt355.2 bt368.1 bt368.2 false a2_0 a2_1 a2_2 a2_3 a3_0 a3_1 a3_2 a3_3))) else (weirkeeperlaw09_NoteBoth.j1 kj5 t333 t334 bt342.1 bt342.2 bt355.1 bt355.2 bt368.1 bt368.2 false a2_0 a2_1 a2_2 a2_3 a3_0 a3_1 a3_2 a3_3))))))))))) = some true := H
        have A25 := Aside0.mk A250
        clear A250
        replace H := Option.bind_eq_some_iff.mp H
        obtain ⟨⟨t335, t336, t337, t338⟩, A260, H⟩ := H
        replace H : ((note_Done.f kj5 a0 a1 (([(⟨t335, t336, t337, t338⟩ : S55)] : List (S55)))).bind fun bt342 => ((note_Both.f kj5 a2_0 a2_1 a2_2 a2_3 a3_0 a3_1 a3_2 a3_3).bind fun bt344 => ((note_Both.f kj5 bt344.1 bt344.2.1 bt344.2.2.1 bt344.2.2.2 a4_0 a4_1 a4_2 a4_3).bind fun bt348 => ((note_Done.f kj5 a0 a1 (([(⟨bt348.1, bt348.2.1, bt348.2.2.1, bt348.2.2.2⟩ : S55)] : List (S55)))).bind fun bt355 => ((note_Both.f kj5 a3_0 a3_1 a3_2 a3_3 a4_0 a4_1 a4_2 a4_3).bind fun bt357 => ((note_Both.f kj5 a2_0 a2_1 a2_2 a2_3 bt357.1 bt357.2.1 bt357.2.2.1 bt357.2.2.2).bind fun bt361 => ((note_Done.f kj5 a0 a1 (([(⟨bt361.1, bt361.2.1, bt361.2.2.1, bt361.2.2.2⟩ : S55)] : List (S55)))).bind fun bt368 => ((note_Right.f kj5 a2_0 a2_1 a2_2 a2_3).bind fun t370 => (if t370 = true then ((note_Right.f kj5 a3_0 a3_1 a3_2 a3_3).bind fun t371 => (if t371 = true then ((note_Both.f kj5 a2_0 a2_1 a2_2 a2_3 a3_0 a3_1 a3_2 a3_3).bind fun bt372 => ((note_Right.f kj5 bt372.1 bt372.2.1 bt372.2.2.1 bt372.2.2.2).bind fun t376 => (weirkeeperlaw09_NoteBoth.j1 kj5 t333 t334 bt342.1 bt342.2 bt355.1 bt355.2 bt368.1 bt368.2 (!t376) a2_0 a2_1 a2_2 a2_3 a3_0 a3_1 a3_2 a3_3))) else (weirkeeperlaw09_NoteBoth.j1 kj5 t333 t334 bt342.1 bt342.2 bt355.1 bt355.2 bt368.1 bt368.2 false a2_0 a2_1 a2_2 a2_3 a3_0 a3_1 a3_2 a3_3))) else (weirkeeperlaw09_NoteBoth.j1 kj5 t333 t334 bt342.1 bt342.2 bt355.1 bt355.2 bt368.1 bt368.2 false a2_0 a2_1 a2_2 a2_3 a3_0 a3_1 a3_2 a3_3)))))))))) = some true := H
        have A26 := Aside0.mk A260
        clear A260
        obtain ⟨y339, hy339⟩ : ∃ y_ : List (S55), y_ = (([(⟨t335, t336, t337, t338⟩ : S55)] : List (S55))) := ⟨_, rfl⟩
        replace H : ((note_Done.f kj5 a0 a1 y339).bind fun bt342 => ((note_Both.f kj5 a2_0 a2_1 a2_2 a2_3 a3_0 a3_1 a3_2 a3_3).bind fun bt344 => ((note_Both.f kj5 bt344.1 bt344.2.1 bt344.2.2.1 bt344.2.2.2 a4_0 a4_1 a4_2 a4_3).bind fun bt348 => ((note_Done.f kj5 a0 a1 (([(⟨bt348.1, bt348.2.1, bt348.2.2.1, bt348.2.2.2⟩ : S55)] : List (S55)))).bind fun bt355 => ((note_Both.f kj5 a3_0 a3_1 a3_2 a3_3 a4_0 a4_1 a4_2 a4_3).bind fun bt357 => ((note_Both.f kj5 a2_0 a2_1 a2_2 a2_3 bt357.1 bt357.2.1 bt357.2.2.1 bt357.2.2.2).bind fun bt361 => ((note_Done.f kj5 a0 a1 (([(⟨bt361.1, bt361.2.1, bt361.2.2.1, bt361.2.2.2⟩ : S55)] : List (S55)))).bind fun bt368 => ((note_Right.f kj5 a2_0 a2_1 a2_2 a2_3).bind fun t370 => (if t370 = true then ((note_Right.f kj5 a3_0 a3_1 a3_2 a3_3).bind fun t371 => (if t371 = true then ((note_Both.f kj5 a2_0 a2_1 a2_2 a2_3 a3_0 a3_1 a3_2 a3_3).bind fun bt372 => ((note_Right.f kj5 bt372.1 bt372.2.1 bt372.2.2.1 bt372.2.2.2).bind fun t376 => (weirkeeperlaw09_NoteBoth.j1 kj5 t333 t334 bt342.1 bt342.2 bt355.1 bt355.2 bt368.1 bt368.2 (!t376) a2_0 a2_1 a2_2 a2_3 a3_0 a3_1 a3_2 a3_3))) else (weirkeeperlaw09_NoteBoth.j1 kj5 t333 t334 bt342.1 bt342.2 bt355.1 bt355.2 bt368.1 bt368.2 false a2_0 a2_1 a2_2 a2_3 a3_0 a3_1 a3_2 a3_3))) else (weirkeeperlaw09_NoteBoth.j1 kj5 t333 t334 bt342.1 bt342.2 bt355.1 bt355.2 bt368.1 bt368.2 false a2_0 a2_1 a2_2 a2_3 a3_0 a3_1 a3_2 a3_3)))))))))) = some true := by first | (rw [hy339]; with_reducible exact H) | (have H2_ := (Option.bind_some _ _).symm.trans H; rw [hy339]; with_reducible exact H2_) | (have H2_ := (Option.bind_some _ _).symm.trans H; with_reducible exact H2_) | with_reducible exact H | (rw [hy339]; exact H) | exact H
        have Ny339 := Aside0.mk hy339
        clear hy339
        replace H := Option.bind_eq_some_iff.mp H
        obtain ⟨⟨t342, t343⟩, A270, H⟩ := H
        replace H : ((note_Both.f kj5 a2_0 a2_1 a2_2 a2_3 a3_0 a3_1 a3_2 a3_3).bind fun bt344 => ((note_Both.f kj5 bt344.1 bt344.2.1 bt344.2.2.1 bt344.2.2.2 a4_0 a4_1 a4_2 a4_3).bind fun bt348 => ((note_Done.f kj5 a0 a1 (([(⟨bt348.1, bt348.2.1, bt348.2.2.1, bt348.2.2.2⟩ : S55)] : List (S55)))).bind fun bt355 => ((note_Both.f kj5 a3_0 a3_1 a3_2 a3_3 a4_0 a4_1 a4_2 a4_3).bind fun bt357 => ((note_Both.f kj5 a2_0 a2_1 a2_2 a2_3 bt357.1 bt357.2.1 bt357.2.2.1 bt357.2.2.2).bind fun bt361 => ((note_Done.f kj5 a0 a1 (([(⟨bt361.1, bt361.2.1, bt361.2.2.1, bt361.2.2.2⟩ : S55)] : List (S55)))).bind fun bt368 => ((note_Right.f kj5 a2_0 a2_1 a2_2 a2_3).bind fun t370 => (if t370 = true then ((note_Right.f kj5 a3_0 a3_1 a3_2 a3_3).bind fun t371 => (if t371 = true then ((note_Both.f kj5 a2_0 a2_1 a2_2 a2_3 a3_0 a3_1 a3_2 a3_3).bind fun bt372 => ((note_Right.f kj5 bt372.1 bt372.2.1 bt372.2.2.1 bt372.2.2.2).bind fun t376 => (weirkeeperlaw09_NoteBoth.j1 kj5 t333 t334 t342 t343 bt355.1 bt355.2 bt368.1 bt368.2 (!t376) a2_0 a2_1 a2_2 a2_3 a3_0 a3_1 a3_2 a3_3))) else (weirkeeperlaw09_NoteBoth.j1 kj5 t333 t334 t342 t343 bt355.1 bt355.2 bt368.1 bt368.2 false a2_0 a2_1 a2_2 a2_3 a3_0 a3_1 a3_2 a3_3))) else (weirkeeperlaw09_NoteBoth.j1 kj5 t333 t334 t342 t343 bt355.1 bt355.2 bt368.1 bt368.2 false a2_0 a2_1 a2_2 a2_3 a3_0 a3_1 a3_2 a3_3))))))))) = some true := H
        have A27 := Aside0.mk A270
        clear A270
        replace H := Option.bind_eq_some_iff.mp H
        obtain ⟨⟨t344, t345, t346, t347⟩, A280, H⟩ := H
        replace H : ((note_Both.f kj5 t344 t345 t346 t347 a4_0 a4_1 a4_2 a4_3).bind fun bt348 => ((note_Done.f kj5 a0 a1 (([(⟨bt348.1, bt348.2.1, bt348.2.2.1, bt348.2.2.2⟩ : S55)] : List (S55)))).bind fun bt355 => ((note_Both.f kj5 a3_0 a3_1 a3_2 a3_3 a4_0 a4_1 a4_2 a4_3).bind fun bt357 => ((note_Both.f kj5 a2_0 a2_1 a2_2 a2_3 bt357.1 bt357.2.1 bt357.2.2.1 bt357.2.2.2).bind fun bt361 => ((note_Done.f kj5 a0 a1 (([(⟨bt361.1, bt361.2.1, bt361.2.2.1, bt361.2.2.2⟩ : S55)] : List (S55)))).bind fun bt368 => ((note_Right.f kj5 a2_0 a2_1 a2_2 a2_3).bind fun t370 => (if t370 = true then ((note_Right.f kj5 a3_0 a3_1 a3_2 a3_3).bind fun t371 => (if t371 = true then ((note_Both.f kj5 a2_0 a2_1 a2_2 a2_3 a3_0 a3_1 a3_2 a3_3).bind fun bt372 => ((note_Right.f kj5 bt372.1 bt372.2.1 bt372.2.2.1 bt372.2.2.2).bind fun t376 => (weirkeeperlaw09_NoteBoth.j1 kj5 t333 t334 t342 t343 bt355.1 bt355.2 bt368.1 bt368.2 (!t376) a2_0 a2_1 a2_2 a2_3 a3_0 a3_1 a3_2 a3_3))) else (weirkeeperlaw09_NoteBoth.j1 kj5 t333 t334 t342 t343 bt355.1 bt355.2 bt368.1 bt368.2 false a2_0 a2_1 a2_2 a2_3 a3_0 a3_1 a3_2 a3_3))) else (weirkeeperlaw09_NoteBoth.j1 kj5 t333 t334 t342 t343 bt355.1 bt355.2 bt368.1 bt368.2 false a2_0 a2_1 a2_2 a2_3 a3_0 a3_1 a3_2 a3_3)))))))) = some true := H
        have A28 := Aside0.mk A280
        clear A280
        replace H := Option.bind_eq_some_iff.mp H
        obtain ⟨⟨t348, t349, t350, t351⟩, A290, H⟩ := H
        replace H : ((note_Done.f kj5 a0 a1 (([(⟨t348, t349, t350, t351⟩ : S55)] : List (S55)))).bind fun bt355 => ((note_Both.f kj5 a3_0 a3_1 a3_2 a3_3 a4_0 a4_1 a4_2 a4_3).bind fun bt357 => ((note_Both.f kj5 a2_0 a2_1 a2_2 a2_3 bt357.1 bt357.2.1 bt357.2.2.1 bt357.2.2.2).bind fun bt361 => ((note_Done.f kj5 a0 a1 (([(⟨bt361.1, bt361.2.1, bt361.2.2.1, bt361.2.2.2⟩ : S55)] : List (S55)))).bind fun bt368 => ((note_Right.f kj5 a2_0 a2_1 a2_2 a2_3).bind fun t370 => (if t370 = true then ((note_Right.f kj5 a3_0 a3_1 a3_2 a3_3).bind fun t371 => (if t371 = true then ((note_Both.f kj5 a2_0 a2_1 a2_2 a2_3 a3_0 a3_1 a3_2 a3_3).bind fun bt372 => ((note_Right.f kj5 bt372.1 bt372.2.1 bt372.2.2.1 bt372.2.2.2).bind fun t376 => (weirkeeperlaw09_NoteBoth.j1 kj5 t333 t334 t342 t343 bt355.1 bt355.2 bt368.1 bt368.2 (!t376) a2_0 a2_1 a2_2 a2_3 a3_0 a3_1 a3_2 a3_3))) else (weirkeeperlaw09_NoteBoth.j1 kj5 t333 t334 t342 t343 bt355.1 bt355.2 bt368.1 bt368.2 false a2_0 a2_1 a2_2 a2_3 a3_0 a3_1 a3_2 a3_3))) else (weirkeeperlaw09_NoteBoth.j1 kj5 t333 t334 t342 t343 bt355.1 bt355.2 bt368.1 bt368.2 false a2_0 a2_1 a2_2 a2_3 a3_0 a3_1 a3_2 a3_3))))))) = some true := H
        have A29 := Aside0.mk A290
        clear A290
        obtain ⟨y352, hy352⟩ : ∃ y_ : List (S55), y_ = (([(⟨t348, t349, t350, t351⟩ : S55)] : List (S55))) := ⟨_, rfl⟩
        replace H : ((note_Done.f kj5 a0 a1 y352).bind fun bt355 => ((note_Both.f kj5 a3_0 a3_1 a3_2 a3_3 a4_0 a4_1 a4_2 a4_3).bind fun bt357 => ((note_Both.f kj5 a2_0 a2_1 a2_2 a2_3 bt357.1 bt357.2.1 bt357.2.2.1 bt357.2.2.2).bind fun bt361 => ((note_Done.f kj5 a0 a1 (([(⟨bt361.1, bt361.2.1, bt361.2.2.1, bt361.2.2.2⟩ : S55)] : List (S55)))).bind fun bt368 => ((note_Right.f kj5 a2_0 a2_1 a2_2 a2_3).bind fun t370 => (if t370 = true then ((note_Right.f kj5 a3_0 a3_1 a3_2 a3_3).bind fun t371 => (if t371 = true then ((note_Both.f kj5 a2_0 a2_1 a2_2 a2_3 a3_0 a3_1 a3_2 a3_3).bind fun bt372 => ((note_Right.f kj5 bt372.1 bt372.2.1 bt372.2.2.1 bt372.2.2.2).bind fun t376 => (weirkeeperlaw09_NoteBoth.j1 kj5 t333 t334 t342 t343 bt355.1 bt355.2 bt368.1 bt368.2 (!t376) a2_0 a2_1 a2_2 a2_3 a3_0 a3_1 a3_2 a3_3))) else (weirkeeperlaw09_NoteBoth.j1 kj5 t333 t334 t342 t343 bt355.1 bt355.2 bt368.1 bt368.2 false a2_0 a2_1 a2_2 a2_3 a3_0 a3_1 a3_2 a3_3))) else (weirkeeperlaw09_NoteBoth.j1 kj5 t333 t334 t342 t343 bt355.1 bt355.2 bt368.1 bt368.2 false a2_0 a2_1 a2_2 a2_3 a3_0 a3_1 a3_2 a3_3))))))) = some true := by first | (rw [hy352]; with_reducible exact H) | (have H2_ := (Option.bind_some _ _).symm.trans H; rw [hy352]; with_reducible exact H2_) | (have H2_ := (Option.bind_some _ _).symm.trans H; with_reducible exact H2_) | with_reducible exact H | (rw [hy352]; exact H) | exact H
        have Ny352 := Aside0.mk hy352
        clear hy352
        replace H := Option.bind_eq_some_iff.mp H
        obtain ⟨⟨t355, t356⟩, A300, H⟩ := H
        replace H : ((note_Both.f kj5 a3_0 a3_1 a3_2 a3_3 a4_0 a4_1 a4_2 a4_3).bind fun bt357 => ((note_Both.f kj5 a2_0 a2_1 a2_2 a2_3 bt357.1 bt357.2.1 bt357.2.2.1 bt357.2.2.2).bind fun bt361 => ((note_Done.f kj5 a0 a1 (([(⟨bt361.1, bt361.2.1, bt361.2.2.1, bt361.2.2.2⟩ : S55)] : List (S55)))).bind fun bt368 => ((note_Right.f kj5 a2_0 a2_1 a2_2 a2_3).bind fun t370 => (if t370 = true then ((note_Right.f kj5 a3_0 a3_1 a3_2 a3_3).bind fun t371 => (if t371 = true then ((note_Both.f kj5 a2_0 a2_1 a2_2 a2_3 a3_0 a3_1 a3_2 a3_3).bind fun bt372 => ((note_Right.f kj5 bt372.1 bt372.2.1 bt372.2.2.1 bt372.2.2.2).bind fun t376 => (weirkeeperlaw09_NoteBoth.j1 kj5 t333 t334 t342 t343 t355 t356 bt368.1 bt368.2 (!t376) a2_0 a2_1 a2_2 a2_3 a3_0 a3_1 a3_2 a3_3))) else (weirkeeperlaw09_NoteBoth.j1 kj5 t333 t334 t342 t343 t355 t356 bt368.1 bt368.2 false a2_0 a2_1 a2_2 a2_3 a3_0 a3_1 a3_2 a3_3))) else (weirkeeperlaw09_NoteBoth.j1 kj5 t333 t334 t342 t343 t355 t356 bt368.1 bt368.2 false a2_0 a2_1 a2_2 a2_3 a3_0 a3_1 a3_2 a3_3)))))) = some true := H
        have A30 := Aside0.mk A300
        clear A300
        replace H := Option.bind_eq_some_iff.mp H
        obtain ⟨⟨t357, t358, t359, t360⟩, A310, H⟩ := H
        replace H : ((note_Both.f kj5 a2_0 a2_1 a2_2 a2_3 t357 t358 t359 t360).bind fun bt361 => ((note_Done.f kj5 a0 a1 (([(⟨bt361.1, bt361.2.1, bt361.2.2.1, bt361.2.2.2⟩ : S55)] : List (S55)))).bind fun bt368 => ((note_Right.f kj5 a2_0 a2_1 a2_2 a2_3).bind fun t370 => (if t370 = true then ((note_Right.f kj5 a3_0 a3_1 a3_2 a3_3).bind fun t371 => (if t371 = true then ((note_Both.f kj5 a2_0 a2_1 a2_2 a2_3 a3_0 a3_1 a3_2 a3_3).bind fun bt372 => ((note_Right.f kj5 bt372.1 bt372.2.1 bt372.2.2.1 bt372.2.2.2).bind fun t376 => (weirkeeperlaw09_NoteBoth.j1 kj5 t333 t334 t342 t343 t355 t356 bt368.1 bt368.2 (!t376) a2_0 a2_1 a2_2 a2_3 a3_0 a3_1 a3_2 a3_3))) else (weirkeeperlaw09_NoteBoth.j1 kj5 t333 t334 t342 t343 t355 t356 bt368.1 bt368.2 false a2_0 a2_1 a2_2 a2_3 a3_0 a3_1 a3_2 a3_3))) else (weirkeeperlaw09_NoteBoth.j1 kj5 t333 t334 t342 t343 t355 t356 bt368.1 bt368.2 false a2_0 a2_1 a2_2 a2_3 a3_0 a3_1 a3_2 a3_3))))) = some true := H
        have A31 := Aside0.mk A310
        clear A310
        replace H := Option.bind_eq_some_iff.mp H
        obtain ⟨⟨t361, t362, t363, t364⟩, A320, H⟩ := H
        replace H : ((note_Done.f kj5 a0 a1 (([(⟨t361, t362, t363, t364⟩ : S55)] : List (S55)))).bind fun bt368 => ((note_Right.f kj5 a2_0 a2_1 a2_2 a2_3).bind fun t370 => (if t370 = true then ((note_Right.f kj5 a3_0 a3_1 a3_2 a3_3).bind fun t371 => (if t371 = true then ((note_Both.f kj5 a2_0 a2_1 a2_2 a2_3 a3_0 a3_1 a3_2 a3_3).bind fun bt372 => ((note_Right.f kj5 bt372.1 bt372.2.1 bt372.2.2.1 bt372.2.2.2).bind fun t376 => (weirkeeperlaw09_NoteBoth.j1 kj5 t333 t334 t342 t343 t355 t356 bt368.1 bt368.2 (!t376) a2_0 a2_1 a2_2 a2_3 a3_0 a3_1 a3_2 a3_3))) else (weirkeeperlaw09_NoteBoth.j1 kj5 t333 t334 t342 t343 t355 t356 bt368.1 bt368.2 false a2_0 a2_1 a2_2 a2_3 a3_0 a3_1 a3_2 a3_3))) else (weirkeeperlaw09_NoteBoth.j1 kj5 t333 t334 t342 t343 t355 t356 bt368.1 bt368.2 false a2_0 a2_1 a2_2 a2_3 a3_0 a3_1 a3_2 a3_3)))) = some true := H
        have A32 := Aside0.mk A320
        clear A320
        obtain ⟨y365, hy365⟩ : ∃ y_ : List (S55), y_ = (([(⟨t361, t362, t363, t364⟩ : S55)] : List (S55))) := ⟨_, rfl⟩
        replace H : ((note_Done.f kj5 a0 a1 y365).bind fun bt368 => ((note_Right.f kj5 a2_0 a2_1 a2_2 a2_3).bind fun t370 => (if t370 = true then ((note_Right.f kj5 a3_0 a3_1 a3_2 a3_3).bind fun t371 => (if t371 = true then ((note_Both.f kj5 a2_0 a2_1 a2_2 a2_3 a3_0 a3_1 a3_2 a3_3).bind fun bt372 => ((note_Right.f kj5 bt372.1 bt372.2.1 bt372.2.2.1 bt372.2.2.2).bind fun t376 => (weirkeeperlaw09_NoteBoth.j1 kj5 t333 t334 t342 t343 t355 t356 bt368.1 bt368.2 (!t376) a2_0 a2_1 a2_2 a2_3 a3_0 a3_1 a3_2 a3_3))) else (weirkeeperlaw09_NoteBoth.j1 kj5 t333 t334 t342 t343 t355 t356 bt368.1 bt368.2 false a2_0 a2_1 a2_2 a2_3 a3_0 a3_1 a3_2 a3_3))) else (weirkeeperlaw09_NoteBoth.j1 kj5 t333 t334 t342 t343 t355 t356 bt368.1 bt368.2 false a2_0 a2_1 a2_2 a2_3 a3_0 a3_1 a3_2 a3_3)))) = some true := by first | (rw [hy365]; with_reducible exact H) | (have H2_ := (Option.bind_some _ _).symm.trans H; rw [hy365]; with_reducible exact H2_) | (have H2_ := (Option.bind_some _ _).symm.trans H; with_reducible exact H2_) | with_reducible exact H | (rw [hy365]; exact H) | exact H
        have Ny365 := Aside0.mk hy365
        clear hy365
        replace H := Option.bind_eq_some_iff.mp H
        obtain ⟨⟨t368, t369⟩, A330, H⟩ := H
        replace H : ((note_Right.f kj5 a2_0 a2_1 a2_2 a2_3).bind fun t370 => (if t370 = true then ((note_Right.f kj5 a3_0 a3_1 a3_2 a3_3).bind fun t371 => (if t371 = true then ((note_Both.f kj5 a2_0 a2_1 a2_2 a2_3 a3_0 a3_1 a3_2 a3_3).bind fun bt372 => ((note_Right.f kj5 bt372.1 bt372.2.1 bt372.2.2.1 bt372.2.2.2).bind fun t376 => (weirkeeperlaw09_NoteBoth.j1 kj5 t333 t334 t342 t343 t355 t356 t368 t369 (!t376) a2_0 a2_1 a2_2 a2_3 a3_0 a3_1 a3_2 a3_3))) else (weirkeeperlaw09_NoteBoth.j1 kj5 t333 t334 t342 t343 t355 t356 t368 t369 false a2_0 a2_1 a2_2 a2_3 a3_0 a3_1 a3_2 a3_3))) else (weirkeeperlaw09_NoteBoth.j1 kj5 t333 t334 t342 t343 t355 t356 t368 t369 false a2_0 a2_1 a2_2 a2_3 a3_0 a3_1 a3_2 a3_3))) = some true := H
        have A33 := Aside0.mk A330
        clear A330
        have HC34 := Aside0.mk H
        clear H
        have hnb35 := NB322_323.out
        have hnc35 := NB323_322.out
        have hnb36 := NB322_324.out
        have hnc36 := NB324_322.out
        have hcz37_0 : wc.cell? ⟨gb322, 0, none⟩ = some (.int .i64 a2_0) := (blk_cell BK322.out 0).trans rfl
        have hcz37_1 : wc.cell? ⟨gb322, 1, none⟩ = some (.string a2_1) := (blk_cell BK322.out 1).trans rfl
        have hcz37_2 : wc.cell? ⟨gb322, 2, none⟩ = some (.string a2_2) := (blk_cell BK322.out 2).trans rfl
        have hcz37_3 : wc.cell? ⟨gb322, 3, none⟩ = some (.int .u64 a2_3) := (blk_cell BK322.out 3).trans rfl
        have hfz37_0 := blk_frozen BK322.out 0
        have hfz37_1 := blk_frozen BK322.out 1
        have hfz37_2 := blk_frozen BK322.out 2
        have hfz37_3 := blk_frozen BK322.out 3
        have hnb38 := NB323_324.out
        have hnc38 := NB324_323.out
        have hcz39_0 : wc.cell? ⟨gb323, 0, none⟩ = some (.int .i64 a3_0) := (blk_cell BK323.out 0).trans rfl
        have hcz39_1 : wc.cell? ⟨gb323, 1, none⟩ = some (.string a3_1) := (blk_cell BK323.out 1).trans rfl
        have hcz39_2 : wc.cell? ⟨gb323, 2, none⟩ = some (.string a3_2) := (blk_cell BK323.out 2).trans rfl
        have hcz39_3 : wc.cell? ⟨gb323, 3, none⟩ = some (.int .u64 a3_3) := (blk_cell BK323.out 3).trans rfl
        have hfz39_0 := blk_frozen BK323.out 0
        have hfz39_1 := blk_frozen BK323.out 1
        have hfz39_2 := blk_frozen BK323.out 2
        have hfz39_3 := blk_frozen BK323.out 3
        try go_wp2_with (first | ((with_reducible refine gate_dst (N := 36) rfl ?_); (try (refine gate_guard (by rfl) ?_; dsimp only)); refine Kd.R_lit k55 _ 55 ?hg (N := 36) ?hd (xs := ([(⟨a2_0, a2_1, a2_2, a2_3⟩ : S55), (⟨a3_0, a3_1, a3_2, a3_3⟩ : S55)] : List (S55))) (inner := [.int .i64 a2_0, .string a2_1, .string a2_2, .int .u64 a2_3, .int .i64 a3_0, .string a3_1, .string a3_2, .int .u64 a3_3]) (ok := fun _ => True) (okp := fun _ => True) ?hr ?hp (fun _ hk => hk) trivial (Below.refl _ _) (Nat.le_refl _) (by simp) ?_; (case hd => rfl); (case hg => rfl); (case hr => first | (go_simp; done) | (go_simp; rfl)); (case hp => exact (Reps.c4 (show Kd.M k55 _ _ _ (⟨a2_0, a2_1, a2_2, a2_3⟩ : S55) [.int .i64 a2_0, .string a2_1, .string a2_2, .int .u64 a2_3] from (k55_mkM _ _ _ (⟨a2_0, a2_1, a2_2, a2_3⟩ : S55) )) (Reps.c4 (show Kd.M k55 _ _ _ (⟨a3_0, a3_1, a3_2, a3_3⟩ : S55) [.int .i64 a3_0, .string a3_1, .string a3_2, .int .u64 a3_3] from (k55_mkM _ _ _ (⟨a3_0, a3_1, a3_2, a3_3⟩ : S55) )) (Reps.none _ _)))); intro v331 w40 ho41 hb hg_ hnew_; clear hg_ hnew_; (first | rw [← Ny330.out] at ho41 | (simp only [Int.reduceToNat] at ho41; rw [← Ny330.out] at ho41)); have n0_ := Aside0.mk (Kd.R_lower (Kd.R_newB (Kd.R_newB (Kd.R_newB ho41 (g := gb322) (o := .cells #[.int .i64 a2_0, .string a2_1, .string a2_2, .int .u64 a2_3] 55 (0, 0)) (by (with_reducible repeat (first | refine blk_drewN ?_ _ | refine blk_drew ?_ | refine blk_alloc ?_ _)); exact BK322.out)) (g := gb323) (o := .cells #[.int .i64 a3_0, .string a3_1, .string a3_2, .int .u64 a3_3] 55 (0, 0)) (by (with_reducible repeat (first | refine blk_drewN ?_ _ | refine blk_drew ?_ | refine blk_alloc ?_ _)); exact BK323.out)) (g := gb324) (o := .cells #[.int .i64 a4_0, .string a4_1, .string a4_2, .int .u64 a4_3] 55 (0, 0)) (by (with_reducible repeat (first | refine blk_drewN ?_ _ | refine blk_drew ?_ | refine blk_alloc ?_ _)); exact BK324.out)) (below_size (by repeat (first | (with_reducible first | exact HB.out | apply below_alloc | apply pw_below_drewN | apply below_drew1 | refine below_set ?_ GE322.out | refine below_set ?_ GE323.out | refine below_set ?_ GE324.out) | exact HB.out)))); have n1_ := Aside0.mk (blk_below (g := gb322) (o := .cells #[.int .i64 a2_0, .string a2_1, .string a2_2, .int .u64 a2_3] 55 (0, 0)) (by (with_reducible repeat (first | refine blk_drewN ?_ _ | refine blk_drew ?_ | refine blk_alloc ?_ _)); exact BK322.out) hb); have n2_ := Aside0.mk (blk_below (g := gb323) (o := .cells #[.int .i64 a3_0, .string a3_1, .string a3_2, .int .u64 a3_3] 55 (0, 0)) (by (with_reducible repeat (first | refine blk_drewN ?_ _ | refine blk_drew ?_ | refine blk_alloc ?_ _)); exact BK323.out) hb); have n3_ := Aside0.mk (blk_below (g := gb324) (o := .cells #[.int .i64 a4_0, .string a4_1, .string a4_2, .int .u64 a4_3] 55 (0, 0)) (by (with_reducible repeat (first | refine blk_drewN ?_ _ | refine blk_drew ?_ | refine blk_alloc ?_ _)); exact BK324.out) hb); have n4_ := Aside0.mk (below_step (by repeat (first | (with_reducible first | exact HB.out | apply below_alloc | apply pw_below_drewN | apply below_drew1 | refine below_set ?_ GE322.out | refine below_set ?_ GE323.out | refine below_set ?_ GE324.out) | exact HB.out)) hb); clear BK322; clear BK323; clear BK324; clear HB; have HO332 := n0_; have BK322 := n1_; have BK323 := n2_; have BK324 := n3_; have HB := n4_; clear n0_ n1_ n2_ n3_ n4_; clear hb ho41; obtain ⟨Ao42, co42, eo42⟩ := Kd.R_slice HO332.out; subst eo42) | ((with_reducible refine gate_callee (f := 30) rfl ?_); refine goesL_ (some 37) rfl rfl Try.func30 (by kernel_rfl) rfl #[.string a0, .bool a1, .slice Ao42 y330.length co42] rfl (by (try simp only [List.map_toArray, List.map_cons, List.map_nil]); first | done | rfl | (simp only [List.length_drop, List.length_take]; rfl)) ?_; (with_reducible refine (note_Done.calls kj5 a0 a1 _ _ y330 t333 t334 _ ?side1 ?side2 A25.out).mono ?_); (case side1 => repeat (first | exact (Kd.R_reads' HO332.out).2.2 | (with_reducible refine Kd.C_alloc ?_ _) | (with_reducible refine Kd.C_drewN ?_ _) | (with_reducible refine Kd.C_drew ?_))); (case side2 => exact (Kd.R_reads' HO332.out).2.1); rintro e w43 ⟨rfl, hb⟩; refine ⟨_, rfl, ?_⟩; have n0_ := Aside0.mk (Kd.R_below (by (with_reducible repeat (first | apply Kd.R_alloc | apply Kd.R_drewN | apply Kd.R_drew)); exact HO332.out) hb); have n1_ := Aside0.mk (blk_below (g := gb322) (o := .cells #[.int .i64 a2_0, .string a2_1, .string a2_2, .int .u64 a2_3] 55 (0, 0)) (by (with_reducible repeat (first | refine blk_drewN ?_ _ | refine blk_drew ?_ | refine blk_alloc ?_ _)); exact BK322.out) hb); have n2_ := Aside0.mk (blk_below (g := gb323) (o := .cells #[.int .i64 a3_0, .string a3_1, .string a3_2, .int .u64 a3_3] 55 (0, 0)) (by (with_reducible repeat (first | refine blk_drewN ?_ _ | refine blk_drew ?_ | refine blk_alloc ?_ _)); exact BK323.out) hb); have n3_ := Aside0.mk (blk_below (g := gb324) (o := .cells #[.int .i64 a4_0, .string a4_1, .string a4_2, .int .u64 a4_3] 55 (0, 0)) (by (with_reducible repeat (first | refine blk_drewN ?_ _ | refine blk_drew ?_ | refine blk_alloc ?_ _)); exact BK324.out) hb); have n4_ := Aside0.mk (below_step (by repeat (first | (with_reducible first | exact HB.out | apply below_alloc | apply pw_below_drewN | apply below_drew1 | refine below_set ?_ GE322.out | refine below_set ?_ GE323.out | refine below_set ?_ GE324.out) | exact HB.out)) hb); clear HO332; clear BK322; clear BK323; clear BK324; clear HB; have HO332 := n0_; have BK322 := n1_; have BK323 := n2_; have BK324 := n3_; have HB := n4_; clear n0_ n1_ n2_ n3_ n4_; (try clear hb); (try clear hb2); (try clear hk); (try clear hi); have hcz44_0 : w43.cell? ⟨gb322, 0, none⟩ = some (.int .i64 a2_0) := (blk_cell BK322.out 0).trans rfl; have hcz44_1 : w43.cell? ⟨gb322, 1, none⟩ = some (.string a2_1) := (blk_cell BK322.out 1).trans rfl; have hcz44_2 : w43.cell? ⟨gb322, 2, none⟩ = some (.string a2_2) := (blk_cell BK322.out 2).trans rfl; have hcz44_3 : w43.cell? ⟨gb322, 3, none⟩ = some (.int .u64 a2_3) := (blk_cell BK322.out 3).trans rfl; have hfz44_0 := blk_frozen BK322.out 0; have hfz44_1 := blk_frozen BK322.out 1; have hfz44_2 := blk_frozen BK322.out 2; have hfz44_3 := blk_frozen BK322.out 3; have hcz45_0 : w43.cell? ⟨gb323, 0, none⟩ = some (.int .i64 a3_0) := (blk_cell BK323.out 0).trans rfl; have hcz45_1 : w43.cell? ⟨gb323, 1, none⟩ = some (.string a3_1) := (blk_cell BK323.out 1).trans rfl; have hcz45_2 : w43.cell? ⟨gb323, 2, none⟩ = some (.string a3_2) := (blk_cell BK323.out 2).trans rfl; have hcz45_3 : w43.cell? ⟨gb323, 3, none⟩ = some (.int .u64 a3_3) := (blk_cell BK323.out 3).trans rfl; have hfz45_0 := blk_frozen BK323.out 0; have hfz45_1 := blk_frozen BK323.out 1; have hfz45_2 := blk_frozen BK323.out 2; have hfz45_3 := blk_frozen BK323.out 3) | ((with_reducible refine gate_callee (f := 31) rfl ?_); refine goesL_ (some 45) rfl rfl Try.func31 (by kernel_rfl) rfl #[.agg #[.int .i64 a2_0, .string a2_1, .string a2_2, .int .u64 a2_3], .agg #[.int .i64 a3_0, .string a3_1, .string a3_2, .int .u64 a3_3]] rfl (by (try simp only [List.map_toArray, List.map_cons, List.map_nil]); first | done | rfl | (simp only [List.length_drop, List.length_take]; rfl)) ?_; (with_reducible refine (note_Both.calls kj5 a2_0 a2_1 a2_2 a2_3 a3_0 a3_1 a3_2 a3_3 t335 t336 t337 t338 _ A26.out).mono ?_); rintro e w46 ⟨rfl, hb⟩; refine ⟨_, rfl, ?_⟩; have n0_ := Aside0.mk (Kd.R_below (by (with_reducible repeat (first | apply Kd.R_alloc | apply Kd.R_drewN | apply Kd.R_drew)); exact HO332.out) hb); have n1_ := Aside0.mk (blk_below (g := gb322) (o := .cells #[.int .i64 a2_0, .string a2_1, .string a2_2, .int .u64 a2_3] 55 (0, 0)) (by (with_reducible repeat (first | refine blk_drewN ?_ _ | refine blk_drew ?_ | refine blk_alloc ?_ _)); exact BK322.out) hb); have n2_ := Aside0.mk (blk_below (g := gb323) (o := .cells #[.int .i64 a3_0, .string a3_1, .string a3_2, .int .u64 a3_3] 55 (0, 0)) (by (with_reducible repeat (first | refine blk_drewN ?_ _ | refine blk_drew ?_ | refine blk_alloc ?_ _)); exact BK323.out) hb); have n3_ := Aside0.mk (blk_below (g := gb324) (o := .cells #[.int .i64 a4_0, .string a4_1, .string a4_2, .int .u64 a4_3] 55 (0, 0)) (by (with_reducible repeat (first | refine blk_drewN ?_ _ | refine blk_drew ?_ | refine blk_alloc ?_ _)); exact BK324.out) hb); have n4_ := Aside0.mk (below_step (by repeat (first | (with_reducible first | exact HB.out | apply below_alloc | apply pw_below_drewN | apply below_drew1 | refine below_set ?_ GE322.out | refine below_set ?_ GE323.out | refine below_set ?_ GE324.out) | exact HB.out)) hb); clear HO332; clear BK322; clear BK323; clear BK324; clear HB; have HO332 := n0_; have BK322 := n1_; have BK323 := n2_; have BK324 := n3_; have HB := n4_; clear n0_ n1_ n2_ n3_ n4_; (try clear hb); (try clear hb2); (try clear hk); (try clear hi)) | ((with_reducible refine gate_dst (N := 46) rfl ?_); (try (refine gate_guard (by rfl) ?_; dsimp only)); refine Kd.R_lit k55 _ 55 ?hg (N := 46) ?hd (xs := ([(⟨t335, t336, t337, t338⟩ : S55)] : List (S55))) (inner := [.int .i64 t335, .string t336, .string t337, .int .u64 t338]) (ok := fun _ => True) (okp := fun _ => True) ?hr ?hp (fun _ hk => hk) trivial (Below.refl _ _) (Nat.le_refl _) (by simp) ?_; (case hd => rfl); (case hg => rfl); (case hr => first | (go_simp; done) | (go_simp; rfl)); (case hp => exact (Reps.c4 (show Kd.M k55 _ _ _ (⟨t335, t336, t337, t338⟩ : S55) [.int .i64 t335, .string t336, .string t337, .int .u64 t338] from (k55_mkM _ _ _ (⟨t335, t336, t337, t338⟩ : S55) )) (Reps.none _ _))); intro v340 w47 ho48 hb hg_ hnew_; clear hg_ hnew_; (first | rw [← Ny339.out] at ho48 | (simp only [Int.reduceToNat] at ho48; rw [← Ny339.out] at ho48)); have n0_ := Aside0.mk (Kd.R_elder' (by (with_reducible repeat (first | apply Kd.R_alloc | apply Kd.R_drewN | apply Kd.R_drew)); exact HO332.out) (Kd.R_base ho48) hb); have n1_ := Aside0.mk (Kd.R_lower (Kd.R_newB (Kd.R_newB (Kd.R_newB (Kd.R_new' ho48 (Kd.R_lt (by (with_reducible repeat (first | apply Kd.R_alloc | apply Kd.R_drewN | apply Kd.R_drew)); exact HO332.out))) (g := gb322) (o := .cells #[.int .i64 a2_0, .string a2_1, .string a2_2, .int .u64 a2_3] 55 (0, 0)) (by (with_reducible repeat (first | refine blk_drewN ?_ _ | refine blk_drew ?_ | refine blk_alloc ?_ _)); exact BK322.out)) (g := gb323) (o := .cells #[.int .i64 a3_0, .string a3_1, .string a3_2, .int .u64 a3_3] 55 (0, 0)) (by (with_reducible repeat (first | refine blk_drewN ?_ _ | refine blk_drew ?_ | refine blk_alloc ?_ _)); exact BK323.out)) (g := gb324) (o := .cells #[.int .i64 a4_0, .string a4_1, .string a4_2, .int .u64 a4_3] 55 (0, 0)) (by (with_reducible repeat (first | refine blk_drewN ?_ _ | refine blk_drew ?_ | refine blk_alloc ?_ _)); exact BK324.out)) (below_size (by repeat (first | (with_reducible first | exact HB.out | apply below_alloc | apply pw_below_drewN | apply below_drew1 | refine below_set ?_ GE322.out | refine below_set ?_ GE323.out | refine below_set ?_ GE324.out) | exact HB.out)))); have n2_ := Aside0.mk (blk_below (g := gb322) (o := .cells #[.int .i64 a2_0, .string a2_1, .string a2_2, .int .u64 a2_3] 55 (0, 0)) (by (with_reducible repeat (first | refine blk_drewN ?_ _ | refine blk_drew ?_ | refine blk_alloc ?_ _)); exact BK322.out) hb); have n3_ := Aside0.mk (blk_below (g := gb323) (o := .cells #[.int .i64 a3_0, .string a3_1, .string a3_2, .int .u64 a3_3] 55 (0, 0)) (by (with_reducible repeat (first | refine blk_drewN ?_ _ | refine blk_drew ?_ | refine blk_alloc ?_ _)); exact BK323.out) hb); have n4_ := Aside0.mk (blk_below (g := gb324) (o := .cells #[.int .i64 a4_0, .string a4_1, .string a4_2, .int .u64 a4_3] 55 (0, 0)) (by (with_reducible repeat (first | refine blk_drewN ?_ _ | refine blk_drew ?_ | refine blk_alloc ?_ _)); exact BK324.out) hb); have n5_ := Aside0.mk (below_step (by repeat (first | (with_reducible first | exact HB.out | apply below_alloc | apply pw_below_drewN | apply below_drew1 | refine below_set ?_ GE322.out | refine below_set ?_ GE323.out | refine below_set ?_ GE324.out) | exact HB.out)) hb); clear HO332; clear BK322; clear BK323; clear BK324; clear HB; have HO332 := n0_; have HO341 := n1_; have BK322 := n2_; have BK323 := n3_; have BK324 := n4_; have HB := n5_; clear n0_ n1_ n2_ n3_ n4_ n5_; clear hb ho48; obtain ⟨Ao49, co49, eo49⟩ := Kd.R_slice HO341.out; subst eo49) | ((with_reducible refine gate_callee (f := 30) rfl ?_); refine goesL_ (some 47) rfl rfl Try.func30 (by kernel_rfl) rfl #[.string a0, .bool a1, .slice Ao49 y339.length co49] rfl (by (try simp only [List.map_toArray, List.map_cons, List.map_nil]); first | done | rfl | (simp only [List.length_drop, List.length_take]; rfl)) ?_; (with_reducible refine (note_Done.calls kj5 a0 a1 _ _ y339 t342 t343 _ ?side1 ?side2 A27.out).mono ?_); (case side1 => repeat (first | exact (Kd.R_reads' HO341.out).2.2 | (with_reducible refine Kd.C_alloc ?_ _) | (with_reducible refine Kd.C_drewN ?_ _) | (with_reducible refine Kd.C_drew ?_))); (case side2 => exact (Kd.R_reads' HO341.out).2.1); rintro e w50 ⟨rfl, hb⟩; refine ⟨_, rfl, ?_⟩; have n0_ := Aside0.mk (Kd.R_below (by (with_reducible repeat (first | apply Kd.R_alloc | apply Kd.R_drewN | apply Kd.R_drew)); exact HO332.out) hb); have n1_ := Aside0.mk (Kd.R_below (by (with_reducible repeat (first | apply Kd.R_alloc | apply Kd.R_drewN | apply Kd.R_drew)); exact HO341.out) hb); have n2_ := Aside0.mk (blk_below (g := gb322) (o := .cells #[.int .i64 a2_0, .string a2_1, .string a2_2, .int .u64 a2_3] 55 (0, 0)) (by (with_reducible repeat (first | refine blk_drewN ?_ _ | refine blk_drew ?_ | refine blk_alloc ?_ _)); exact BK322.out) hb); have n3_ := Aside0.mk (blk_below (g := gb323) (o := .cells #[.int .i64 a3_0, .string a3_1, .string a3_2, .int .u64 a3_3] 55 (0, 0)) (by (with_reducible repeat (first | refine blk_drewN ?_ _ | refine blk_drew ?_ | refine blk_alloc ?_ _)); exact BK323.out) hb); have n4_ := Aside0.mk (blk_below (g := gb324) (o := .cells #[.int .i64 a4_0, .string a4_1, .string a4_2, .int .u64 a4_3] 55 (0, 0)) (by (with_reducible repeat (first | refine blk_drewN ?_ _ | refine blk_drew ?_ | refine blk_alloc ?_ _)); exact BK324.out) hb); have n5_ := Aside0.mk (below_step (by repeat (first | (with_reducible first | exact HB.out | apply below_alloc | apply pw_below_drewN | apply below_drew1 | refine below_set ?_ GE322.out | refine below_set ?_ GE323.out | refine below_set ?_ GE324.out) | exact HB.out)) hb); clear HO332; clear HO341; clear BK322; clear BK323; clear BK324; clear HB; have HO332 := n0_; have HO341 := n1_; have BK322 := n2_; have BK323 := n3_; have BK324 := n4_; have HB := n5_; clear n0_ n1_ n2_ n3_ n4_ n5_; (try clear hb); (try clear hb2); (try clear hk); (try clear hi)))
        have n0_ := Aside0.mk (Kd.R_drew HO332.out)
        have n1_ := Aside0.mk (Kd.R_drew HO341.out)
        have n2_ := Aside0.mk (blk_drew BK322.out)
        have n3_ := Aside0.mk (blk_drew BK323.out)
        have n4_ := Aside0.mk (blk_drew BK324.out)
        have n5_ := Aside0.mk (below_drew1 HB.out)
        clear HO332
        clear HO341
        clear BK322
        clear BK323
        clear BK324
        clear HB
        have HO332 := n0_
        have HO341 := n1_
        have BK322 := n2_
        have BK323 := n3_
        have BK324 := n4_
        have HB := n5_
        clear n0_ n1_ n2_ n3_ n4_ n5_
        refine start_ (n := 14) (S := fun w' => w'.cell? ⟨gb322, 0, none⟩ = some (.int .i64 a2_0) ∧ w'.cell? ⟨gb322, 1, none⟩ = some (.string a2_1) ∧ w'.cell? ⟨gb322, 2, none⟩ = some (.string a2_2) ∧ w'.cell? ⟨gb322, 3, none⟩ = some (.int .u64 a2_3) ∧ w'.cell? ⟨gb323, 0, none⟩ = some (.int .i64 a3_0) ∧ w'.cell? ⟨gb323, 1, none⟩ = some (.string a3_1) ∧ w'.cell? ⟨gb323, 2, none⟩ = some (.string a3_2) ∧ w'.cell? ⟨gb323, 3, none⟩ = some (.int .u64 a3_3) ∧ w'.cell? ⟨gb324, 0, none⟩ = some (.int .i64 a4_0) ∧ w'.cell? ⟨gb324, 1, none⟩ = some (.string a4_1) ∧ w'.cell? ⟨gb324, 2, none⟩ = some (.string a4_2) ∧ w'.cell? ⟨gb324, 3, none⟩ = some (.int .u64 a4_3)) (ds := []) #[false, false, false, false, false, false, false, false, false, false, false, false, false, false] (by kernel_rfl) rfl rfl ⟨(blk_cell BK322.out 0).trans rfl, (blk_cell BK322.out 1).trans rfl, (blk_cell BK322.out 2).trans rfl, (blk_cell BK322.out 3).trans rfl, (blk_cell BK323.out 0).trans rfl, (blk_cell BK323.out 1).trans rfl, (blk_cell BK323.out 2).trans rfl, (blk_cell BK323.out 3).trans rfl, (blk_cell BK324.out 0).trans rfl, (blk_cell BK324.out 1).trans rfl, (blk_cell BK324.out 2).trans rfl, (blk_cell BK324.out 3).trans rfl⟩ (fun hHeld => ?_); refine with_tabW weirkeeperlaw09_NoteBoth.tab5 weirkeeperlaw09_NoteBoth.bits5 (fun HT_ HW_ => ?_)
        generalize w50.drew = w51 at HO332 HO341 BK322 BK323 BK324 HB hHeld ⊢
        refine pure_ (i := 0) (N := some 51) (v := ?_) (a' := ?_) #[true, false, false, false, false, false, false, false, false, false, false, false, false, false] rfl rfl (any_of HT_.out (by kernel_rfl)) (fun _ _ _ h => h) (Or.inl ⟨by rfl, ?_⟩) ?_ ?_
        rotate_left
        · intro w'
          go_simp
          first | with_reducible rfl | (simp only [fld_law09NoteBoth_55_0, fld_law09NoteBoth_55_1, fld_law09NoteBoth_55_2, fld_law09NoteBoth_55_3, Result.andThen_ok]; with_reducible rfl) | (simp only [fld_law09NoteBoth_55_0, fld_law09NoteBoth_55_1, fld_law09NoteBoth_55_2, fld_law09NoteBoth_55_3, Result.andThen_ok]; rfl)
        rotate_left
        · simp only [Act.put, List.setIfInBounds_toArray, List.set_cons_zero, List.set_cons_succ, i64_w, i32_w]
          rfl
        refine pure_ (i := 1) (N := some 52) (v := ?_) (a' := ?_) #[true, true, false, false, false, false, false, false, false, false, false, false, false, false] rfl rfl (any_of HT_.out (by kernel_rfl)) (fun _ _ _ h => h) (Or.inl ⟨by rfl, ?_⟩) ?_ ?_
        rotate_left
        · intro w'
          go_simp
          first | with_reducible rfl | (simp only [fld_law09NoteBoth_55_0, fld_law09NoteBoth_55_1, fld_law09NoteBoth_55_2, fld_law09NoteBoth_55_3, Result.andThen_ok]; with_reducible rfl) | (simp only [fld_law09NoteBoth_55_0, fld_law09NoteBoth_55_1, fld_law09NoteBoth_55_2, fld_law09NoteBoth_55_3, Result.andThen_ok]; rfl)
        rotate_left
        · simp only [Act.put, List.setIfInBounds_toArray, List.set_cons_zero, List.set_cons_succ, i64_w, i32_w]
          rfl
        refine take_ (i := 2) (N := some 53) (v := ?_) (a' := ?_) #[true, true, true, false, false, false, false, false, false, false, false, false, false, false] rfl rfl (take_ofW HT_.out HW_.out (by kernel_rfl)) (fun _ _ _ h => h) (Or.inl ⟨by rfl, ?_⟩) hHeld ?_ ?_
        rotate_left
        · rintro w' ⟨s0, s1, s2, s3, s4, s5, s6, s7, s8, s9, s10, s11⟩
          go_simp
          first | with_reducible rfl | (simp only [fld_law09NoteBoth_55_0, fld_law09NoteBoth_55_1, fld_law09NoteBoth_55_2, fld_law09NoteBoth_55_3, Result.andThen_ok]; with_reducible rfl) | (simp only [fld_law09NoteBoth_55_0, fld_law09NoteBoth_55_1, fld_law09NoteBoth_55_2, fld_law09NoteBoth_55_3, Result.andThen_ok]; rfl)
        rotate_left
        · simp only [Act.put, List.setIfInBounds_toArray, List.set_cons_zero, List.set_cons_succ, i64_w, i32_w]
          rfl
        refine take_ (i := 3) (N := some 54) (v := ?_) (a' := ?_) #[true, true, true, true, false, false, false, false, false, false, false, false, false, false] rfl rfl (take_ofW HT_.out HW_.out (by kernel_rfl)) (fun _ _ _ h => h) (Or.inl ⟨by rfl, ?_⟩) hHeld ?_ ?_
        rotate_left
        · rintro w' ⟨s0, s1, s2, s3, s4, s5, s6, s7, s8, s9, s10, s11⟩
          go_simp
          first | with_reducible rfl | (simp only [fld_law09NoteBoth_55_0, fld_law09NoteBoth_55_1, fld_law09NoteBoth_55_2, fld_law09NoteBoth_55_3, Result.andThen_ok]; with_reducible rfl) | (simp only [fld_law09NoteBoth_55_0, fld_law09NoteBoth_55_1, fld_law09NoteBoth_55_2, fld_law09NoteBoth_55_3, Result.andThen_ok]; rfl)
        rotate_left
        · simp only [Act.put, List.setIfInBounds_toArray, List.set_cons_zero, List.set_cons_succ, i64_w, i32_w]
          rfl
        refine take_ (i := 5) (N := some 56) (v := ?_) (a' := ?_) #[true, true, true, true, false, true, false, false, false, false, false, false, false, false] rfl rfl (take_ofW HT_.out HW_.out (by kernel_rfl)) (fun _ _ _ h => h) (Or.inl ⟨by rfl, ?_⟩) hHeld ?_ ?_
        rotate_left
        · rintro w' ⟨s0, s1, s2, s3, s4, s5, s6, s7, s8, s9, s10, s11⟩
          go_simp
          first | with_reducible rfl | (simp only [fld_law09NoteBoth_55_0, fld_law09NoteBoth_55_1, fld_law09NoteBoth_55_2, fld_law09NoteBoth_55_3, Result.andThen_ok]; with_reducible rfl) | (simp only [fld_law09NoteBoth_55_0, fld_law09NoteBoth_55_1, fld_law09NoteBoth_55_2, fld_law09NoteBoth_55_3, Result.andThen_ok]; rfl)
        rotate_left
        · simp only [Act.put, List.setIfInBounds_toArray, List.set_cons_zero, List.set_cons_succ, i64_w, i32_w]
          rfl
        refine one_ (i := 4) (N := some 55) #[true, true, true, true, true, true, false, false, false, false, false, false, false, false] rfl rfl (one_of HT_.out (by kernel_rfl)) (by decide) (fun K hK => ?_)
        refine goes_ Try.func31 (by kernel_rfl) rfl #[.agg #[.int .i64 a2_0, .string a2_1, .string a2_2, .int .u64 a2_3], .agg #[.int .i64 a3_0, .string a3_1, .string a3_2, .int .u64 a3_3]] (by rfl) rfl rfl (by (try simp only [List.map_toArray, List.map_cons, List.map_nil]); first | done | rfl | (simp only [List.length_drop, List.length_take]; rfl)) ?_
        with_reducible refine (note_Both.calls kj5 a2_0 a2_1 a2_2 a2_3 a3_0 a3_1 a3_2 a3_3 t344 t345 t346 t347 _ A28.out).mono ?_
        rintro e w52 ⟨rfl, hb⟩
        refine ⟨_, rfl, ?_⟩
        have n0_ := Aside0.mk (Kd.R_below (by (with_reducible repeat (first | apply Kd.R_alloc | apply Kd.R_drewN | apply Kd.R_drew)); exact HO332.out) hb)
        have n1_ := Aside0.mk (Kd.R_below (by (with_reducible repeat (first | apply Kd.R_alloc | apply Kd.R_drewN | apply Kd.R_drew)); exact HO341.out) hb)
        have n2_ := Aside0.mk (blk_below (g := gb322) (o := .cells #[.int .i64 a2_0, .string a2_1, .string a2_2, .int .u64 a2_3] 55 (0, 0)) (by (with_reducible repeat (first | refine blk_drewN ?_ _ | refine blk_drew ?_ | refine blk_alloc ?_ _)); exact BK322.out) hb)
        have n3_ := Aside0.mk (blk_below (g := gb323) (o := .cells #[.int .i64 a3_0, .string a3_1, .string a3_2, .int .u64 a3_3] 55 (0, 0)) (by (with_reducible repeat (first | refine blk_drewN ?_ _ | refine blk_drew ?_ | refine blk_alloc ?_ _)); exact BK323.out) hb)
        have n4_ := Aside0.mk (blk_below (g := gb324) (o := .cells #[.int .i64 a4_0, .string a4_1, .string a4_2, .int .u64 a4_3] 55 (0, 0)) (by (with_reducible repeat (first | refine blk_drewN ?_ _ | refine blk_drew ?_ | refine blk_alloc ?_ _)); exact BK324.out) hb)
        have n5_ := Aside0.mk (below_step (by repeat (first | (with_reducible first | exact HB.out | apply below_alloc | apply pw_below_drewN | apply below_drew1 | refine below_set ?_ GE322.out | refine below_set ?_ GE323.out | refine below_set ?_ GE324.out) | exact HB.out)) hb)
        clear HO332
        clear HO341
        clear BK322
        clear BK323
        clear BK324
        clear HB
        have HO332 := n0_
        have HO341 := n1_
        have BK322 := n2_
        have BK323 := n3_
        have BK324 := n4_
        have HB := n5_
        clear n0_ n1_ n2_ n3_ n4_ n5_
        (try clear hb)
        (try clear hb2)
        (try clear hk)
        (try clear hi)
        refine hK.out _ _ ⟨(blk_cell BK322.out 0).trans rfl, (blk_cell BK322.out 1).trans rfl, (blk_cell BK322.out 2).trans rfl, (blk_cell BK322.out 3).trans rfl, (blk_cell BK323.out 0).trans rfl, (blk_cell BK323.out 1).trans rfl, (blk_cell BK323.out 2).trans rfl, (blk_cell BK323.out 3).trans rfl, (blk_cell BK324.out 0).trans rfl, (blk_cell BK324.out 1).trans rfl, (blk_cell BK324.out 2).trans rfl, (blk_cell BK324.out 3).trans rfl⟩ (fun hHeld => ?_)
        clear hK K
        refine norm_ (a' := ?_) ?_ ?_
        rotate_left
        · show Act.put _ (some 55) _ = _
          simp only [Act.put, List.setIfInBounds_toArray, List.set_cons_zero, List.set_cons_succ, i64_w, i32_w]
          rfl
        refine one_ (i := 6) (N := some 57) #[true, true, true, true, true, true, true, false, false, false, false, false, false, false] rfl rfl (one_of HT_.out (by kernel_rfl)) (by decide) (fun K hK => ?_)
        refine goes_ Try.func31 (by kernel_rfl) rfl #[.agg #[.int .i64 t344, .string t345, .string t346, .int .u64 t347], .agg #[.int .i64 a4_0, .string a4_1, .string a4_2, .int .u64 a4_3]] (by rfl) rfl rfl (by (try simp only [List.map_toArray, List.map_cons, List.map_nil]); first | done | rfl | (simp only [List.length_drop, List.length_take]; rfl)) ?_
        with_reducible refine (note_Both.calls kj5 t344 t345 t346 t347 a4_0 a4_1 a4_2 a4_3 t348 t349 t350 t351 _ A29.out).mono ?_
        rintro e w53 ⟨rfl, hb⟩
        refine ⟨_, rfl, ?_⟩
        have n0_ := Aside0.mk (Kd.R_below (by (with_reducible repeat (first | apply Kd.R_alloc | apply Kd.R_drewN | apply Kd.R_drew)); exact HO332.out) hb)
        have n1_ := Aside0.mk (Kd.R_below (by (with_reducible repeat (first | apply Kd.R_alloc | apply Kd.R_drewN | apply Kd.R_drew)); exact HO341.out) hb)
        have n2_ := Aside0.mk (blk_below (g := gb322) (o := .cells #[.int .i64 a2_0, .string a2_1, .string a2_2, .int .u64 a2_3] 55 (0, 0)) (by (with_reducible repeat (first | refine blk_drewN ?_ _ | refine blk_drew ?_ | refine blk_alloc ?_ _)); exact BK322.out) hb)
        have n3_ := Aside0.mk (blk_below (g := gb323) (o := .cells #[.int .i64 a3_0, .string a3_1, .string a3_2, .int .u64 a3_3] 55 (0, 0)) (by (with_reducible repeat (first | refine blk_drewN ?_ _ | refine blk_drew ?_ | refine blk_alloc ?_ _)); exact BK323.out) hb)
        have n4_ := Aside0.mk (blk_below (g := gb324) (o := .cells #[.int .i64 a4_0, .string a4_1, .string a4_2, .int .u64 a4_3] 55 (0, 0)) (by (with_reducible repeat (first | refine blk_drewN ?_ _ | refine blk_drew ?_ | refine blk_alloc ?_ _)); exact BK324.out) hb)
        have n5_ := Aside0.mk (below_step (by repeat (first | (with_reducible first | exact HB.out | apply below_alloc | apply pw_below_drewN | apply below_drew1 | refine below_set ?_ GE322.out | refine below_set ?_ GE323.out | refine below_set ?_ GE324.out) | exact HB.out)) hb)
        clear HO332
        clear HO341
        clear BK322
        clear BK323
        clear BK324
        clear HB
        have HO332 := n0_
        have HO341 := n1_
        have BK322 := n2_
        have BK323 := n3_
        have BK324 := n4_
        have HB := n5_
        clear n0_ n1_ n2_ n3_ n4_ n5_
        (try clear hb)
        (try clear hb2)
        (try clear hk)
        (try clear hi)
        refine hK.out _ _ ⟨(blk_cell BK322.out 0).trans rfl, (blk_cell BK322.out 1).trans rfl, (blk_cell BK322.out 2).trans rfl, (blk_cell BK322.out 3).trans rfl, (blk_cell BK323.out 0).trans rfl, (blk_cell BK323.out 1).trans rfl, (blk_cell BK323.out 2).trans rfl, (blk_cell BK323.out 3).trans rfl, (blk_cell BK324.out 0).trans rfl, (blk_cell BK324.out 1).trans rfl, (blk_cell BK324.out 2).trans rfl, (blk_cell BK324.out 3).trans rfl⟩ (fun hHeld => ?_)
        clear hK K
        refine norm_ (a' := ?_) ?_ ?_
        rotate_left
        · show Act.put _ (some 57) _ = _
          simp only [Act.put, List.setIfInBounds_toArray, List.set_cons_zero, List.set_cons_succ, i64_w, i32_w]
          rfl
        refine one_ (i := 7) (N := some 58) #[true, true, true, true, true, true, true, true, false, false, false, false, false, false] rfl rfl (one_of HT_.out (by kernel_rfl)) (by decide) (fun K hK => ?_)
        refine Kd.R_lit_step k55 _ 55 ?hg (N := 58) ?hd (xs := ([(⟨t348, t349, t350, t351⟩ : S55)] : List (S55))) (inner := [.int .i64 t348, .string t349, .string t350, .int .u64 t351]) (ok := fun _ => True) (okp := fun _ => True) ?hr ?hp (fun _ hk => hk) trivial (Below.refl _ _) (Nat.le_refl _) (by simp) ?_; (case hd => rfl); (case hg => rfl); (case hr => first | (go_simp; done) | (go_simp; rfl)); (case hp => exact (Reps.c4 (show Kd.M k55 _ _ _ (⟨t348, t349, t350, t351⟩ : S55) [.int .i64 t348, .string t349, .string t350, .int .u64 t351] from (k55_mkM _ _ _ (⟨t348, t349, t350, t351⟩ : S55) )) (Reps.none _ _)))
        intro v353 w54 ho55 hb hg_ hnew_
        clear hg_ hnew_
        (first | rw [← Ny352.out] at ho55 | (simp only [Int.reduceToNat] at ho55; rw [← Ny352.out] at ho55))
        have n0_ := Aside0.mk (Kd.R_elder' (by (with_reducible repeat (first | apply Kd.R_alloc | apply Kd.R_drewN | apply Kd.R_drew)); exact HO332.out) (Kd.R_base ho55) hb)
        have n1_ := Aside0.mk (Kd.R_elder' (by (with_reducible repeat (first | apply Kd.R_alloc | apply Kd.R_drewN | apply Kd.R_drew)); exact HO341.out) (Kd.R_base ho55) hb)
        have n2_ := Aside0.mk (Kd.R_lower (Kd.R_newB (Kd.R_newB (Kd.R_newB (Kd.R_new' (Kd.R_new' ho55 (Kd.R_lt (by (with_reducible repeat (first | apply Kd.R_alloc | apply Kd.R_drewN | apply Kd.R_drew)); exact HO332.out))) (Kd.R_lt (by (with_reducible repeat (first | apply Kd.R_alloc | apply Kd.R_drewN | apply Kd.R_drew)); exact HO341.out))) (g := gb322) (o := .cells #[.int .i64 a2_0, .string a2_1, .string a2_2, .int .u64 a2_3] 55 (0, 0)) (by (with_reducible repeat (first | refine blk_drewN ?_ _ | refine blk_drew ?_ | refine blk_alloc ?_ _)); exact BK322.out)) (g := gb323) (o := .cells #[.int .i64 a3_0, .string a3_1, .string a3_2, .int .u64 a3_3] 55 (0, 0)) (by (with_reducible repeat (first | refine blk_drewN ?_ _ | refine blk_drew ?_ | refine blk_alloc ?_ _)); exact BK323.out)) (g := gb324) (o := .cells #[.int .i64 a4_0, .string a4_1, .string a4_2, .int .u64 a4_3] 55 (0, 0)) (by (with_reducible repeat (first | refine blk_drewN ?_ _ | refine blk_drew ?_ | refine blk_alloc ?_ _)); exact BK324.out)) (below_size (by repeat (first | (with_reducible first | exact HB.out | apply below_alloc | apply pw_below_drewN | apply below_drew1 | refine below_set ?_ GE322.out | refine below_set ?_ GE323.out | refine below_set ?_ GE324.out) | exact HB.out))))
        have n3_ := Aside0.mk (blk_below (g := gb322) (o := .cells #[.int .i64 a2_0, .string a2_1, .string a2_2, .int .u64 a2_3] 55 (0, 0)) (by (with_reducible repeat (first | refine blk_drewN ?_ _ | refine blk_drew ?_ | refine blk_alloc ?_ _)); exact BK322.out) hb)
        have n4_ := Aside0.mk (blk_below (g := gb323) (o := .cells #[.int .i64 a3_0, .string a3_1, .string a3_2, .int .u64 a3_3] 55 (0, 0)) (by (with_reducible repeat (first | refine blk_drewN ?_ _ | refine blk_drew ?_ | refine blk_alloc ?_ _)); exact BK323.out) hb)
        have n5_ := Aside0.mk (blk_below (g := gb324) (o := .cells #[.int .i64 a4_0, .string a4_1, .string a4_2, .int .u64 a4_3] 55 (0, 0)) (by (with_reducible repeat (first | refine blk_drewN ?_ _ | refine blk_drew ?_ | refine blk_alloc ?_ _)); exact BK324.out) hb)
        have n6_ := Aside0.mk (below_step (by repeat (first | (with_reducible first | exact HB.out | apply below_alloc | apply pw_below_drewN | apply below_drew1 | refine below_set ?_ GE322.out | refine below_set ?_ GE323.out | refine below_set ?_ GE324.out) | exact HB.out)) hb)
        clear HO332
        clear HO341
        clear BK322
        clear BK323
        clear BK324
        clear HB
        have HO332 := n0_
        have HO341 := n1_
        have HO354 := n2_
        have BK322 := n3_
        have BK323 := n4_
        have BK324 := n5_
        have HB := n6_
        clear n0_ n1_ n2_ n3_ n4_ n5_ n6_
        clear hb ho55
        obtain ⟨Ao56, co56, eo56⟩ := Kd.R_slice HO354.out
        (first | subst eo56 | (injection eo56 with f1_ f2_ f3_; have f4_ := f1_.symm; have f5_ := f3_.symm; clear f1_ f2_ f3_; subst f4_; subst f5_))
        refine hK.out _ _ ⟨(blk_cell BK322.out 0).trans rfl, (blk_cell BK322.out 1).trans rfl, (blk_cell BK322.out 2).trans rfl, (blk_cell BK322.out 3).trans rfl, (blk_cell BK323.out 0).trans rfl, (blk_cell BK323.out 1).trans rfl, (blk_cell BK323.out 2).trans rfl, (blk_cell BK323.out 3).trans rfl, (blk_cell BK324.out 0).trans rfl, (blk_cell BK324.out 1).trans rfl, (blk_cell BK324.out 2).trans rfl, (blk_cell BK324.out 3).trans rfl⟩ (fun hHeld => ?_)
        clear hK K
        refine norm_ (a' := ?_) ?_ ?_
        rotate_left
        · show Act.put _ (some 58) _ = _
          simp only [Act.put, List.setIfInBounds_toArray, List.set_cons_zero, List.set_cons_succ, i64_w, i32_w]
          rfl
        refine one_ (i := 8) (N := some 59) #[true, true, true, true, true, true, true, true, true, false, false, false, false, false] rfl rfl (one_of HT_.out (by kernel_rfl)) (by decide) (fun K hK => ?_)
        refine goes_ Try.func30 (by kernel_rfl) rfl #[.string a0, .bool a1, .slice Ao56 y352.length co56] (by rfl) rfl rfl (by (try simp only [List.map_toArray, List.map_cons, List.map_nil]); first | done | rfl | (simp only [List.length_drop, List.length_take]; rfl)) ?_
        with_reducible refine (note_Done.calls kj5 a0 a1 _ _ y352 t355 t356 _ ?side1 ?side2 A30.out).mono ?_
        (case side1 => repeat (first | exact (Kd.R_reads' HO354.out).2.2 | (with_reducible refine Kd.C_alloc ?_ _) | (with_reducible refine Kd.C_drewN ?_ _) | (with_reducible refine Kd.C_drew ?_)))
        (case side2 => exact (Kd.R_reads' HO354.out).2.1)
        rintro e w57 ⟨rfl, hb⟩
        refine ⟨_, rfl, ?_⟩
        have n0_ := Aside0.mk (Kd.R_below (by (with_reducible repeat (first | apply Kd.R_alloc | apply Kd.R_drewN | apply Kd.R_drew)); exact HO332.out) hb)
        have n1_ := Aside0.mk (Kd.R_below (by (with_reducible repeat (first | apply Kd.R_alloc | apply Kd.R_drewN | apply Kd.R_drew)); exact HO341.out) hb)
        have n2_ := Aside0.mk (Kd.R_below (by (with_reducible repeat (first | apply Kd.R_alloc | apply Kd.R_drewN | apply Kd.R_drew)); exact HO354.out) hb)
        have n3_ := Aside0.mk (blk_below (g := gb322) (o := .cells #[.int .i64 a2_0, .string a2_1, .string a2_2, .int .u64 a2_3] 55 (0, 0)) (by (with_reducible repeat (first | refine blk_drewN ?_ _ | refine blk_drew ?_ | refine blk_alloc ?_ _)); exact BK322.out) hb)
        have n4_ := Aside0.mk (blk_below (g := gb323) (o := .cells #[.int .i64 a3_0, .string a3_1, .string a3_2, .int .u64 a3_3] 55 (0, 0)) (by (with_reducible repeat (first | refine blk_drewN ?_ _ | refine blk_drew ?_ | refine blk_alloc ?_ _)); exact BK323.out) hb)
        have n5_ := Aside0.mk (blk_below (g := gb324) (o := .cells #[.int .i64 a4_0, .string a4_1, .string a4_2, .int .u64 a4_3] 55 (0, 0)) (by (with_reducible repeat (first | refine blk_drewN ?_ _ | refine blk_drew ?_ | refine blk_alloc ?_ _)); exact BK324.out) hb)
        have n6_ := Aside0.mk (below_step (by repeat (first | (with_reducible first | exact HB.out | apply below_alloc | apply pw_below_drewN | apply below_drew1 | refine below_set ?_ GE322.out | refine below_set ?_ GE323.out | refine below_set ?_ GE324.out) | exact HB.out)) hb)
        clear HO332
        clear HO341
        clear HO354
        clear BK322
        clear BK323
        clear BK324
        clear HB
        have HO332 := n0_
        have HO341 := n1_
        have HO354 := n2_
        have BK322 := n3_
        have BK323 := n4_
        have BK324 := n5_
        have HB := n6_
        clear n0_ n1_ n2_ n3_ n4_ n5_ n6_
        (try clear hb)
        (try clear hb2)
        (try clear hk)
        (try clear hi)
        refine hK.out _ _ ⟨(blk_cell BK322.out 0).trans rfl, (blk_cell BK322.out 1).trans rfl, (blk_cell BK322.out 2).trans rfl, (blk_cell BK322.out 3).trans rfl, (blk_cell BK323.out 0).trans rfl, (blk_cell BK323.out 1).trans rfl, (blk_cell BK323.out 2).trans rfl, (blk_cell BK323.out 3).trans rfl, (blk_cell BK324.out 0).trans rfl, (blk_cell BK324.out 1).trans rfl, (blk_cell BK324.out 2).trans rfl, (blk_cell BK324.out 3).trans rfl⟩ (fun hHeld => ?_)
        clear hK K
        refine norm_ (a' := ?_) ?_ ?_
        rotate_left
        · show Act.put _ (some 59) _ = _
          simp only [Act.put, List.setIfInBounds_toArray, List.set_cons_zero, List.set_cons_succ, i64_w, i32_w]
          rfl
        refine pure_ (i := 9) (N := some 50) (v := ?_) (a' := ?_) #[true, true, true, true, true, true, true, true, true, true, false, false, false, false] rfl rfl (any_of HT_.out (by kernel_rfl)) (fun _ _ _ h => h) (Or.inl ⟨by rfl, ?_⟩) ?_ ?_
        rotate_left
        · intro w'
          go_simp
          first | with_reducible rfl | (simp only [fld_law09NoteBoth_55_0, fld_law09NoteBoth_55_1, fld_law09NoteBoth_55_2, fld_law09NoteBoth_55_3, Result.andThen_ok]; with_reducible rfl) | (simp only [fld_law09NoteBoth_55_0, fld_law09NoteBoth_55_1, fld_law09NoteBoth_55_2, fld_law09NoteBoth_55_3, Result.andThen_ok]; rfl)
        rotate_left
        · simp only [Act.put, List.setIfInBounds_toArray, List.set_cons_zero, List.set_cons_succ, i64_w, i32_w]
          rfl
        refine pure_ (i := 10) (N := some 60) (v := ?_) (a' := ?_) #[true, true, true, true, true, true, true, true, true, true, true, false, false, false] rfl rfl (any_of HT_.out (by kernel_rfl)) (fun _ _ _ h => h) (Or.inl ⟨by rfl, ?_⟩) ?_ ?_
        rotate_left
        · intro w'
          go_simp
          first | with_reducible rfl | (simp only [fld_law09NoteBoth_55_0, fld_law09NoteBoth_55_1, fld_law09NoteBoth_55_2, fld_law09NoteBoth_55_3, Result.andThen_ok]; with_reducible rfl) | (simp only [fld_law09NoteBoth_55_0, fld_law09NoteBoth_55_1, fld_law09NoteBoth_55_2, fld_law09NoteBoth_55_3, Result.andThen_ok]; rfl)
        rotate_left
        · simp only [Act.put, List.setIfInBounds_toArray, List.set_cons_zero, List.set_cons_succ, i64_w, i32_w]
          rfl
        refine pure_ (i := 11) (N := some 61) (v := ?_) (a' := ?_) #[true, true, true, true, true, true, true, true, true, true, true, true, false, false] rfl rfl (any_of HT_.out (by kernel_rfl)) (fun _ _ _ h => h) (Or.inl ⟨by rfl, ?_⟩) ?_ ?_
        rotate_left
        · intro w'
          go_simp
          first | with_reducible rfl | (simp only [fld_law09NoteBoth_55_0, fld_law09NoteBoth_55_1, fld_law09NoteBoth_55_2, fld_law09NoteBoth_55_3, Result.andThen_ok]; with_reducible rfl) | (simp only [fld_law09NoteBoth_55_0, fld_law09NoteBoth_55_1, fld_law09NoteBoth_55_2, fld_law09NoteBoth_55_3, Result.andThen_ok]; rfl)
        rotate_left
        · simp only [Act.put, List.setIfInBounds_toArray, List.set_cons_zero, List.set_cons_succ, i64_w, i32_w]
          rfl
        refine pure_ (i := 12) (N := some 15) (v := ?_) (a' := ?_) #[true, true, true, true, true, true, true, true, true, true, true, true, true, false] rfl rfl (any_of HT_.out (by kernel_rfl)) (fun _ _ _ h => h) (Or.inl ⟨by rfl, ?_⟩) ?_ ?_
        rotate_left
        · intro w'
          go_simp
          first | with_reducible rfl | (simp only [fld_law09NoteBoth_55_0, fld_law09NoteBoth_55_1, fld_law09NoteBoth_55_2, fld_law09NoteBoth_55_3, Result.andThen_ok]; with_reducible rfl) | (simp only [fld_law09NoteBoth_55_0, fld_law09NoteBoth_55_1, fld_law09NoteBoth_55_2, fld_law09NoteBoth_55_3, Result.andThen_ok]; rfl)
        rotate_left
        · simp only [Act.put, List.setIfInBounds_toArray, List.set_cons_zero, List.set_cons_succ, i64_w, i32_w]
          rfl
        refine pure_ (i := 13) (N := some 16) (v := ?_) (a' := ?_) #[true, true, true, true, true, true, true, true, true, true, true, true, true, true] rfl rfl (any_of HT_.out (by kernel_rfl)) (fun _ _ _ h => h) (Or.inl ⟨by rfl, ?_⟩) ?_ ?_
        rotate_left
        · intro w'
          go_simp
          first | with_reducible rfl | (simp only [fld_law09NoteBoth_55_0, fld_law09NoteBoth_55_1, fld_law09NoteBoth_55_2, fld_law09NoteBoth_55_3, Result.andThen_ok]; with_reducible rfl) | (simp only [fld_law09NoteBoth_55_0, fld_law09NoteBoth_55_1, fld_law09NoteBoth_55_2, fld_law09NoteBoth_55_3, Result.andThen_ok]; rfl)
        rotate_left
        · simp only [Act.put, List.setIfInBounds_toArray, List.set_cons_zero, List.set_cons_succ, i64_w, i32_w]
          rfl
        refine done_ (done_of HT_.out (by kernel_rfl)) ?_
        try go_wp2
        have n0_ := Aside0.mk (Kd.R_drew HO332.out)
        have n1_ := Aside0.mk (Kd.R_drew HO341.out)
        have n2_ := Aside0.mk (Kd.R_drew HO354.out)
        have n3_ := Aside0.mk (blk_drew BK322.out)
        have n4_ := Aside0.mk (blk_drew BK323.out)
        have n5_ := Aside0.mk (blk_drew BK324.out)
        have n6_ := Aside0.mk (below_drew1 HB.out)
        clear HO332
        clear HO341
        clear HO354
        clear BK322
        clear BK323
        clear BK324
        clear HB
        have HO332 := n0_
        have HO341 := n1_
        have HO354 := n2_
        have BK322 := n3_
        have BK323 := n4_
        have BK324 := n5_
        have HB := n6_
        clear n0_ n1_ n2_ n3_ n4_ n5_ n6_
        refine start_ (n := 14) (S := fun w' => w'.cell? ⟨gb322, 0, none⟩ = some (.int .i64 a2_0) ∧ w'.cell? ⟨gb322, 1, none⟩ = some (.string a2_1) ∧ w'.cell? ⟨gb322, 2, none⟩ = some (.string a2_2) ∧ w'.cell? ⟨gb322, 3, none⟩ = some (.int .u64 a2_3) ∧ w'.cell? ⟨gb323, 0, none⟩ = some (.int .i64 a3_0) ∧ w'.cell? ⟨gb323, 1, none⟩ = some (.string a3_1) ∧ w'.cell? ⟨gb323, 2, none⟩ = some (.string a3_2) ∧ w'.cell? ⟨gb323, 3, none⟩ = some (.int .u64 a3_3) ∧ w'.cell? ⟨gb324, 0, none⟩ = some (.int .i64 a4_0) ∧ w'.cell? ⟨gb324, 1, none⟩ = some (.string a4_1) ∧ w'.cell? ⟨gb324, 2, none⟩ = some (.string a4_2) ∧ w'.cell? ⟨gb324, 3, none⟩ = some (.int .u64 a4_3)) (ds := []) #[false, false, false, false, false, false, false, false, false, false, false, false, false, false] (by kernel_rfl) rfl rfl ⟨(blk_cell BK322.out 0).trans rfl, (blk_cell BK322.out 1).trans rfl, (blk_cell BK322.out 2).trans rfl, (blk_cell BK322.out 3).trans rfl, (blk_cell BK323.out 0).trans rfl, (blk_cell BK323.out 1).trans rfl, (blk_cell BK323.out 2).trans rfl, (blk_cell BK323.out 3).trans rfl, (blk_cell BK324.out 0).trans rfl, (blk_cell BK324.out 1).trans rfl, (blk_cell BK324.out 2).trans rfl, (blk_cell BK324.out 3).trans rfl⟩ (fun hHeld => ?_); refine with_tabW weirkeeperlaw09_NoteBoth.tab6 weirkeeperlaw09_NoteBoth.bits6 (fun HT_ HW_ => ?_)
        generalize w57.drew = w58 at HO332 HO341 HO354 BK322 BK323 BK324 HB hHeld ⊢
        refine pure_ (i := 0) (N := some 63) (v := ?_) (a' := ?_) #[true, false, false, false, false, false, false, false, false, false, false, false, false, false] rfl rfl (any_of HT_.out (by kernel_rfl)) (fun _ _ _ h => h) (Or.inl ⟨by rfl, ?_⟩) ?_ ?_
        rotate_left
        · intro w'
          go_simp
          first | with_reducible rfl | (simp only [fld_law09NoteBoth_55_0, fld_law09NoteBoth_55_1, fld_law09NoteBoth_55_2, fld_law09NoteBoth_55_3, Result.andThen_ok]; with_reducible rfl) | (simp only [fld_law09NoteBoth_55_0, fld_law09NoteBoth_55_1, fld_law09NoteBoth_55_2, fld_law09NoteBoth_55_3, Result.andThen_ok]; rfl)
        rotate_left
        · simp only [Act.put, List.setIfInBounds_toArray, List.set_cons_zero, List.set_cons_succ, i64_w, i32_w]
          rfl
        refine pure_ (i := 1) (N := some 64) (v := ?_) (a' := ?_) #[true, true, false, false, false, false, false, false, false, false, false, false, false, false] rfl rfl (any_of HT_.out (by kernel_rfl)) (fun _ _ _ h => h) (Or.inl ⟨by rfl, ?_⟩) ?_ ?_
        rotate_left
        · intro w'
          go_simp
          first | with_reducible rfl | (simp only [fld_law09NoteBoth_55_0, fld_law09NoteBoth_55_1, fld_law09NoteBoth_55_2, fld_law09NoteBoth_55_3, Result.andThen_ok]; with_reducible rfl) | (simp only [fld_law09NoteBoth_55_0, fld_law09NoteBoth_55_1, fld_law09NoteBoth_55_2, fld_law09NoteBoth_55_3, Result.andThen_ok]; rfl)
        rotate_left
        · simp only [Act.put, List.setIfInBounds_toArray, List.set_cons_zero, List.set_cons_succ, i64_w, i32_w]
          rfl
        refine take_ (i := 2) (N := some 65) (v := ?_) (a' := ?_) #[true, true, true, false, false, false, false, false, false, false, false, false, false, false] rfl rfl (take_ofW HT_.out HW_.out (by kernel_rfl)) (fun _ _ _ h => h) (Or.inl ⟨by rfl, ?_⟩) hHeld ?_ ?_
        rotate_left
        · rintro w' ⟨s0, s1, s2, s3, s4, s5, s6, s7, s8, s9, s10, s11⟩
          go_simp
          first | with_reducible rfl | (simp only [fld_law09NoteBoth_55_0, fld_law09NoteBoth_55_1, fld_law09NoteBoth_55_2, fld_law09NoteBoth_55_3, Result.andThen_ok]; with_reducible rfl) | (simp only [fld_law09NoteBoth_55_0, fld_law09NoteBoth_55_1, fld_law09NoteBoth_55_2, fld_law09NoteBoth_55_3, Result.andThen_ok]; rfl)
        rotate_left
        · simp only [Act.put, List.setIfInBounds_toArray, List.set_cons_zero, List.set_cons_succ, i64_w, i32_w]
          rfl
        refine take_ (i := 3) (N := some 66) (v := ?_) (a' := ?_) #[true, true, true, true, false, false, false, false, false, false, false, false, false, false] rfl rfl (take_ofW HT_.out HW_.out (by kernel_rfl)) (fun _ _ _ h => h) (Or.inl ⟨by rfl, ?_⟩) hHeld ?_ ?_
        rotate_left
        · rintro w' ⟨s0, s1, s2, s3, s4, s5, s6, s7, s8, s9, s10, s11⟩
          go_simp
          first | with_reducible rfl | (simp only [fld_law09NoteBoth_55_0, fld_law09NoteBoth_55_1, fld_law09NoteBoth_55_2, fld_law09NoteBoth_55_3, Result.andThen_ok]; with_reducible rfl) | (simp only [fld_law09NoteBoth_55_0, fld_law09NoteBoth_55_1, fld_law09NoteBoth_55_2, fld_law09NoteBoth_55_3, Result.andThen_ok]; rfl)
        rotate_left
        · simp only [Act.put, List.setIfInBounds_toArray, List.set_cons_zero, List.set_cons_succ, i64_w, i32_w]
          rfl
        refine take_ (i := 4) (N := some 67) (v := ?_) (a' := ?_) #[true, true, true, true, true, false, false, false, false, false, false, false, false, false] rfl rfl (take_ofW HT_.out HW_.out (by kernel_rfl)) (fun _ _ _ h => h) (Or.inl ⟨by rfl, ?_⟩) hHeld ?_ ?_
        rotate_left
        · rintro w' ⟨s0, s1, s2, s3, s4, s5, s6, s7, s8, s9, s10, s11⟩
          go_simp
          first | with_reducible rfl | (simp only [fld_law09NoteBoth_55_0, fld_law09NoteBoth_55_1, fld_law09NoteBoth_55_2, fld_law09NoteBoth_55_3, Result.andThen_ok]; with_reducible rfl) | (simp only [fld_law09NoteBoth_55_0, fld_law09NoteBoth_55_1, fld_law09NoteBoth_55_2, fld_law09NoteBoth_55_3, Result.andThen_ok]; rfl)
        rotate_left
        · simp only [Act.put, List.setIfInBounds_toArray, List.set_cons_zero, List.set_cons_succ, i64_w, i32_w]
          rfl
        refine one_ (i := 5) (N := some 68) #[true, true, true, true, true, true, false, false, false, false, false, false, false, false] rfl rfl (one_of HT_.out (by kernel_rfl)) (by decide) (fun K hK => ?_)
        refine goes_ Try.func31 (by kernel_rfl) rfl #[.agg #[.int .i64 a3_0, .string a3_1, .string a3_2, .int .u64 a3_3], .agg #[.int .i64 a4_0, .string a4_1, .string a4_2, .int .u64 a4_3]] (by rfl) rfl rfl (by (try simp only [List.map_toArray, List.map_cons, List.map_nil]); first | done | rfl | (simp only [List.length_drop, List.length_take]; rfl)) ?_
        with_reducible refine (note_Both.calls kj5 a3_0 a3_1 a3_2 a3_3 a4_0 a4_1 a4_2 a4_3 t357 t358 t359 t360 _ A31.out).mono ?_
        rintro e w59 ⟨rfl, hb⟩
        refine ⟨_, rfl, ?_⟩
        have n0_ := Aside0.mk (Kd.R_below (by (with_reducible repeat (first | apply Kd.R_alloc | apply Kd.R_drewN | apply Kd.R_drew)); exact HO332.out) hb)
        have n1_ := Aside0.mk (Kd.R_below (by (with_reducible repeat (first | apply Kd.R_alloc | apply Kd.R_drewN | apply Kd.R_drew)); exact HO341.out) hb)
        have n2_ := Aside0.mk (Kd.R_below (by (with_reducible repeat (first | apply Kd.R_alloc | apply Kd.R_drewN | apply Kd.R_drew)); exact HO354.out) hb)
        have n3_ := Aside0.mk (blk_below (g := gb322) (o := .cells #[.int .i64 a2_0, .string a2_1, .string a2_2, .int .u64 a2_3] 55 (0, 0)) (by (with_reducible repeat (first | refine blk_drewN ?_ _ | refine blk_drew ?_ | refine blk_alloc ?_ _)); exact BK322.out) hb)
        have n4_ := Aside0.mk (blk_below (g := gb323) (o := .cells #[.int .i64 a3_0, .string a3_1, .string a3_2, .int .u64 a3_3] 55 (0, 0)) (by (with_reducible repeat (first | refine blk_drewN ?_ _ | refine blk_drew ?_ | refine blk_alloc ?_ _)); exact BK323.out) hb)
        have n5_ := Aside0.mk (blk_below (g := gb324) (o := .cells #[.int .i64 a4_0, .string a4_1, .string a4_2, .int .u64 a4_3] 55 (0, 0)) (by (with_reducible repeat (first | refine blk_drewN ?_ _ | refine blk_drew ?_ | refine blk_alloc ?_ _)); exact BK324.out) hb)
        have n6_ := Aside0.mk (below_step (by repeat (first | (with_reducible first | exact HB.out | apply below_alloc | apply pw_below_drewN | apply below_drew1 | refine below_set ?_ GE322.out | refine below_set ?_ GE323.out | refine below_set ?_ GE324.out) | exact HB.out)) hb)
        clear HO332
        clear HO341
        clear HO354
        clear BK322
        clear BK323
        clear BK324
        clear HB
        have HO332 := n0_
        have HO341 := n1_
        have HO354 := n2_
        have BK322 := n3_
        have BK323 := n4_
        have BK324 := n5_
        have HB := n6_
        clear n0_ n1_ n2_ n3_ n4_ n5_ n6_
        (try clear hb)
        (try clear hb2)
        (try clear hk)
        (try clear hi)
        refine hK.out _ _ ⟨(blk_cell BK322.out 0).trans rfl, (blk_cell BK322.out 1).trans rfl, (blk_cell BK322.out 2).trans rfl, (blk_cell BK322.out 3).trans rfl, (blk_cell BK323.out 0).trans rfl, (blk_cell BK323.out 1).trans rfl, (blk_cell BK323.out 2).trans rfl, (blk_cell BK323.out 3).trans rfl, (blk_cell BK324.out 0).trans rfl, (blk_cell BK324.out 1).trans rfl, (blk_cell BK324.out 2).trans rfl, (blk_cell BK324.out 3).trans rfl⟩ (fun hHeld => ?_)
        clear hK K
        refine norm_ (a' := ?_) ?_ ?_
        rotate_left
        · show Act.put _ (some 68) _ = _
          simp only [Act.put, List.setIfInBounds_toArray, List.set_cons_zero, List.set_cons_succ, i64_w, i32_w]
          rfl
        refine one_ (i := 6) (N := some 69) #[true, true, true, true, true, true, true, false, false, false, false, false, false, false] rfl rfl (one_of HT_.out (by kernel_rfl)) (by decide) (fun K hK => ?_)
        refine goes_ Try.func31 (by kernel_rfl) rfl #[.agg #[.int .i64 a2_0, .string a2_1, .string a2_2, .int .u64 a2_3], .agg #[.int .i64 t357, .string t358, .string t359, .int .u64 t360]] (by rfl) rfl rfl (by (try simp only [List.map_toArray, List.map_cons, List.map_nil]); first | done | rfl | (simp only [List.length_drop, List.length_take]; rfl)) ?_
        with_reducible refine (note_Both.calls kj5 a2_0 a2_1 a2_2 a2_3 t357 t358 t359 t360 t361 t362 t363 t364 _ A32.out).mono ?_
        rintro e w60 ⟨rfl, hb⟩
        refine ⟨_, rfl, ?_⟩
        have n0_ := Aside0.mk (Kd.R_below (by (with_reducible repeat (first | apply Kd.R_alloc | apply Kd.R_drewN | apply Kd.R_drew)); exact HO332.out) hb)
        have n1_ := Aside0.mk (Kd.R_below (by (with_reducible repeat (first | apply Kd.R_alloc | apply Kd.R_drewN | apply Kd.R_drew)); exact HO341.out) hb)
        have n2_ := Aside0.mk (Kd.R_below (by (with_reducible repeat (first | apply Kd.R_alloc | apply Kd.R_drewN | apply Kd.R_drew)); exact HO354.out) hb)
        have n3_ := Aside0.mk (blk_below (g := gb322) (o := .cells #[.int .i64 a2_0, .string a2_1, .string a2_2, .int .u64 a2_3] 55 (0, 0)) (by (with_reducible repeat (first | refine blk_drewN ?_ _ | refine blk_drew ?_ | refine blk_alloc ?_ _)); exact BK322.out) hb)
        have n4_ := Aside0.mk (blk_below (g := gb323) (o := .cells #[.int .i64 a3_0, .string a3_1, .string a3_2, .int .u64 a3_3] 55 (0, 0)) (by (with_reducible repeat (first | refine blk_drewN ?_ _ | refine blk_drew ?_ | refine blk_alloc ?_ _)); exact BK323.out) hb)
        have n5_ := Aside0.mk (blk_below (g := gb324) (o := .cells #[.int .i64 a4_0, .string a4_1, .string a4_2, .int .u64 a4_3] 55 (0, 0)) (by (with_reducible repeat (first | refine blk_drewN ?_ _ | refine blk_drew ?_ | refine blk_alloc ?_ _)); exact BK324.out) hb)
        have n6_ := Aside0.mk (below_step (by repeat (first | (with_reducible first | exact HB.out | apply below_alloc | apply pw_below_drewN | apply below_drew1 | refine below_set ?_ GE322.out | refine below_set ?_ GE323.out | refine below_set ?_ GE324.out) | exact HB.out)) hb)
        clear HO332
        clear HO341
        clear HO354
        clear BK322
        clear BK323
        clear BK324
        clear HB
        have HO332 := n0_
        have HO341 := n1_
        have HO354 := n2_
        have BK322 := n3_
        have BK323 := n4_
        have BK324 := n5_
        have HB := n6_
        clear n0_ n1_ n2_ n3_ n4_ n5_ n6_
        (try clear hb)
        (try clear hb2)
        (try clear hk)
        (try clear hi)
        refine hK.out _ _ ⟨(blk_cell BK322.out 0).trans rfl, (blk_cell BK322.out 1).trans rfl, (blk_cell BK322.out 2).trans rfl, (blk_cell BK322.out 3).trans rfl, (blk_cell BK323.out 0).trans rfl, (blk_cell BK323.out 1).trans rfl, (blk_cell BK323.out 2).trans rfl, (blk_cell BK323.out 3).trans rfl, (blk_cell BK324.out 0).trans rfl, (blk_cell BK324.out 1).trans rfl, (blk_cell BK324.out 2).trans rfl, (blk_cell BK324.out 3).trans rfl⟩ (fun hHeld => ?_)
        clear hK K
        refine norm_ (a' := ?_) ?_ ?_
        rotate_left
        · show Act.put _ (some 69) _ = _
          simp only [Act.put, List.setIfInBounds_toArray, List.set_cons_zero, List.set_cons_succ, i64_w, i32_w]
          rfl
        refine one_ (i := 7) (N := some 70) #[true, true, true, true, true, true, true, true, false, false, false, false, false, false] rfl rfl (one_of HT_.out (by kernel_rfl)) (by decide) (fun K hK => ?_)
        refine Kd.R_lit_step k55 _ 55 ?hg (N := 70) ?hd (xs := ([(⟨t361, t362, t363, t364⟩ : S55)] : List (S55))) (inner := [.int .i64 t361, .string t362, .string t363, .int .u64 t364]) (ok := fun _ => True) (okp := fun _ => True) ?hr ?hp (fun _ hk => hk) trivial (Below.refl _ _) (Nat.le_refl _) (by simp) ?_; (case hd => rfl); (case hg => rfl); (case hr => first | (go_simp; done) | (go_simp; rfl)); (case hp => exact (Reps.c4 (show Kd.M k55 _ _ _ (⟨t361, t362, t363, t364⟩ : S55) [.int .i64 t361, .string t362, .string t363, .int .u64 t364] from (k55_mkM _ _ _ (⟨t361, t362, t363, t364⟩ : S55) )) (Reps.none _ _)))
        intro v366 w61 ho62 hb hg_ hnew_
        clear hg_ hnew_
        (first | rw [← Ny365.out] at ho62 | (simp only [Int.reduceToNat] at ho62; rw [← Ny365.out] at ho62))
        have n0_ := Aside0.mk (Kd.R_elder' (by (with_reducible repeat (first | apply Kd.R_alloc | apply Kd.R_drewN | apply Kd.R_drew)); exact HO332.out) (Kd.R_base ho62) hb)
        have n1_ := Aside0.mk (Kd.R_elder' (by (with_reducible repeat (first | apply Kd.R_alloc | apply Kd.R_drewN | apply Kd.R_drew)); exact HO341.out) (Kd.R_base ho62) hb)
        have n2_ := Aside0.mk (Kd.R_elder' (by (with_reducible repeat (first | apply Kd.R_alloc | apply Kd.R_drewN | apply Kd.R_drew)); exact HO354.out) (Kd.R_base ho62) hb)
        have n3_ := Aside0.mk (Kd.R_lower (Kd.R_newB (Kd.R_newB (Kd.R_newB (Kd.R_new' (Kd.R_new' (Kd.R_new' ho62 (Kd.R_lt (by (with_reducible repeat (first | apply Kd.R_alloc | apply Kd.R_drewN | apply Kd.R_drew)); exact HO332.out))) (Kd.R_lt (by (with_reducible repeat (first | apply Kd.R_alloc | apply Kd.R_drewN | apply Kd.R_drew)); exact HO341.out))) (Kd.R_lt (by (with_reducible repeat (first | apply Kd.R_alloc | apply Kd.R_drewN | apply Kd.R_drew)); exact HO354.out))) (g := gb322) (o := .cells #[.int .i64 a2_0, .string a2_1, .string a2_2, .int .u64 a2_3] 55 (0, 0)) (by (with_reducible repeat (first | refine blk_drewN ?_ _ | refine blk_drew ?_ | refine blk_alloc ?_ _)); exact BK322.out)) (g := gb323) (o := .cells #[.int .i64 a3_0, .string a3_1, .string a3_2, .int .u64 a3_3] 55 (0, 0)) (by (with_reducible repeat (first | refine blk_drewN ?_ _ | refine blk_drew ?_ | refine blk_alloc ?_ _)); exact BK323.out)) (g := gb324) (o := .cells #[.int .i64 a4_0, .string a4_1, .string a4_2, .int .u64 a4_3] 55 (0, 0)) (by (with_reducible repeat (first | refine blk_drewN ?_ _ | refine blk_drew ?_ | refine blk_alloc ?_ _)); exact BK324.out)) (below_size (by repeat (first | (with_reducible first | exact HB.out | apply below_alloc | apply pw_below_drewN | apply below_drew1 | refine below_set ?_ GE322.out | refine below_set ?_ GE323.out | refine below_set ?_ GE324.out) | exact HB.out))))
        have n4_ := Aside0.mk (blk_below (g := gb322) (o := .cells #[.int .i64 a2_0, .string a2_1, .string a2_2, .int .u64 a2_3] 55 (0, 0)) (by (with_reducible repeat (first | refine blk_drewN ?_ _ | refine blk_drew ?_ | refine blk_alloc ?_ _)); exact BK322.out) hb)
        have n5_ := Aside0.mk (blk_below (g := gb323) (o := .cells #[.int .i64 a3_0, .string a3_1, .string a3_2, .int .u64 a3_3] 55 (0, 0)) (by (with_reducible repeat (first | refine blk_drewN ?_ _ | refine blk_drew ?_ | refine blk_alloc ?_ _)); exact BK323.out) hb)
        have n6_ := Aside0.mk (blk_below (g := gb324) (o := .cells #[.int .i64 a4_0, .string a4_1, .string a4_2, .int .u64 a4_3] 55 (0, 0)) (by (with_reducible repeat (first | refine blk_drewN ?_ _ | refine blk_drew ?_ | refine blk_alloc ?_ _)); exact BK324.out) hb)
        have n7_ := Aside0.mk (below_step (by repeat (first | (with_reducible first | exact HB.out | apply below_alloc | apply pw_below_drewN | apply below_drew1 | refine below_set ?_ GE322.out | refine below_set ?_ GE323.out | refine below_set ?_ GE324.out) | exact HB.out)) hb)
        clear HO332
        clear HO341
        clear HO354
        clear BK322
        clear BK323
        clear BK324
        clear HB
        have HO332 := n0_
        have HO341 := n1_
        have HO354 := n2_
        have HO367 := n3_
        have BK322 := n4_
        have BK323 := n5_
        have BK324 := n6_
        have HB := n7_
        clear n0_ n1_ n2_ n3_ n4_ n5_ n6_ n7_
        clear hb ho62
        obtain ⟨Ao63, co63, eo63⟩ := Kd.R_slice HO367.out
        (first | subst eo63 | (injection eo63 with f1_ f2_ f3_; have f4_ := f1_.symm; have f5_ := f3_.symm; clear f1_ f2_ f3_; subst f4_; subst f5_))
        refine hK.out _ _ ⟨(blk_cell BK322.out 0).trans rfl, (blk_cell BK322.out 1).trans rfl, (blk_cell BK322.out 2).trans rfl, (blk_cell BK322.out 3).trans rfl, (blk_cell BK323.out 0).trans rfl, (blk_cell BK323.out 1).trans rfl, (blk_cell BK323.out 2).trans rfl, (blk_cell BK323.out 3).trans rfl, (blk_cell BK324.out 0).trans rfl, (blk_cell BK324.out 1).trans rfl, (blk_cell BK324.out 2).trans rfl, (blk_cell BK324.out 3).trans rfl⟩ (fun hHeld => ?_)
        clear hK K
        refine norm_ (a' := ?_) ?_ ?_
        rotate_left
        · show Act.put _ (some 70) _ = _
          simp only [Act.put, List.setIfInBounds_toArray, List.set_cons_zero, List.set_cons_succ, i64_w, i32_w]
          rfl
        refine one_ (i := 8) (N := some 71) #[true, true, true, true, true, true, true, true, true, false, false, false, false, false] rfl rfl (one_of HT_.out (by kernel_rfl)) (by decide) (fun K hK => ?_)
        refine goes_ Try.func30 (by kernel_rfl) rfl #[.string a0, .bool a1, .slice Ao63 y365.length co63] (by rfl) rfl rfl (by (try simp only [List.map_toArray, List.map_cons, List.map_nil]); first | done | rfl | (simp only [List.length_drop, List.length_take]; rfl)) ?_
        with_reducible refine (note_Done.calls kj5 a0 a1 _ _ y365 t368 t369 _ ?side1 ?side2 A33.out).mono ?_
        (case side1 => repeat (first | exact (Kd.R_reads' HO367.out).2.2 | (with_reducible refine Kd.C_alloc ?_ _) | (with_reducible refine Kd.C_drewN ?_ _) | (with_reducible refine Kd.C_drew ?_)))
        (case side2 => exact (Kd.R_reads' HO367.out).2.1)
        rintro e w64 ⟨rfl, hb⟩
        refine ⟨_, rfl, ?_⟩
        have n0_ := Aside0.mk (Kd.R_below (by (with_reducible repeat (first | apply Kd.R_alloc | apply Kd.R_drewN | apply Kd.R_drew)); exact HO332.out) hb)
        have n1_ := Aside0.mk (Kd.R_below (by (with_reducible repeat (first | apply Kd.R_alloc | apply Kd.R_drewN | apply Kd.R_drew)); exact HO341.out) hb)
        have n2_ := Aside0.mk (Kd.R_below (by (with_reducible repeat (first | apply Kd.R_alloc | apply Kd.R_drewN | apply Kd.R_drew)); exact HO354.out) hb)
        have n3_ := Aside0.mk (Kd.R_below (by (with_reducible repeat (first | apply Kd.R_alloc | apply Kd.R_drewN | apply Kd.R_drew)); exact HO367.out) hb)
        have n4_ := Aside0.mk (blk_below (g := gb322) (o := .cells #[.int .i64 a2_0, .string a2_1, .string a2_2, .int .u64 a2_3] 55 (0, 0)) (by (with_reducible repeat (first | refine blk_drewN ?_ _ | refine blk_drew ?_ | refine blk_alloc ?_ _)); exact BK322.out) hb)
        have n5_ := Aside0.mk (blk_below (g := gb323) (o := .cells #[.int .i64 a3_0, .string a3_1, .string a3_2, .int .u64 a3_3] 55 (0, 0)) (by (with_reducible repeat (first | refine blk_drewN ?_ _ | refine blk_drew ?_ | refine blk_alloc ?_ _)); exact BK323.out) hb)
        have n6_ := Aside0.mk (blk_below (g := gb324) (o := .cells #[.int .i64 a4_0, .string a4_1, .string a4_2, .int .u64 a4_3] 55 (0, 0)) (by (with_reducible repeat (first | refine blk_drewN ?_ _ | refine blk_drew ?_ | refine blk_alloc ?_ _)); exact BK324.out) hb)
        have n7_ := Aside0.mk (below_step (by repeat (first | (with_reducible first | exact HB.out | apply below_alloc | apply pw_below_drewN | apply below_drew1 | refine below_set ?_ GE322.out | refine below_set ?_ GE323.out | refine below_set ?_ GE324.out) | exact HB.out)) hb)
        clear HO332
        clear HO341
        clear HO354
        clear HO367
        clear BK322
        clear BK323
        clear BK324
        clear HB
        have HO332 := n0_
        have HO341 := n1_
        have HO354 := n2_
        have HO367 := n3_
        have BK322 := n4_
        have BK323 := n5_
        have BK324 := n6_
        have HB := n7_
        clear n0_ n1_ n2_ n3_ n4_ n5_ n6_ n7_
        (try clear hb)
        (try clear hb2)
        (try clear hk)
        (try clear hi)
        refine hK.out _ _ ⟨(blk_cell BK322.out 0).trans rfl, (blk_cell BK322.out 1).trans rfl, (blk_cell BK322.out 2).trans rfl, (blk_cell BK322.out 3).trans rfl, (blk_cell BK323.out 0).trans rfl, (blk_cell BK323.out 1).trans rfl, (blk_cell BK323.out 2).trans rfl, (blk_cell BK323.out 3).trans rfl, (blk_cell BK324.out 0).trans rfl, (blk_cell BK324.out 1).trans rfl, (blk_cell BK324.out 2).trans rfl, (blk_cell BK324.out 3).trans rfl⟩ (fun hHeld => ?_)
        clear hK K
        refine norm_ (a' := ?_) ?_ ?_
        rotate_left
        · show Act.put _ (some 71) _ = _
          simp only [Act.put, List.setIfInBounds_toArray, List.set_cons_zero, List.set_cons_succ, i64_w, i32_w]
          rfl
        refine pure_ (i := 9) (N := some 62) (v := ?_) (a' := ?_) #[true, true, true, true, true, true, true, true, true, true, false, false, false, false] rfl rfl (any_of HT_.out (by kernel_rfl)) (fun _ _ _ h => h) (Or.inl ⟨by rfl, ?_⟩) ?_ ?_
        rotate_left
        · intro w'
          go_simp
          first | with_reducible rfl | (simp only [fld_law09NoteBoth_55_0, fld_law09NoteBoth_55_1, fld_law09NoteBoth_55_2, fld_law09NoteBoth_55_3, Result.andThen_ok]; with_reducible rfl) | (simp only [fld_law09NoteBoth_55_0, fld_law09NoteBoth_55_1, fld_law09NoteBoth_55_2, fld_law09NoteBoth_55_3, Result.andThen_ok]; rfl)
        rotate_left
        · simp only [Act.put, List.setIfInBounds_toArray, List.set_cons_zero, List.set_cons_succ, i64_w, i32_w]
          rfl
        refine pure_ (i := 10) (N := some 72) (v := ?_) (a' := ?_) #[true, true, true, true, true, true, true, true, true, true, true, false, false, false] rfl rfl (any_of HT_.out (by kernel_rfl)) (fun _ _ _ h => h) (Or.inl ⟨by rfl, ?_⟩) ?_ ?_
        rotate_left
        · intro w'
          go_simp
          first | with_reducible rfl | (simp only [fld_law09NoteBoth_55_0, fld_law09NoteBoth_55_1, fld_law09NoteBoth_55_2, fld_law09NoteBoth_55_3, Result.andThen_ok]; with_reducible rfl) | (simp only [fld_law09NoteBoth_55_0, fld_law09NoteBoth_55_1, fld_law09NoteBoth_55_2, fld_law09NoteBoth_55_3, Result.andThen_ok]; rfl)
        rotate_left
        · simp only [Act.put, List.setIfInBounds_toArray, List.set_cons_zero, List.set_cons_succ, i64_w, i32_w]
          rfl
        refine pure_ (i := 11) (N := some 73) (v := ?_) (a' := ?_) #[true, true, true, true, true, true, true, true, true, true, true, true, false, false] rfl rfl (any_of HT_.out (by kernel_rfl)) (fun _ _ _ h => h) (Or.inl ⟨by rfl, ?_⟩) ?_ ?_
        rotate_left
        · intro w'
          go_simp
          first | with_reducible rfl | (simp only [fld_law09NoteBoth_55_0, fld_law09NoteBoth_55_1, fld_law09NoteBoth_55_2, fld_law09NoteBoth_55_3, Result.andThen_ok]; with_reducible rfl) | (simp only [fld_law09NoteBoth_55_0, fld_law09NoteBoth_55_1, fld_law09NoteBoth_55_2, fld_law09NoteBoth_55_3, Result.andThen_ok]; rfl)
        rotate_left
        · simp only [Act.put, List.setIfInBounds_toArray, List.set_cons_zero, List.set_cons_succ, i64_w, i32_w]
          rfl
        refine pure_ (i := 12) (N := some 17) (v := ?_) (a' := ?_) #[true, true, true, true, true, true, true, true, true, true, true, true, true, false] rfl rfl (any_of HT_.out (by kernel_rfl)) (fun _ _ _ h => h) (Or.inl ⟨by rfl, ?_⟩) ?_ ?_
        rotate_left
        · intro w'
          go_simp
          first | with_reducible rfl | (simp only [fld_law09NoteBoth_55_0, fld_law09NoteBoth_55_1, fld_law09NoteBoth_55_2, fld_law09NoteBoth_55_3, Result.andThen_ok]; with_reducible rfl) | (simp only [fld_law09NoteBoth_55_0, fld_law09NoteBoth_55_1, fld_law09NoteBoth_55_2, fld_law09NoteBoth_55_3, Result.andThen_ok]; rfl)
        rotate_left
        · simp only [Act.put, List.setIfInBounds_toArray, List.set_cons_zero, List.set_cons_succ, i64_w, i32_w]
          rfl
        refine pure_ (i := 13) (N := some 18) (v := ?_) (a' := ?_) #[true, true, true, true, true, true, true, true, true, true, true, true, true, true] rfl rfl (any_of HT_.out (by kernel_rfl)) (fun _ _ _ h => h) (Or.inl ⟨by rfl, ?_⟩) ?_ ?_
        rotate_left
        · intro w'
          go_simp
          first | with_reducible rfl | (simp only [fld_law09NoteBoth_55_0, fld_law09NoteBoth_55_1, fld_law09NoteBoth_55_2, fld_law09NoteBoth_55_3, Result.andThen_ok]; with_reducible rfl) | (simp only [fld_law09NoteBoth_55_0, fld_law09NoteBoth_55_1, fld_law09NoteBoth_55_2, fld_law09NoteBoth_55_3, Result.andThen_ok]; rfl)
        rotate_left
        · simp only [Act.put, List.setIfInBounds_toArray, List.set_cons_zero, List.set_cons_succ, i64_w, i32_w]
          rfl
        refine done_ (done_of HT_.out (by kernel_rfl)) ?_
        go_upto_region 7 with (fail)
        go_cut [86] (fun v86 wc => ∃ (kq : Nat) (x86_33 : Bool), v86 = .bool x86_33 ∧ Aside0 (weirkeeperlaw09_NoteBoth.j1 kq t333 t334 t342 t343 t355 t356 t368 t369 x86_33 a2_0 a2_1 a2_2 a2_3 a3_0 a3_1 a3_2 a3_3 = some true) ∧ Aside0 (kq ≤ kj5) ∧ Aside0 (wc.heap[gb322]? = some (.cells #[.int .i64 a2_0, .string a2_1, .string a2_2, .int .u64 a2_3] 55 (0, 0))) ∧ Aside0 (wc.heap[gb323]? = some (.cells #[.int .i64 a3_0, .string a3_1, .string a3_2, .int .u64 a3_3] 55 (0, 0))) ∧ Aside0 (wc.heap[gb324]? = some (.cells #[.int .i64 a4_0, .string a4_1, .string a4_2, .int .u64 a4_3] 55 (0, 0))) ∧ Aside0 (Below w.heap.size w wc))
        case first =>
          have H := HC34.out
          clear HC34
          replace H := Option.bind_eq_some_iff.mp H
          obtain ⟨t370, A650, H⟩ := H
          replace H : (if t370 = true then ((note_Right.f kj5 a3_0 a3_1 a3_2 a3_3).bind fun t371 => (if t371 = true then ((note_Both.f kj5 a2_0 a2_1 a2_2 a2_3 a3_0 a3_1 a3_2 a3_3).bind fun bt372 => ((note_Right.f kj5 bt372.1 bt372.2.1 bt372.2.2.1 bt372.2.2.2).bind fun t376 => (weirkeeperlaw09_NoteBoth.j1 kj5 t333 t334 t342 t343 t355 t356 t368 t369 (!t376) a2_0 a2_1 a2_2 a2_3 a3_0 a3_1 a3_2 a3_3))) else (weirkeeperlaw09_NoteBoth.j1 kj5 t333 t334 t342 t343 t355 t356 t368 t369 false a2_0 a2_1 a2_2 a2_3 a3_0 a3_1 a3_2 a3_3))) else (weirkeeperlaw09_NoteBoth.j1 kj5 t333 t334 t342 t343 t355 t356 t368 t369 false a2_0 a2_1 a2_2 a2_3 a3_0 a3_1 a3_2 a3_3)) = some true := H
          have A65 := Aside0.mk A650
          clear A650
          by_cases c66 : t370 = true
          · subst c66
            have H1 : ((note_Right.f kj5 a3_0 a3_1 a3_2 a3_3).bind fun t371 => (if t371 = true then ((note_Both.f kj5 a2_0 a2_1 a2_2 a2_3 a3_0 a3_1 a3_2 a3_3).bind fun bt372 => ((note_Right.f kj5 bt372.1 bt372.2.1 bt372.2.2.1 bt372.2.2.2).bind fun t376 => (weirkeeperlaw09_NoteBoth.j1 kj5 t333 t334 t342 t343 t355 t356 t368 t369 (!t376) a2_0 a2_1 a2_2 a2_3 a3_0 a3_1 a3_2 a3_3))) else (weirkeeperlaw09_NoteBoth.j1 kj5 t333 t334 t342 t343 t355 t356 t368 t369 false a2_0 a2_1 a2_2 a2_3 a3_0 a3_1 a3_2 a3_3))) = some true := by rw [if_pos rfl] at H; exact H
            clear H
            have H := H1
            clear H1
            replace H := Option.bind_eq_some_iff.mp H
            obtain ⟨t371, A670, H⟩ := H
            replace H : (if t371 = true then ((note_Both.f kj5 a2_0 a2_1 a2_2 a2_3 a3_0 a3_1 a3_2 a3_3).bind fun bt372 => ((note_Right.f kj5 bt372.1 bt372.2.1 bt372.2.2.1 bt372.2.2.2).bind fun t376 => (weirkeeperlaw09_NoteBoth.j1 kj5 t333 t334 t342 t343 t355 t356 t368 t369 (!t376) a2_0 a2_1 a2_2 a2_3 a3_0 a3_1 a3_2 a3_3))) else (weirkeeperlaw09_NoteBoth.j1 kj5 t333 t334 t342 t343 t355 t356 t368 t369 false a2_0 a2_1 a2_2 a2_3 a3_0 a3_1 a3_2 a3_3)) = some true := H
            have A67 := Aside0.mk A670
            clear A670
            by_cases c68 : t371 = true
            · subst c68
              have H1 : ((note_Both.f kj5 a2_0 a2_1 a2_2 a2_3 a3_0 a3_1 a3_2 a3_3).bind fun bt372 => ((note_Right.f kj5 bt372.1 bt372.2.1 bt372.2.2.1 bt372.2.2.2).bind fun t376 => (weirkeeperlaw09_NoteBoth.j1 kj5 t333 t334 t342 t343 t355 t356 t368 t369 (!t376) a2_0 a2_1 a2_2 a2_3 a3_0 a3_1 a3_2 a3_3))) = some true := by rw [if_pos rfl] at H; exact H
              clear H
              have H := H1
              clear H1
              replace H := Option.bind_eq_some_iff.mp H
              obtain ⟨⟨t372, t373, t374, t375⟩, A690, H⟩ := H
              replace H : ((note_Right.f kj5 t372 t373 t374 t375).bind fun t376 => (weirkeeperlaw09_NoteBoth.j1 kj5 t333 t334 t342 t343 t355 t356 t368 t369 (!t376) a2_0 a2_1 a2_2 a2_3 a3_0 a3_1 a3_2 a3_3)) = some true := H
              have A69 := Aside0.mk A690
              clear A690
              replace H := Option.bind_eq_some_iff.mp H
              obtain ⟨t376, A700, H⟩ := H
              replace H : (weirkeeperlaw09_NoteBoth.j1 kj5 t333 t334 t342 t343 t355 t356 t368 t369 (!t376) a2_0 a2_1 a2_2 a2_3 a3_0 a3_1 a3_2 a3_3) = some true := H
              have A70 := Aside0.mk A700
              clear A700
              have H' := Aside0.mk H
              clear H
              have hnb71 := NB322_323.out
              have hnc71 := NB323_322.out
              have hnb72 := NB322_324.out
              have hnc72 := NB324_322.out
              have hcz73_0 : w64.cell? ⟨gb322, 0, none⟩ = some (.int .i64 a2_0) := (blk_cell BK322.out 0).trans rfl
              have hcz73_1 : w64.cell? ⟨gb322, 1, none⟩ = some (.string a2_1) := (blk_cell BK322.out 1).trans rfl
              have hcz73_2 : w64.cell? ⟨gb322, 2, none⟩ = some (.string a2_2) := (blk_cell BK322.out 2).trans rfl
              have hcz73_3 : w64.cell? ⟨gb322, 3, none⟩ = some (.int .u64 a2_3) := (blk_cell BK322.out 3).trans rfl
              have hfz73_0 := blk_frozen BK322.out 0
              have hfz73_1 := blk_frozen BK322.out 1
              have hfz73_2 := blk_frozen BK322.out 2
              have hfz73_3 := blk_frozen BK322.out 3
              go_wp2_with (first | ((with_reducible refine gate_callee (f := 32) rfl ?_); refine goesL_ (some 75) rfl rfl Try.func32 (by kernel_rfl) rfl #[.agg #[.int .i64 a2_0, .string a2_1, .string a2_2, .int .u64 a2_3]] rfl (by (try simp only [List.map_toArray, List.map_cons, List.map_nil]); first | done | rfl | (simp only [List.length_drop, List.length_take]; rfl)) ?_; (with_reducible refine (note_Right.calls kj5 a2_0 a2_1 a2_2 a2_3 true _ A65.out).mono ?_); rintro e w74 ⟨rfl, hb⟩; refine ⟨_, rfl, ?_⟩; have n0_ := Aside0.mk (Kd.R_below (by (with_reducible repeat (first | apply Kd.R_alloc | apply Kd.R_drewN | apply Kd.R_drew)); exact HO332.out) hb); have n1_ := Aside0.mk (Kd.R_below (by (with_reducible repeat (first | apply Kd.R_alloc | apply Kd.R_drewN | apply Kd.R_drew)); exact HO341.out) hb); have n2_ := Aside0.mk (Kd.R_below (by (with_reducible repeat (first | apply Kd.R_alloc | apply Kd.R_drewN | apply Kd.R_drew)); exact HO354.out) hb); have n3_ := Aside0.mk (Kd.R_below (by (with_reducible repeat (first | apply Kd.R_alloc | apply Kd.R_drewN | apply Kd.R_drew)); exact HO367.out) hb); have n4_ := Aside0.mk (blk_below (g := gb322) (o := .cells #[.int .i64 a2_0, .string a2_1, .string a2_2, .int .u64 a2_3] 55 (0, 0)) (by (with_reducible repeat (first | refine blk_drewN ?_ _ | refine blk_drew ?_ | refine blk_alloc ?_ _)); exact BK322.out) hb); have n5_ := Aside0.mk (blk_below (g := gb323) (o := .cells #[.int .i64 a3_0, .string a3_1, .string a3_2, .int .u64 a3_3] 55 (0, 0)) (by (with_reducible repeat (first | refine blk_drewN ?_ _ | refine blk_drew ?_ | refine blk_alloc ?_ _)); exact BK323.out) hb); have n6_ := Aside0.mk (blk_below (g := gb324) (o := .cells #[.int .i64 a4_0, .string a4_1, .string a4_2, .int .u64 a4_3] 55 (0, 0)) (by (with_reducible repeat (first | refine blk_drewN ?_ _ | refine blk_drew ?_ | refine blk_alloc ?_ _)); exact BK324.out) hb); have n7_ := Aside0.mk (below_step (by repeat (first | (with_reducible first | exact HB.out | apply below_alloc | apply pw_below_drewN | apply below_drew1 | refine below_set ?_ GE322.out | refine below_set ?_ GE323.out | refine below_set ?_ GE324.out) | exact HB.out)) hb); clear HO332; clear HO341; clear HO354; clear HO367; clear BK322; clear BK323; clear BK324; clear HB; have HO332 := n0_; have HO341 := n1_; have HO354 := n2_; have HO367 := n3_; have BK322 := n4_; have BK323 := n5_; have BK324 := n6_; have HB := n7_; clear n0_ n1_ n2_ n3_ n4_ n5_ n6_ n7_; (try clear hb); (try clear hb2); (try clear hk); (try clear hi); have hnb75 := NB323_324.out; have hnc75 := NB324_323.out; have hcz76_0 : w74.cell? ⟨gb323, 0, none⟩ = some (.int .i64 a3_0) := (blk_cell BK323.out 0).trans rfl; have hcz76_1 : w74.cell? ⟨gb323, 1, none⟩ = some (.string a3_1) := (blk_cell BK323.out 1).trans rfl; have hcz76_2 : w74.cell? ⟨gb323, 2, none⟩ = some (.string a3_2) := (blk_cell BK323.out 2).trans rfl; have hcz76_3 : w74.cell? ⟨gb323, 3, none⟩ = some (.int .u64 a3_3) := (blk_cell BK323.out 3).trans rfl; have hfz76_0 := blk_frozen BK323.out 0; have hfz76_1 := blk_frozen BK323.out 1; have hfz76_2 := blk_frozen BK323.out 2; have hfz76_3 := blk_frozen BK323.out 3) | (go_at_call 32; (with_reducible refine (note_Right.calls kj5 a3_0 a3_1 a3_2 a3_3 true _ A67.out).mono ?_); rintro e w77 ⟨rfl, hb⟩; have n0_ := Aside0.mk (Kd.R_below (by (with_reducible repeat (first | apply Kd.R_alloc | apply Kd.R_drewN | apply Kd.R_drew)); exact HO332.out) hb); have n1_ := Aside0.mk (Kd.R_below (by (with_reducible repeat (first | apply Kd.R_alloc | apply Kd.R_drewN | apply Kd.R_drew)); exact HO341.out) hb); have n2_ := Aside0.mk (Kd.R_below (by (with_reducible repeat (first | apply Kd.R_alloc | apply Kd.R_drewN | apply Kd.R_drew)); exact HO354.out) hb); have n3_ := Aside0.mk (Kd.R_below (by (with_reducible repeat (first | apply Kd.R_alloc | apply Kd.R_drewN | apply Kd.R_drew)); exact HO367.out) hb); have n4_ := Aside0.mk (blk_below (g := gb322) (o := .cells #[.int .i64 a2_0, .string a2_1, .string a2_2, .int .u64 a2_3] 55 (0, 0)) (by (with_reducible repeat (first | refine blk_drewN ?_ _ | refine blk_drew ?_ | refine blk_alloc ?_ _)); exact BK322.out) hb); have n5_ := Aside0.mk (blk_below (g := gb323) (o := .cells #[.int .i64 a3_0, .string a3_1, .string a3_2, .int .u64 a3_3] 55 (0, 0)) (by (with_reducible repeat (first | refine blk_drewN ?_ _ | refine blk_drew ?_ | refine blk_alloc ?_ _)); exact BK323.out) hb); have n6_ := Aside0.mk (blk_below (g := gb324) (o := .cells #[.int .i64 a4_0, .string a4_1, .string a4_2, .int .u64 a4_3] 55 (0, 0)) (by (with_reducible repeat (first | refine blk_drewN ?_ _ | refine blk_drew ?_ | refine blk_alloc ?_ _)); exact BK324.out) hb); have n7_ := Aside0.mk (below_step (by repeat (first | (with_reducible first | exact HB.out | apply below_alloc | apply pw_below_drewN | apply below_drew1 | refine below_set ?_ GE322.out | refine below_set ?_ GE323.out | refine below_set ?_ GE324.out) | exact HB.out)) hb); clear HO332; clear HO341; clear HO354; clear HO367; clear BK322; clear BK323; clear BK324; clear HB; have HO332 := n0_; have HO341 := n1_; have HO354 := n2_; have HO367 := n3_; have BK322 := n4_; have BK323 := n5_; have BK324 := n6_; have HB := n7_; clear n0_ n1_ n2_ n3_ n4_ n5_ n6_ n7_; (try clear hb); (try clear hb2); (try clear hk); (try clear hi); have hcz78_0 : w77.cell? ⟨gb322, 0, none⟩ = some (.int .i64 a2_0) := (blk_cell BK322.out 0).trans rfl; have hcz78_1 : w77.cell? ⟨gb322, 1, none⟩ = some (.string a2_1) := (blk_cell BK322.out 1).trans rfl; have hcz78_2 : w77.cell? ⟨gb322, 2, none⟩ = some (.string a2_2) := (blk_cell BK322.out 2).trans rfl; have hcz78_3 : w77.cell? ⟨gb322, 3, none⟩ = some (.int .u64 a2_3) := (blk_cell BK322.out 3).trans rfl; have hfz78_0 := blk_frozen BK322.out 0; have hfz78_1 := blk_frozen BK322.out 1; have hfz78_2 := blk_frozen BK322.out 2; have hfz78_3 := blk_frozen BK322.out 3; have hcz79_0 : w77.cell? ⟨gb323, 0, none⟩ = some (.int .i64 a3_0) := (blk_cell BK323.out 0).trans rfl; have hcz79_1 : w77.cell? ⟨gb323, 1, none⟩ = some (.string a3_1) := (blk_cell BK323.out 1).trans rfl; have hcz79_2 : w77.cell? ⟨gb323, 2, none⟩ = some (.string a3_2) := (blk_cell BK323.out 2).trans rfl; have hcz79_3 : w77.cell? ⟨gb323, 3, none⟩ = some (.int .u64 a3_3) := (blk_cell BK323.out 3).trans rfl; have hfz79_0 := blk_frozen BK323.out 0; have hfz79_1 := blk_frozen BK323.out 1; have hfz79_2 := blk_frozen BK323.out 2; have hfz79_3 := blk_frozen BK323.out 3) | (go_at_call 31; (with_reducible refine (note_Both.calls kj5 a2_0 a2_1 a2_2 a2_3 a3_0 a3_1 a3_2 a3_3 t372 t373 t374 t375 _ A69.out).mono ?_); rintro e w80 ⟨rfl, hb⟩; have n0_ := Aside0.mk (Kd.R_below (by (with_reducible repeat (first | apply Kd.R_alloc | apply Kd.R_drewN | apply Kd.R_drew)); exact HO332.out) hb); have n1_ := Aside0.mk (Kd.R_below (by (with_reducible repeat (first | apply Kd.R_alloc | apply Kd.R_drewN | apply Kd.R_drew)); exact HO341.out) hb); have n2_ := Aside0.mk (Kd.R_below (by (with_reducible repeat (first | apply Kd.R_alloc | apply Kd.R_drewN | apply Kd.R_drew)); exact HO354.out) hb); have n3_ := Aside0.mk (Kd.R_below (by (with_reducible repeat (first | apply Kd.R_alloc | apply Kd.R_drewN | apply Kd.R_drew)); exact HO367.out) hb); have n4_ := Aside0.mk (blk_below (g := gb322) (o := .cells #[.int .i64 a2_0, .string a2_1, .string a2_2, .int .u64 a2_3] 55 (0, 0)) (by (with_reducible repeat (first | refine blk_drewN ?_ _ | refine blk_drew ?_ | refine blk_alloc ?_ _)); exact BK322.out) hb); have n5_ := Aside0.mk (blk_below (g := gb323) (o := .cells #[.int .i64 a3_0, .string a3_1, .string a3_2, .int .u64 a3_3] 55 (0, 0)) (by (with_reducible repeat (first | refine blk_drewN ?_ _ | refine blk_drew ?_ | refine blk_alloc ?_ _)); exact BK323.out) hb); have n6_ := Aside0.mk (blk_below (g := gb324) (o := .cells #[.int .i64 a4_0, .string a4_1, .string a4_2, .int .u64 a4_3] 55 (0, 0)) (by (with_reducible repeat (first | refine blk_drewN ?_ _ | refine blk_drew ?_ | refine blk_alloc ?_ _)); exact BK324.out) hb); have n7_ := Aside0.mk (below_step (by repeat (first | (with_reducible first | exact HB.out | apply below_alloc | apply pw_below_drewN | apply below_drew1 | refine below_set ?_ GE322.out | refine below_set ?_ GE323.out | refine below_set ?_ GE324.out) | exact HB.out)) hb); clear HO332; clear HO341; clear HO354; clear HO367; clear BK322; clear BK323; clear BK324; clear HB; have HO332 := n0_; have HO341 := n1_; have HO354 := n2_; have HO367 := n3_; have BK322 := n4_; have BK323 := n5_; have BK324 := n6_; have HB := n7_; clear n0_ n1_ n2_ n3_ n4_ n5_ n6_ n7_; (try clear hb); (try clear hb2); (try clear hk); (try clear hi)) | (go_at_call 32; (with_reducible refine (note_Right.calls kj5 t372 t373 t374 t375 t376 _ A70.out).mono ?_); rintro e w81 ⟨rfl, hb⟩; have n0_ := Aside0.mk (Kd.R_below (by (with_reducible repeat (first | apply Kd.R_alloc | apply Kd.R_drewN | apply Kd.R_drew)); exact HO332.out) hb); have n1_ := Aside0.mk (Kd.R_below (by (with_reducible repeat (first | apply Kd.R_alloc | apply Kd.R_drewN | apply Kd.R_drew)); exact HO341.out) hb); have n2_ := Aside0.mk (Kd.R_below (by (with_reducible repeat (first | apply Kd.R_alloc | apply Kd.R_drewN | apply Kd.R_drew)); exact HO354.out) hb); have n3_ := Aside0.mk (Kd.R_below (by (with_reducible repeat (first | apply Kd.R_alloc | apply Kd.R_drewN | apply Kd.R_drew)); exact HO367.out) hb); have n4_ := Aside0.mk (blk_below (g := gb322) (o := .cells #[.int .i64 a2_0, .string a2_1, .string a2_2, .int .u64 a2_3] 55 (0, 0)) (by (with_reducible repeat (first | refine blk_drewN ?_ _ | refine blk_drew ?_ | refine blk_alloc ?_ _)); exact BK322.out) hb); have n5_ := Aside0.mk (blk_below (g := gb323) (o := .cells #[.int .i64 a3_0, .string a3_1, .string a3_2, .int .u64 a3_3] 55 (0, 0)) (by (with_reducible repeat (first | refine blk_drewN ?_ _ | refine blk_drew ?_ | refine blk_alloc ?_ _)); exact BK323.out) hb); have n6_ := Aside0.mk (blk_below (g := gb324) (o := .cells #[.int .i64 a4_0, .string a4_1, .string a4_2, .int .u64 a4_3] 55 (0, 0)) (by (with_reducible repeat (first | refine blk_drewN ?_ _ | refine blk_drew ?_ | refine blk_alloc ?_ _)); exact BK324.out) hb); have n7_ := Aside0.mk (below_step (by repeat (first | (with_reducible first | exact HB.out | apply below_alloc | apply pw_below_drewN | apply below_drew1 | refine below_set ?_ GE322.out | refine below_set ?_ GE323.out | refine below_set ?_ GE324.out) | exact HB.out)) hb); clear HO332; clear HO341; clear HO354; clear HO367; clear BK322; clear BK323; clear BK324; clear HB; have HO332 := n0_; have HO341 := n1_; have HO354 := n2_; have HO367 := n3_; have BK322 := n4_; have BK323 := n5_; have BK324 := n6_; have HB := n7_; clear n0_ n1_ n2_ n3_ n4_ n5_ n6_ n7_; (try clear hb); (try clear hb2); (try clear hk); (try clear hi)))
              go_meet
              case rel => exact ⟨_, (!t376), (by first | rfl | (simp; done) | (simp [*]; done)), H', ⟨by have := HJ5.out; first | omega | exact Nat.le_refl _⟩, ⟨by (with_reducible repeat (first | refine blk_drewN ?_ _ | refine blk_drew ?_ | refine blk_alloc ?_ _)); exact BK322.out⟩, ⟨by (with_reducible repeat (first | refine blk_drewN ?_ _ | refine blk_drew ?_ | refine blk_alloc ?_ _)); exact BK323.out⟩, ⟨by (with_reducible repeat (first | refine blk_drewN ?_ _ | refine blk_drew ?_ | refine blk_alloc ?_ _)); exact BK324.out⟩, ⟨by repeat (first | (with_reducible first | exact HB.out | apply below_alloc | apply pw_below_drewN | apply below_drew1 | refine below_set ?_ GE322.out | refine below_set ?_ GE323.out | refine below_set ?_ GE324.out) | exact HB.out)⟩⟩
            · replace c68 := Bool.eq_false_iff.mpr c68
              subst c68
              have H1 : (weirkeeperlaw09_NoteBoth.j1 kj5 t333 t334 t342 t343 t355 t356 t368 t369 false a2_0 a2_1 a2_2 a2_3 a3_0 a3_1 a3_2 a3_3) = some true := by rw [if_neg (show ¬ (false = true) by decide)] at H; exact H
              clear H
              have H := H1
              clear H1
              have H' := Aside0.mk H
              clear H
              have hnb82 := NB322_323.out
              have hnc82 := NB323_322.out
              have hnb83 := NB322_324.out
              have hnc83 := NB324_322.out
              have hcz84_0 : w64.cell? ⟨gb322, 0, none⟩ = some (.int .i64 a2_0) := (blk_cell BK322.out 0).trans rfl
              have hcz84_1 : w64.cell? ⟨gb322, 1, none⟩ = some (.string a2_1) := (blk_cell BK322.out 1).trans rfl
              have hcz84_2 : w64.cell? ⟨gb322, 2, none⟩ = some (.string a2_2) := (blk_cell BK322.out 2).trans rfl
              have hcz84_3 : w64.cell? ⟨gb322, 3, none⟩ = some (.int .u64 a2_3) := (blk_cell BK322.out 3).trans rfl
              have hfz84_0 := blk_frozen BK322.out 0
              have hfz84_1 := blk_frozen BK322.out 1
              have hfz84_2 := blk_frozen BK322.out 2
              have hfz84_3 := blk_frozen BK322.out 3
              go_wp2_with (first | ((with_reducible refine gate_callee (f := 32) rfl ?_); refine goesL_ (some 75) rfl rfl Try.func32 (by kernel_rfl) rfl #[.agg #[.int .i64 a2_0, .string a2_1, .string a2_2, .int .u64 a2_3]] rfl (by (try simp only [List.map_toArray, List.map_cons, List.map_nil]); first | done | rfl | (simp only [List.length_drop, List.length_take]; rfl)) ?_; (with_reducible refine (note_Right.calls kj5 a2_0 a2_1 a2_2 a2_3 true _ A65.out).mono ?_); rintro e w85 ⟨rfl, hb⟩; refine ⟨_, rfl, ?_⟩; have n0_ := Aside0.mk (Kd.R_below (by (with_reducible repeat (first | apply Kd.R_alloc | apply Kd.R_drewN | apply Kd.R_drew)); exact HO332.out) hb); have n1_ := Aside0.mk (Kd.R_below (by (with_reducible repeat (first | apply Kd.R_alloc | apply Kd.R_drewN | apply Kd.R_drew)); exact HO341.out) hb); have n2_ := Aside0.mk (Kd.R_below (by (with_reducible repeat (first | apply Kd.R_alloc | apply Kd.R_drewN | apply Kd.R_drew)); exact HO354.out) hb); have n3_ := Aside0.mk (Kd.R_below (by (with_reducible repeat (first | apply Kd.R_alloc | apply Kd.R_drewN | apply Kd.R_drew)); exact HO367.out) hb); have n4_ := Aside0.mk (blk_below (g := gb322) (o := .cells #[.int .i64 a2_0, .string a2_1, .string a2_2, .int .u64 a2_3] 55 (0, 0)) (by (with_reducible repeat (first | refine blk_drewN ?_ _ | refine blk_drew ?_ | refine blk_alloc ?_ _)); exact BK322.out) hb); have n5_ := Aside0.mk (blk_below (g := gb323) (o := .cells #[.int .i64 a3_0, .string a3_1, .string a3_2, .int .u64 a3_3] 55 (0, 0)) (by (with_reducible repeat (first | refine blk_drewN ?_ _ | refine blk_drew ?_ | refine blk_alloc ?_ _)); exact BK323.out) hb); have n6_ := Aside0.mk (blk_below (g := gb324) (o := .cells #[.int .i64 a4_0, .string a4_1, .string a4_2, .int .u64 a4_3] 55 (0, 0)) (by (with_reducible repeat (first | refine blk_drewN ?_ _ | refine blk_drew ?_ | refine blk_alloc ?_ _)); exact BK324.out) hb); have n7_ := Aside0.mk (below_step (by repeat (first | (with_reducible first | exact HB.out | apply below_alloc | apply pw_below_drewN | apply below_drew1 | refine below_set ?_ GE322.out | refine below_set ?_ GE323.out | refine below_set ?_ GE324.out) | exact HB.out)) hb); clear HO332; clear HO341; clear HO354; clear HO367; clear BK322; clear BK323; clear BK324; clear HB; have HO332 := n0_; have HO341 := n1_; have HO354 := n2_; have HO367 := n3_; have BK322 := n4_; have BK323 := n5_; have BK324 := n6_; have HB := n7_; clear n0_ n1_ n2_ n3_ n4_ n5_ n6_ n7_; (try clear hb); (try clear hb2); (try clear hk); (try clear hi); have hnb86 := NB323_324.out; have hnc86 := NB324_323.out; have hcz87_0 : w85.cell? ⟨gb323, 0, none⟩ = some (.int .i64 a3_0) := (blk_cell BK323.out 0).trans rfl; have hcz87_1 : w85.cell? ⟨gb323, 1, none⟩ = some (.string a3_1) := (blk_cell BK323.out 1).trans rfl; have hcz87_2 : w85.cell? ⟨gb323, 2, none⟩ = some (.string a3_2) := (blk_cell BK323.out 2).trans rfl; have hcz87_3 : w85.cell? ⟨gb323, 3, none⟩ = some (.int .u64 a3_3) := (blk_cell BK323.out 3).trans rfl; have hfz87_0 := blk_frozen BK323.out 0; have hfz87_1 := blk_frozen BK323.out 1; have hfz87_2 := blk_frozen BK323.out 2; have hfz87_3 := blk_frozen BK323.out 3) | (go_at_call 32; (with_reducible refine (note_Right.calls kj5 a3_0 a3_1 a3_2 a3_3 false _ A67.out).mono ?_); rintro e w88 ⟨rfl, hb⟩; have n0_ := Aside0.mk (Kd.R_below (by (with_reducible repeat (first | apply Kd.R_alloc | apply Kd.R_drewN | apply Kd.R_drew)); exact HO332.out) hb); have n1_ := Aside0.mk (Kd.R_below (by (with_reducible repeat (first | apply Kd.R_alloc | apply Kd.R_drewN | apply Kd.R_drew)); exact HO341.out) hb); have n2_ := Aside0.mk (Kd.R_below (by (with_reducible repeat (first | apply Kd.R_alloc | apply Kd.R_drewN | apply Kd.R_drew)); exact HO354.out) hb); have n3_ := Aside0.mk (Kd.R_below (by (with_reducible repeat (first | apply Kd.R_alloc | apply Kd.R_drewN | apply Kd.R_drew)); exact HO367.out) hb); have n4_ := Aside0.mk (blk_below (g := gb322) (o := .cells #[.int .i64 a2_0, .string a2_1, .string a2_2, .int .u64 a2_3] 55 (0, 0)) (by (with_reducible repeat (first | refine blk_drewN ?_ _ | refine blk_drew ?_ | refine blk_alloc ?_ _)); exact BK322.out) hb); have n5_ := Aside0.mk (blk_below (g := gb323) (o := .cells #[.int .i64 a3_0, .string a3_1, .string a3_2, .int .u64 a3_3] 55 (0, 0)) (by (with_reducible repeat (first | refine blk_drewN ?_ _ | refine blk_drew ?_ | refine blk_alloc ?_ _)); exact BK323.out) hb); have n6_ := Aside0.mk (blk_below (g := gb324) (o := .cells #[.int .i64 a4_0, .string a4_1, .string a4_2, .int .u64 a4_3] 55 (0, 0)) (by (with_reducible repeat (first | refine blk_drewN ?_ _ | refine blk_drew ?_ | refine blk_alloc ?_ _)); exact BK324.out) hb); have n7_ := Aside0.mk (below_step (by repeat (first | (with_reducible first | exact HB.out | apply below_alloc | apply pw_below_drewN | apply below_drew1 | refine below_set ?_ GE322.out | refine below_set ?_ GE323.out | refine below_set ?_ GE324.out) | exact HB.out)) hb); clear HO332; clear HO341; clear HO354; clear HO367; clear BK322; clear BK323; clear BK324; clear HB; have HO332 := n0_; have HO341 := n1_; have HO354 := n2_; have HO367 := n3_; have BK322 := n4_; have BK323 := n5_; have BK324 := n6_; have HB := n7_; clear n0_ n1_ n2_ n3_ n4_ n5_ n6_ n7_; (try clear hb); (try clear hb2); (try clear hk); (try clear hi)))
              go_meet
              case rel => exact ⟨_, (false), (by first | rfl | (simp; done) | (simp [*]; done)), H', ⟨by have := HJ5.out; first | omega | exact Nat.le_refl _⟩, ⟨by (with_reducible repeat (first | refine blk_drewN ?_ _ | refine blk_drew ?_ | refine blk_alloc ?_ _)); exact BK322.out⟩, ⟨by (with_reducible repeat (first | refine blk_drewN ?_ _ | refine blk_drew ?_ | refine blk_alloc ?_ _)); exact BK323.out⟩, ⟨by (with_reducible repeat (first | refine blk_drewN ?_ _ | refine blk_drew ?_ | refine blk_alloc ?_ _)); exact BK324.out⟩, ⟨by repeat (first | (with_reducible first | exact HB.out | apply below_alloc | apply pw_below_drewN | apply below_drew1 | refine below_set ?_ GE322.out | refine below_set ?_ GE323.out | refine below_set ?_ GE324.out) | exact HB.out)⟩⟩
          · replace c66 := Bool.eq_false_iff.mpr c66
            subst c66
            have H1 : (weirkeeperlaw09_NoteBoth.j1 kj5 t333 t334 t342 t343 t355 t356 t368 t369 false a2_0 a2_1 a2_2 a2_3 a3_0 a3_1 a3_2 a3_3) = some true := by rw [if_neg (show ¬ (false = true) by decide)] at H; exact H
            clear H
            have H := H1
            clear H1
            have H' := Aside0.mk H
            clear H
            have hnb89 := NB322_323.out
            have hnc89 := NB323_322.out
            have hnb90 := NB322_324.out
            have hnc90 := NB324_322.out
            have hcz91_0 : w64.cell? ⟨gb322, 0, none⟩ = some (.int .i64 a2_0) := (blk_cell BK322.out 0).trans rfl
            have hcz91_1 : w64.cell? ⟨gb322, 1, none⟩ = some (.string a2_1) := (blk_cell BK322.out 1).trans rfl
            have hcz91_2 : w64.cell? ⟨gb322, 2, none⟩ = some (.string a2_2) := (blk_cell BK322.out 2).trans rfl
            have hcz91_3 : w64.cell? ⟨gb322, 3, none⟩ = some (.int .u64 a2_3) := (blk_cell BK322.out 3).trans rfl
            have hfz91_0 := blk_frozen BK322.out 0
            have hfz91_1 := blk_frozen BK322.out 1
            have hfz91_2 := blk_frozen BK322.out 2
            have hfz91_3 := blk_frozen BK322.out 3
            go_wp2_with (first | ((with_reducible refine gate_callee (f := 32) rfl ?_); refine goesL_ (some 75) rfl rfl Try.func32 (by kernel_rfl) rfl #[.agg #[.int .i64 a2_0, .string a2_1, .string a2_2, .int .u64 a2_3]] rfl (by (try simp only [List.map_toArray, List.map_cons, List.map_nil]); first | done | rfl | (simp only [List.length_drop, List.length_take]; rfl)) ?_; (with_reducible refine (note_Right.calls kj5 a2_0 a2_1 a2_2 a2_3 false _ A65.out).mono ?_); rintro e w92 ⟨rfl, hb⟩; refine ⟨_, rfl, ?_⟩; have n0_ := Aside0.mk (Kd.R_below (by (with_reducible repeat (first | apply Kd.R_alloc | apply Kd.R_drewN | apply Kd.R_drew)); exact HO332.out) hb); have n1_ := Aside0.mk (Kd.R_below (by (with_reducible repeat (first | apply Kd.R_alloc | apply Kd.R_drewN | apply Kd.R_drew)); exact HO341.out) hb); have n2_ := Aside0.mk (Kd.R_below (by (with_reducible repeat (first | apply Kd.R_alloc | apply Kd.R_drewN | apply Kd.R_drew)); exact HO354.out) hb); have n3_ := Aside0.mk (Kd.R_below (by (with_reducible repeat (first | apply Kd.R_alloc | apply Kd.R_drewN | apply Kd.R_drew)); exact HO367.out) hb); have n4_ := Aside0.mk (blk_below (g := gb322) (o := .cells #[.int .i64 a2_0, .string a2_1, .string a2_2, .int .u64 a2_3] 55 (0, 0)) (by (with_reducible repeat (first | refine blk_drewN ?_ _ | refine blk_drew ?_ | refine blk_alloc ?_ _)); exact BK322.out) hb); have n5_ := Aside0.mk (blk_below (g := gb323) (o := .cells #[.int .i64 a3_0, .string a3_1, .string a3_2, .int .u64 a3_3] 55 (0, 0)) (by (with_reducible repeat (first | refine blk_drewN ?_ _ | refine blk_drew ?_ | refine blk_alloc ?_ _)); exact BK323.out) hb); have n6_ := Aside0.mk (blk_below (g := gb324) (o := .cells #[.int .i64 a4_0, .string a4_1, .string a4_2, .int .u64 a4_3] 55 (0, 0)) (by (with_reducible repeat (first | refine blk_drewN ?_ _ | refine blk_drew ?_ | refine blk_alloc ?_ _)); exact BK324.out) hb); have n7_ := Aside0.mk (below_step (by repeat (first | (with_reducible first | exact HB.out | apply below_alloc | apply pw_below_drewN | apply below_drew1 | refine below_set ?_ GE322.out | refine below_set ?_ GE323.out | refine below_set ?_ GE324.out) | exact HB.out)) hb); clear HO332; clear HO341; clear HO354; clear HO367; clear BK322; clear BK323; clear BK324; clear HB; have HO332 := n0_; have HO341 := n1_; have HO354 := n2_; have HO367 := n3_; have BK322 := n4_; have BK323 := n5_; have BK324 := n6_; have HB := n7_; clear n0_ n1_ n2_ n3_ n4_ n5_ n6_ n7_; (try clear hb); (try clear hb2); (try clear hk); (try clear hi)))
            go_meet
            case rel => exact ⟨_, (false), (by first | rfl | (simp; done) | (simp [*]; done)), H', ⟨by have := HJ5.out; first | omega | exact Nat.le_refl _⟩, ⟨by (with_reducible repeat (first | refine blk_drewN ?_ _ | refine blk_drew ?_ | refine blk_alloc ?_ _)); exact BK322.out⟩, ⟨by (with_reducible repeat (first | refine blk_drewN ?_ _ | refine blk_drew ?_ | refine blk_alloc ?_ _)); exact BK323.out⟩, ⟨by (with_reducible repeat (first | refine blk_drewN ?_ _ | refine blk_drew ?_ | refine blk_alloc ?_ _)); exact BK324.out⟩, ⟨by repeat (first | (with_reducible first | exact HB.out | apply below_alloc | apply pw_below_drewN | apply below_drew1 | refine below_set ?_ GE322.out | refine below_set ?_ GE323.out | refine below_set ?_ GE324.out) | exact HB.out)⟩⟩
        case rest =>
          clear HC34
          try clear p2
          try clear c3
          try clear c4
          try clear c6
          try clear c7
          try clear c8
          try clear c9
          try clear c30
          try clear c31
          try clear c32
          try clear c66
          try clear c68
          try clear c71
          try clear c72
          try clear c75
          try clear c82
          try clear c83
          try clear c86
          try clear c89
          try clear c90
          try clear hcz73_0
          try clear hcz73_1
          try clear hcz73_2
          try clear hcz73_3
          try clear hcz76_0
          try clear hcz76_1
          try clear hcz76_2
          try clear hcz76_3
          try clear hcz78_0
          try clear hcz78_1
          try clear hcz78_2
          try clear hcz78_3
          try clear hcz79_0
          try clear hcz79_1
          try clear hcz79_2
          try clear hcz79_3
          try clear hcz84_0
          try clear hcz84_1
          try clear hcz84_2
          try clear hcz84_3
          try clear hcz87_0
          try clear hcz87_1
          try clear hcz87_2
          try clear hcz87_3
          try clear hcz91_0
          try clear hcz91_1
          try clear hcz91_2
          try clear hcz91_3
          try clear hfz73_0
          try clear hfz73_1
          try clear hfz73_2
          try clear hfz73_3
          try clear hfz76_0
          try clear hfz76_1
          try clear hfz76_2
          try clear hfz76_3
          try clear hfz78_0
          try clear hfz78_1
          try clear hfz78_2
          try clear hfz78_3
          try clear hfz79_0
          try clear hfz79_1
          try clear hfz79_2
          try clear hfz79_3
          try clear hfz84_0
          try clear hfz84_1
          try clear hfz84_2
          try clear hfz84_3
          try clear hfz87_0
          try clear hfz87_1
          try clear hfz87_2
          try clear hfz87_3
          try clear hfz91_0
          try clear hfz91_1
          try clear hfz91_2
          try clear hfz91_3
          obtain ⟨kq, x86_33, rfl, HA, HJ33, BK322, BK323, BK324, HB⟩ := hcut
          cases kq with
          | zero => exact absurd HA.out (by simp [weirkeeperlaw09_NoteBoth.j1])
          | succ kj33 =>
            have H := HA.out
            clear HA
            simp only [weirkeeperlaw09_NoteBoth.j1] at H
            by_cases c93 : x86_33 = true
            · subst c93
              have H1 : (some false) = some true := by rw [if_pos rfl] at H; exact H
              clear H
              have H := H1
              clear H1
              exact absurd H (by simp)
            · replace c93 := Bool.eq_false_iff.mpr c93
              subst c93
              have H1 : (if t333.toList = t342.toList then (if (t334 == t343) = true then (if t355.toList = t368.toList then (if (t356 == t369) = true then ((note_Both.f kj33 a2_0 a2_1 a2_2 a2_3 a3_0 a3_1 a3_2 a3_3).bind fun bt377 => (if bt377.2.1.toList = a3_1.toList then ((weirkeeperlaw09_awake.f kj33).bind fun t381 => (some t381)) else (some false))) else (some false)) else (some false)) else (some false)) else (some false)) = some true := by rw [if_neg (show ¬ (false = true) by decide)] at H; exact H
              clear H
              have H := H1
              clear H1
              by_cases c94 : t333.toList = t342.toList
              · rw [if_pos c94] at H
                have c94b0 : (t333.toList == t342.toList) = true := beq_iff_eq.mpr c94
                have c94b1 : (t333.toList != t342.toList) = false := bne_eq_false_iff_eq.mpr c94
                clear c94
                by_cases c95 : (t334 == t343) = true
                · rw [if_pos c95] at H
                  have c95b0 : (t334 == t343) = true := c95
                  (try (have c95b1 : decide (t334 = t343) = true := by simpa using c95))
                  (try (have c95b2 : (t334 == t343) = true := by simpa using c95))
                  clear c95
                  by_cases c96 : t355.toList = t368.toList
                  · rw [if_pos c96] at H
                    have c96b0 : (t355.toList == t368.toList) = true := beq_iff_eq.mpr c96
                    have c96b1 : (t355.toList != t368.toList) = false := bne_eq_false_iff_eq.mpr c96
                    clear c96
                    by_cases c97 : (t356 == t369) = true
                    · rw [if_pos c97] at H
                      have c97b0 : (t356 == t369) = true := c97
                      (try (have c97b1 : decide (t356 = t369) = true := by simpa using c97))
                      (try (have c97b2 : (t356 == t369) = true := by simpa using c97))
                      clear c97
                      replace H := Option.bind_eq_some_iff.mp H
                      obtain ⟨⟨t377, t378, t379, t380⟩, A980, H⟩ := H
                      replace H : (if t378.toList = a3_1.toList then ((weirkeeperlaw09_awake.f kj33).bind fun t381 => (some t381)) else (some false)) = some true := H
                      have A98 := Aside0.mk A980
                      clear A980
                      by_cases c99 : t378.toList = a3_1.toList
                      · rw [if_pos c99] at H
                        have c99b0 : (t378.toList == a3_1.toList) = true := beq_iff_eq.mpr c99
                        have c99b1 : (t378.toList != a3_1.toList) = false := bne_eq_false_iff_eq.mpr c99
                        clear c99
                        replace H := Option.bind_eq_some_iff.mp H
                        obtain ⟨t381, A1000, H⟩ := H
                        replace H : (some t381) = some true := H
                        have A100 := Aside0.mk A1000
                        clear A1000
                        (have H9_ := Option.some.inj H; first | subst H9_ | clear H9_)
                        try go_wp2
                        have n0_ := Aside0.mk (blk_drew BK322.out)
                        have n1_ := Aside0.mk (blk_drew BK323.out)
                        have n2_ := Aside0.mk (blk_drew BK324.out)
                        have n3_ := Aside0.mk (below_drew1 HB.out)
                        clear BK322
                        clear BK323
                        clear BK324
                        clear HB
                        have BK322 := n0_
                        have BK323 := n1_
                        have BK324 := n2_
                        have HB := n3_
                        clear n0_ n1_ n2_ n3_
                        refine start_ (n := 31) (S := fun w' => w'.cell? ⟨gb322, 0, none⟩ = some (.int .i64 a2_0) ∧ w'.cell? ⟨gb322, 1, none⟩ = some (.string a2_1) ∧ w'.cell? ⟨gb322, 2, none⟩ = some (.string a2_2) ∧ w'.cell? ⟨gb322, 3, none⟩ = some (.int .u64 a2_3) ∧ w'.cell? ⟨gb323, 0, none⟩ = some (.int .i64 a3_0) ∧ w'.cell? ⟨gb323, 1, none⟩ = some (.string a3_1) ∧ w'.cell? ⟨gb323, 2, none⟩ = some (.string a3_2) ∧ w'.cell? ⟨gb323, 3, none⟩ = some (.int .u64 a3_3)) (ds := []) #[false, false, false, false, false, false, false, false, false, false, false, false, false, false, false, false, false, false, false, false, false, false, false, false, false, false, false, false, false, false, false] (by kernel_rfl) rfl rfl ⟨(blk_cell BK322.out 0).trans rfl, (blk_cell BK322.out 1).trans rfl, (blk_cell BK322.out 2).trans rfl, (blk_cell BK322.out 3).trans rfl, (blk_cell BK323.out 0).trans rfl, (blk_cell BK323.out 1).trans rfl, (blk_cell BK323.out 2).trans rfl, (blk_cell BK323.out 3).trans rfl⟩ (fun hHeld => ?_); refine with_tabW weirkeeperlaw09_NoteBoth.tab9 weirkeeperlaw09_NoteBoth.bits9 (fun HT_ HW_ => ?_)
                        generalize wc.drew = w101 at BK322 BK323 BK324 HB hHeld ⊢
                        refine pure_ (i := 0) (N := some 87) (v := ?_) (a' := ?_) #[true, false, false, false, false, false, false, false, false, false, false, false, false, false, false, false, false, false, false, false, false, false, false, false, false, false, false, false, false, false, false] rfl rfl (any_of HT_.out (by kernel_rfl)) (fun _ _ _ h => h) (Or.inl ⟨by rfl, ?_⟩) ?_ ?_
                        rotate_left
                        · intro w'
                          go_simp
                          first | with_reducible rfl | (simp only [fld_law09NoteBoth_55_0, fld_law09NoteBoth_55_1, fld_law09NoteBoth_55_2, fld_law09NoteBoth_55_3, Result.andThen_ok]; with_reducible rfl) | (simp only [fld_law09NoteBoth_55_0, fld_law09NoteBoth_55_1, fld_law09NoteBoth_55_2, fld_law09NoteBoth_55_3, Result.andThen_ok]; rfl)
                        rotate_left
                        · simp only [Act.put, List.setIfInBounds_toArray, List.set_cons_zero, List.set_cons_succ, i64_w, i32_w]
                          rfl
                        refine pure_ (i := 1) (N := some 88) (v := ?_) (a' := ?_) #[true, true, false, false, false, false, false, false, false, false, false, false, false, false, false, false, false, false, false, false, false, false, false, false, false, false, false, false, false, false, false] rfl rfl (any_of HT_.out (by kernel_rfl)) (fun _ _ _ h => h) (Or.inl ⟨by rfl, ?_⟩) ?_ ?_
                        rotate_left
                        · intro w'
                          go_simp
                          first | with_reducible rfl | (simp only [fld_law09NoteBoth_55_0, fld_law09NoteBoth_55_1, fld_law09NoteBoth_55_2, fld_law09NoteBoth_55_3, Result.andThen_ok]; with_reducible rfl) | (simp only [fld_law09NoteBoth_55_0, fld_law09NoteBoth_55_1, fld_law09NoteBoth_55_2, fld_law09NoteBoth_55_3, Result.andThen_ok]; rfl)
                        rotate_left
                        · simp only [Act.put, List.setIfInBounds_toArray, List.set_cons_zero, List.set_cons_succ, i64_w, i32_w]
                          rfl
                        refine pure_ (i := 2) (N := some 89) (v := ?_) (a' := ?_) #[true, true, true, false, false, false, false, false, false, false, false, false, false, false, false, false, false, false, false, false, false, false, false, false, false, false, false, false, false, false, false] rfl rfl (any_of HT_.out (by kernel_rfl)) (fun _ _ _ h => h) (Or.inl ⟨by rfl, ?_⟩) ?_ ?_
                        rotate_left
                        · intro w'
                          go_simp
                          first | with_reducible rfl | (simp only [fld_law09NoteBoth_55_0, fld_law09NoteBoth_55_1, fld_law09NoteBoth_55_2, fld_law09NoteBoth_55_3, Result.andThen_ok]; with_reducible rfl) | (simp only [fld_law09NoteBoth_55_0, fld_law09NoteBoth_55_1, fld_law09NoteBoth_55_2, fld_law09NoteBoth_55_3, Result.andThen_ok]; rfl)
                        rotate_left
                        · simp only [Act.put, List.setIfInBounds_toArray, List.set_cons_zero, List.set_cons_succ, i64_w, i32_w]
                          rfl
                        refine pure_ (i := 3) (N := some 90) (v := ?_) (a' := ?_) #[true, true, true, true, false, false, false, false, false, false, false, false, false, false, false, false, false, false, false, false, false, false, false, false, false, false, false, false, false, false, false] rfl rfl (any_of HT_.out (by kernel_rfl)) (fun _ _ _ h => h) (Or.inl ⟨by rfl, ?_⟩) ?_ ?_
                        rotate_left
                        · intro w'
                          go_simp
                          first | with_reducible rfl | (simp only [fld_law09NoteBoth_55_0, fld_law09NoteBoth_55_1, fld_law09NoteBoth_55_2, fld_law09NoteBoth_55_3, Result.andThen_ok]; with_reducible rfl) | (simp only [fld_law09NoteBoth_55_0, fld_law09NoteBoth_55_1, fld_law09NoteBoth_55_2, fld_law09NoteBoth_55_3, Result.andThen_ok]; rfl)
                        rotate_left
                        · simp only [Act.put, List.setIfInBounds_toArray, List.set_cons_zero, List.set_cons_succ, i64_w, i32_w]
                          rfl
                        refine pure_ (i := 4) (N := some 91) (v := ?_) (a' := ?_) #[true, true, true, true, true, false, false, false, false, false, false, false, false, false, false, false, false, false, false, false, false, false, false, false, false, false, false, false, false, false, false] rfl rfl (any_of HT_.out (by kernel_rfl)) (fun _ _ _ h => h) (Or.inl ⟨by rfl, ?_⟩) ?_ ?_
                        rotate_left
                        · intro w'
                          go_simp
                          first | with_reducible rfl | (simp only [fld_law09NoteBoth_55_0, fld_law09NoteBoth_55_1, fld_law09NoteBoth_55_2, fld_law09NoteBoth_55_3, Result.andThen_ok]; with_reducible rfl) | (simp only [fld_law09NoteBoth_55_0, fld_law09NoteBoth_55_1, fld_law09NoteBoth_55_2, fld_law09NoteBoth_55_3, Result.andThen_ok]; rfl)
                        rotate_left
                        · simp only [Act.put, List.setIfInBounds_toArray, List.set_cons_zero, List.set_cons_succ, i64_w, i32_w]
                          rfl
                        refine pure_ (i := 5) (N := some 92) (v := ?_) (a' := ?_) #[true, true, true, true, true, true, false, false, false, false, false, false, false, false, false, false, false, false, false, false, false, false, false, false, false, false, false, false, false, false, false] rfl rfl (any_of HT_.out (by kernel_rfl)) (fun _ _ _ h => h) (Or.inl ⟨by rfl, ?_⟩) ?_ ?_
                        rotate_left
                        · intro w'
                          go_simp
                          first | with_reducible rfl | (simp only [fld_law09NoteBoth_55_0, fld_law09NoteBoth_55_1, fld_law09NoteBoth_55_2, fld_law09NoteBoth_55_3, Result.andThen_ok]; with_reducible rfl) | (simp only [fld_law09NoteBoth_55_0, fld_law09NoteBoth_55_1, fld_law09NoteBoth_55_2, fld_law09NoteBoth_55_3, Result.andThen_ok]; rfl)
                        rotate_left
                        · simp only [Act.put, List.setIfInBounds_toArray, List.set_cons_zero, List.set_cons_succ, i64_w, i32_w]
                          rfl
                        refine pure_ (i := 6) (N := some 93) (v := ?_) (a' := ?_) #[true, true, true, true, true, true, true, false, false, false, false, false, false, false, false, false, false, false, false, false, false, false, false, false, false, false, false, false, false, false, false] rfl rfl (any_of HT_.out (by kernel_rfl)) (fun _ _ _ h => h) (Or.inl ⟨by rfl, ?_⟩) ?_ ?_
                        rotate_left
                        · intro w'
                          go_simp
                          first | with_reducible rfl | (simp only [fld_law09NoteBoth_55_0, fld_law09NoteBoth_55_1, fld_law09NoteBoth_55_2, fld_law09NoteBoth_55_3, Result.andThen_ok]; with_reducible rfl) | (simp only [fld_law09NoteBoth_55_0, fld_law09NoteBoth_55_1, fld_law09NoteBoth_55_2, fld_law09NoteBoth_55_3, Result.andThen_ok]; rfl)
                        rotate_left
                        · simp only [Act.put, List.setIfInBounds_toArray, List.set_cons_zero, List.set_cons_succ, i64_w, i32_w]
                          rfl
                        refine pure_ (i := 7) (N := some 94) (v := ?_) (a' := ?_) #[true, true, true, true, true, true, true, true, false, false, false, false, false, false, false, false, false, false, false, false, false, false, false, false, false, false, false, false, false, false, false] rfl rfl (any_of HT_.out (by kernel_rfl)) (fun _ _ _ h => h) (Or.inl ⟨by rfl, ?_⟩) ?_ ?_
                        rotate_left
                        · intro w'
                          go_simp
                          first | with_reducible rfl | (simp only [fld_law09NoteBoth_55_0, fld_law09NoteBoth_55_1, fld_law09NoteBoth_55_2, fld_law09NoteBoth_55_3, Result.andThen_ok]; with_reducible rfl) | (simp only [fld_law09NoteBoth_55_0, fld_law09NoteBoth_55_1, fld_law09NoteBoth_55_2, fld_law09NoteBoth_55_3, Result.andThen_ok]; rfl)
                        rotate_left
                        · simp only [Act.put, List.setIfInBounds_toArray, List.set_cons_zero, List.set_cons_succ, i64_w, i32_w]
                          rfl
                        refine pure_ (i := 8) (N := some 95) (v := ?_) (a' := ?_) #[true, true, true, true, true, true, true, true, true, false, false, false, false, false, false, false, false, false, false, false, false, false, false, false, false, false, false, false, false, false, false] rfl rfl (any_of HT_.out (by kernel_rfl)) (fun _ _ _ h => h) (Or.inl ⟨by rfl, ?_⟩) ?_ ?_
                        rotate_left
                        · intro w'
                          go_simp
                          first | with_reducible rfl | (simp only [fld_law09NoteBoth_55_0, fld_law09NoteBoth_55_1, fld_law09NoteBoth_55_2, fld_law09NoteBoth_55_3, Result.andThen_ok]; with_reducible rfl) | (simp only [fld_law09NoteBoth_55_0, fld_law09NoteBoth_55_1, fld_law09NoteBoth_55_2, fld_law09NoteBoth_55_3, Result.andThen_ok]; rfl)
                        rotate_left
                        · simp only [Act.put, List.setIfInBounds_toArray, List.set_cons_zero, List.set_cons_succ, i64_w, i32_w]
                          rfl
                        refine pure_ (i := 9) (N := some 96) (v := ?_) (a' := ?_) #[true, true, true, true, true, true, true, true, true, true, false, false, false, false, false, false, false, false, false, false, false, false, false, false, false, false, false, false, false, false, false] rfl rfl (any_of HT_.out (by kernel_rfl)) (fun _ _ _ h => h) (Or.inl ⟨by rfl, ?_⟩) ?_ ?_
                        rotate_left
                        · intro w'
                          go_simp
                          first | with_reducible rfl | (simp only [fld_law09NoteBoth_55_0, fld_law09NoteBoth_55_1, fld_law09NoteBoth_55_2, fld_law09NoteBoth_55_3, Result.andThen_ok]; with_reducible rfl) | (simp only [fld_law09NoteBoth_55_0, fld_law09NoteBoth_55_1, fld_law09NoteBoth_55_2, fld_law09NoteBoth_55_3, Result.andThen_ok]; rfl)
                        rotate_left
                        · simp only [Act.put, List.setIfInBounds_toArray, List.set_cons_zero, List.set_cons_succ, i64_w, i32_w]
                          rfl
                        refine pure_ (i := 10) (N := some 97) (v := ?_) (a' := ?_) #[true, true, true, true, true, true, true, true, true, true, true, false, false, false, false, false, false, false, false, false, false, false, false, false, false, false, false, false, false, false, false] rfl rfl (any_of HT_.out (by kernel_rfl)) (fun _ _ _ h => h) (Or.inl ⟨by rfl, ?_⟩) ?_ ?_
                        rotate_left
                        · intro w'
                          go_simp
                          first | with_reducible rfl | (simp only [fld_law09NoteBoth_55_0, fld_law09NoteBoth_55_1, fld_law09NoteBoth_55_2, fld_law09NoteBoth_55_3, Result.andThen_ok]; with_reducible rfl) | (simp only [fld_law09NoteBoth_55_0, fld_law09NoteBoth_55_1, fld_law09NoteBoth_55_2, fld_law09NoteBoth_55_3, Result.andThen_ok]; rfl)
                        rotate_left
                        · simp only [Act.put, List.setIfInBounds_toArray, List.set_cons_zero, List.set_cons_succ, i64_w, i32_w]
                          rfl
                        refine pure_ (i := 11) (N := some 98) (v := ?_) (a' := ?_) #[true, true, true, true, true, true, true, true, true, true, true, true, false, false, false, false, false, false, false, false, false, false, false, false, false, false, false, false, false, false, false] rfl rfl (any_of HT_.out (by kernel_rfl)) (fun _ _ _ h => h) (Or.inl ⟨by rfl, ?_⟩) ?_ ?_
                        rotate_left
                        · intro w'
                          go_simp
                          first | with_reducible rfl | (simp only [fld_law09NoteBoth_55_0, fld_law09NoteBoth_55_1, fld_law09NoteBoth_55_2, fld_law09NoteBoth_55_3, Result.andThen_ok]; with_reducible rfl) | (simp only [fld_law09NoteBoth_55_0, fld_law09NoteBoth_55_1, fld_law09NoteBoth_55_2, fld_law09NoteBoth_55_3, Result.andThen_ok]; rfl)
                        rotate_left
                        · simp only [Act.put, List.setIfInBounds_toArray, List.set_cons_zero, List.set_cons_succ, i64_w, i32_w]
                          rfl
                        refine pure_ (i := 12) (N := some 99) (v := ?_) (a' := ?_) #[true, true, true, true, true, true, true, true, true, true, true, true, true, false, false, false, false, false, false, false, false, false, false, false, false, false, false, false, false, false, false] rfl rfl (any_of HT_.out (by kernel_rfl)) (fun _ _ _ h => h) (Or.inl ⟨by rfl, ?_⟩) ?_ ?_
                        rotate_left
                        · intro w'
                          go_simp
                          first | with_reducible rfl | (simp only [fld_law09NoteBoth_55_0, fld_law09NoteBoth_55_1, fld_law09NoteBoth_55_2, fld_law09NoteBoth_55_3, Result.andThen_ok]; with_reducible rfl) | (simp only [fld_law09NoteBoth_55_0, fld_law09NoteBoth_55_1, fld_law09NoteBoth_55_2, fld_law09NoteBoth_55_3, Result.andThen_ok]; rfl)
                        rotate_left
                        · simp only [Act.put, List.setIfInBounds_toArray, List.set_cons_zero, List.set_cons_succ, i64_w, i32_w]
                          rfl
                        refine pure_ (i := 13) (N := some 100) (v := ?_) (a' := ?_) #[true, true, true, true, true, true, true, true, true, true, true, true, true, true, false, false, false, false, false, false, false, false, false, false, false, false, false, false, false, false, false] rfl rfl (any_of HT_.out (by kernel_rfl)) (fun _ _ _ h => h) (Or.inl ⟨by rfl, ?_⟩) ?_ ?_
                        rotate_left
                        · intro w'
                          go_simp
                          first | with_reducible rfl | (simp only [fld_law09NoteBoth_55_0, fld_law09NoteBoth_55_1, fld_law09NoteBoth_55_2, fld_law09NoteBoth_55_3, Result.andThen_ok]; with_reducible rfl) | (simp only [fld_law09NoteBoth_55_0, fld_law09NoteBoth_55_1, fld_law09NoteBoth_55_2, fld_law09NoteBoth_55_3, Result.andThen_ok]; rfl)
                        rotate_left
                        · simp only [Act.put, List.setIfInBounds_toArray, List.set_cons_zero, List.set_cons_succ, i64_w, i32_w]
                          rfl
                        refine pure_ (i := 14) (N := some 101) (v := ?_) (a' := ?_) #[true, true, true, true, true, true, true, true, true, true, true, true, true, true, true, false, false, false, false, false, false, false, false, false, false, false, false, false, false, false, false] rfl rfl (any_of HT_.out (by kernel_rfl)) (fun _ _ _ h => h) (Or.inl ⟨by rfl, ?_⟩) ?_ ?_
                        rotate_left
                        · intro w'
                          go_simp
                          first | with_reducible rfl | (simp only [fld_law09NoteBoth_55_0, fld_law09NoteBoth_55_1, fld_law09NoteBoth_55_2, fld_law09NoteBoth_55_3, Result.andThen_ok]; with_reducible rfl) | (simp only [fld_law09NoteBoth_55_0, fld_law09NoteBoth_55_1, fld_law09NoteBoth_55_2, fld_law09NoteBoth_55_3, Result.andThen_ok]; rfl)
                        rotate_left
                        · simp only [Act.put, List.setIfInBounds_toArray, List.set_cons_zero, List.set_cons_succ, i64_w, i32_w]
                          rfl
                        refine pure_ (i := 15) (N := some 102) (v := ?_) (a' := ?_) #[true, true, true, true, true, true, true, true, true, true, true, true, true, true, true, true, false, false, false, false, false, false, false, false, false, false, false, false, false, false, false] rfl rfl (any_of HT_.out (by kernel_rfl)) (fun _ _ _ h => h) (Or.inl ⟨by rfl, ?_⟩) ?_ ?_
                        rotate_left
                        · intro w'
                          go_simp
                          first | with_reducible rfl | (simp only [fld_law09NoteBoth_55_0, fld_law09NoteBoth_55_1, fld_law09NoteBoth_55_2, fld_law09NoteBoth_55_3, Result.andThen_ok]; with_reducible rfl) | (simp only [fld_law09NoteBoth_55_0, fld_law09NoteBoth_55_1, fld_law09NoteBoth_55_2, fld_law09NoteBoth_55_3, Result.andThen_ok]; rfl)
                        rotate_left
                        · simp only [Act.put, List.setIfInBounds_toArray, List.set_cons_zero, List.set_cons_succ, i64_w, i32_w]
                          rfl
                        refine pure_ (i := 16) (N := some 103) (v := ?_) (a' := ?_) #[true, true, true, true, true, true, true, true, true, true, true, true, true, true, true, true, true, false, false, false, false, false, false, false, false, false, false, false, false, false, false] rfl rfl (any_of HT_.out (by kernel_rfl)) (fun _ _ _ h => h) (Or.inl ⟨by rfl, ?_⟩) ?_ ?_
                        rotate_left
                        · intro w'
                          go_simp
                          first | with_reducible rfl | (simp only [fld_law09NoteBoth_55_0, fld_law09NoteBoth_55_1, fld_law09NoteBoth_55_2, fld_law09NoteBoth_55_3, Result.andThen_ok]; with_reducible rfl) | (simp only [fld_law09NoteBoth_55_0, fld_law09NoteBoth_55_1, fld_law09NoteBoth_55_2, fld_law09NoteBoth_55_3, Result.andThen_ok]; rfl)
                        rotate_left
                        · simp only [Act.put, List.setIfInBounds_toArray, List.set_cons_zero, List.set_cons_succ, i64_w, i32_w]
                          rfl
                        refine pure_ (i := 17) (N := some 104) (v := ?_) (a' := ?_) #[true, true, true, true, true, true, true, true, true, true, true, true, true, true, true, true, true, true, false, false, false, false, false, false, false, false, false, false, false, false, false] rfl rfl (any_of HT_.out (by kernel_rfl)) (fun _ _ _ h => h) (Or.inl ⟨by rfl, ?_⟩) ?_ ?_
                        rotate_left
                        · intro w'
                          go_simp
                          first | with_reducible rfl | (simp only [fld_law09NoteBoth_55_0, fld_law09NoteBoth_55_1, fld_law09NoteBoth_55_2, fld_law09NoteBoth_55_3, Result.andThen_ok]; with_reducible rfl) | (simp only [fld_law09NoteBoth_55_0, fld_law09NoteBoth_55_1, fld_law09NoteBoth_55_2, fld_law09NoteBoth_55_3, Result.andThen_ok]; rfl)
                        rotate_left
                        · simp only [Act.put, List.setIfInBounds_toArray, List.set_cons_zero, List.set_cons_succ, i64_w, i32_w]
                          rfl
                        refine pure_ (i := 18) (N := some 105) (v := ?_) (a' := ?_) #[true, true, true, true, true, true, true, true, true, true, true, true, true, true, true, true, true, true, true, false, false, false, false, false, false, false, false, false, false, false, false] rfl rfl (any_of HT_.out (by kernel_rfl)) (fun _ _ _ h => h) (Or.inl ⟨by rfl, ?_⟩) ?_ ?_
                        rotate_left
                        · intro w'
                          go_simp
                          first | with_reducible rfl | (simp only [fld_law09NoteBoth_55_0, fld_law09NoteBoth_55_1, fld_law09NoteBoth_55_2, fld_law09NoteBoth_55_3, Result.andThen_ok]; with_reducible rfl) | (simp only [fld_law09NoteBoth_55_0, fld_law09NoteBoth_55_1, fld_law09NoteBoth_55_2, fld_law09NoteBoth_55_3, Result.andThen_ok]; rfl)
                        rotate_left
                        · simp only [Act.put, List.setIfInBounds_toArray, List.set_cons_zero, List.set_cons_succ, i64_w, i32_w]
                          rfl
                        refine pure_ (i := 23) (N := some 110) (v := ?_) (a' := ?_) #[true, true, true, true, true, true, true, true, true, true, true, true, true, true, true, true, true, true, true, false, false, false, false, true, false, false, false, false, false, false, false] rfl rfl (any_of HT_.out (by kernel_rfl)) (fun _ _ _ h => h) (Or.inl ⟨by rfl, ?_⟩) ?_ ?_
                        rotate_left
                        · intro w'
                          go_simp
                          first | with_reducible rfl | (simp only [fld_law09NoteBoth_55_0, fld_law09NoteBoth_55_1, fld_law09NoteBoth_55_2, fld_law09NoteBoth_55_3, Result.andThen_ok]; with_reducible rfl) | (simp only [fld_law09NoteBoth_55_0, fld_law09NoteBoth_55_1, fld_law09NoteBoth_55_2, fld_law09NoteBoth_55_3, Result.andThen_ok]; rfl)
                        rotate_left
                        · simp only [Act.put, List.setIfInBounds_toArray, List.set_cons_zero, List.set_cons_succ, i64_w, i32_w]
                          rfl
                        refine take_ (i := 19) (N := some 106) (v := ?_) (a' := ?_) #[true, true, true, true, true, true, true, true, true, true, true, true, true, true, true, true, true, true, true, true, false, false, false, true, false, false, false, false, false, false, false] rfl rfl (take_ofW HT_.out HW_.out (by kernel_rfl)) (fun _ _ _ h => h) (Or.inl ⟨by rfl, ?_⟩) hHeld ?_ ?_
                        rotate_left
                        · rintro w' ⟨s0, s1, s2, s3, s4, s5, s6, s7⟩
                          go_simp
                          first | with_reducible rfl | (simp only [fld_law09NoteBoth_55_0, fld_law09NoteBoth_55_1, fld_law09NoteBoth_55_2, fld_law09NoteBoth_55_3, Result.andThen_ok]; with_reducible rfl) | (simp only [fld_law09NoteBoth_55_0, fld_law09NoteBoth_55_1, fld_law09NoteBoth_55_2, fld_law09NoteBoth_55_3, Result.andThen_ok]; rfl)
                        rotate_left
                        · simp only [Act.put, List.setIfInBounds_toArray, List.set_cons_zero, List.set_cons_succ, i64_w, i32_w]
                          rfl
                        refine take_ (i := 20) (N := some 107) (v := ?_) (a' := ?_) #[true, true, true, true, true, true, true, true, true, true, true, true, true, true, true, true, true, true, true, true, true, false, false, true, false, false, false, false, false, false, false] rfl rfl (take_ofW HT_.out HW_.out (by kernel_rfl)) (fun _ _ _ h => h) (Or.inl ⟨by rfl, ?_⟩) hHeld ?_ ?_
                        rotate_left
                        · rintro w' ⟨s0, s1, s2, s3, s4, s5, s6, s7⟩
                          go_simp
                          first | with_reducible rfl | (simp only [fld_law09NoteBoth_55_0, fld_law09NoteBoth_55_1, fld_law09NoteBoth_55_2, fld_law09NoteBoth_55_3, Result.andThen_ok]; with_reducible rfl) | (simp only [fld_law09NoteBoth_55_0, fld_law09NoteBoth_55_1, fld_law09NoteBoth_55_2, fld_law09NoteBoth_55_3, Result.andThen_ok]; rfl)
                        rotate_left
                        · simp only [Act.put, List.setIfInBounds_toArray, List.set_cons_zero, List.set_cons_succ, i64_w, i32_w]
                          rfl
                        refine take_ (i := 24) (N := some 111) (v := ?_) (a' := ?_) #[true, true, true, true, true, true, true, true, true, true, true, true, true, true, true, true, true, true, true, true, true, false, false, true, true, false, false, false, false, false, false] rfl rfl (take_ofW HT_.out HW_.out (by kernel_rfl)) (fun _ _ _ h => h) (Or.inl ⟨by rfl, ?_⟩) hHeld ?_ ?_
                        rotate_left
                        · rintro w' ⟨s0, s1, s2, s3, s4, s5, s6, s7⟩
                          go_simp
                          first | with_reducible rfl | (simp only [fld_law09NoteBoth_55_0, fld_law09NoteBoth_55_1, fld_law09NoteBoth_55_2, fld_law09NoteBoth_55_3, Result.andThen_ok]; with_reducible rfl) | (simp only [fld_law09NoteBoth_55_0, fld_law09NoteBoth_55_1, fld_law09NoteBoth_55_2, fld_law09NoteBoth_55_3, Result.andThen_ok]; rfl)
                        rotate_left
                        · simp only [Act.put, List.setIfInBounds_toArray, List.set_cons_zero, List.set_cons_succ, i64_w, i32_w]
                          rfl
                        refine one_ (i := 21) (N := some 108) #[true, true, true, true, true, true, true, true, true, true, true, true, true, true, true, true, true, true, true, true, true, true, false, true, true, false, false, false, false, false, false] rfl rfl (one_of HT_.out (by kernel_rfl)) (by decide) (fun K hK => ?_)
                        refine goes_ Try.func31 (by kernel_rfl) rfl #[.agg #[.int .i64 a2_0, .string a2_1, .string a2_2, .int .u64 a2_3], .agg #[.int .i64 a3_0, .string a3_1, .string a3_2, .int .u64 a3_3]] (by rfl) rfl rfl (by (try simp only [List.map_toArray, List.map_cons, List.map_nil]); first | done | rfl | (simp only [List.length_drop, List.length_take]; rfl)) ?_
                        with_reducible refine (note_Both.calls kj33 a2_0 a2_1 a2_2 a2_3 a3_0 a3_1 a3_2 a3_3 t377 t378 t379 t380 _ A98.out).mono ?_
                        rintro e w102 ⟨rfl, hb⟩
                        refine ⟨_, rfl, ?_⟩
                        have n0_ := Aside0.mk (blk_below (g := gb322) (o := .cells #[.int .i64 a2_0, .string a2_1, .string a2_2, .int .u64 a2_3] 55 (0, 0)) (by (with_reducible repeat (first | refine blk_drewN ?_ _ | refine blk_drew ?_ | refine blk_alloc ?_ _)); exact BK322.out) hb)
                        have n1_ := Aside0.mk (blk_below (g := gb323) (o := .cells #[.int .i64 a3_0, .string a3_1, .string a3_2, .int .u64 a3_3] 55 (0, 0)) (by (with_reducible repeat (first | refine blk_drewN ?_ _ | refine blk_drew ?_ | refine blk_alloc ?_ _)); exact BK323.out) hb)
                        have n2_ := Aside0.mk (blk_below (g := gb324) (o := .cells #[.int .i64 a4_0, .string a4_1, .string a4_2, .int .u64 a4_3] 55 (0, 0)) (by (with_reducible repeat (first | refine blk_drewN ?_ _ | refine blk_drew ?_ | refine blk_alloc ?_ _)); exact BK324.out) hb)
                        have n3_ := Aside0.mk (below_step (by repeat (first | (with_reducible first | exact HB.out | apply below_alloc | apply pw_below_drewN | apply below_drew1 | refine below_set ?_ GE322.out | refine below_set ?_ GE323.out | refine below_set ?_ GE324.out) | exact HB.out)) hb)
                        clear BK322
                        clear BK323
                        clear BK324
                        clear HB
                        have BK322 := n0_
                        have BK323 := n1_
                        have BK324 := n2_
                        have HB := n3_
                        clear n0_ n1_ n2_ n3_
                        (try clear hb)
                        (try clear hb2)
                        (try clear hk)
                        (try clear hi)
                        refine hK.out _ _ ⟨(blk_cell BK322.out 0).trans rfl, (blk_cell BK322.out 1).trans rfl, (blk_cell BK322.out 2).trans rfl, (blk_cell BK322.out 3).trans rfl, (blk_cell BK323.out 0).trans rfl, (blk_cell BK323.out 1).trans rfl, (blk_cell BK323.out 2).trans rfl, (blk_cell BK323.out 3).trans rfl⟩ (fun hHeld => ?_)
                        clear hK K
                        refine norm_ (a' := ?_) ?_ ?_
                        rotate_left
                        · show Act.put _ (some 108) _ = _
                          simp only [Act.put, List.setIfInBounds_toArray, List.set_cons_zero, List.set_cons_succ, i64_w, i32_w]
                          rfl
                        refine pure_ (i := 22) (N := some 109) (v := ?_) (a' := ?_) #[true, true, true, true, true, true, true, true, true, true, true, true, true, true, true, true, true, true, true, true, true, true, true, true, true, false, false, false, false, false, false] rfl rfl (any_of HT_.out (by kernel_rfl)) (fun _ _ _ h => h) (Or.inl ⟨by rfl, ?_⟩) ?_ ?_
                        rotate_left
                        · intro w'
                          go_simp
                          first | with_reducible rfl | (simp only [fld_law09NoteBoth_55_0, fld_law09NoteBoth_55_1, fld_law09NoteBoth_55_2, fld_law09NoteBoth_55_3, Result.andThen_ok]; with_reducible rfl) | (simp only [fld_law09NoteBoth_55_0, fld_law09NoteBoth_55_1, fld_law09NoteBoth_55_2, fld_law09NoteBoth_55_3, Result.andThen_ok]; rfl)
                        rotate_left
                        · simp only [Act.put, List.setIfInBounds_toArray, List.set_cons_zero, List.set_cons_succ, i64_w, i32_w]
                          rfl
                        refine pure_ (i := 25) (N := some 112) (v := ?_) (a' := ?_) #[true, true, true, true, true, true, true, true, true, true, true, true, true, true, true, true, true, true, true, true, true, true, true, true, true, true, false, false, false, false, false] rfl rfl (any_of HT_.out (by kernel_rfl)) (fun _ _ _ h => h) (Or.inl ⟨by rfl, ?_⟩) ?_ ?_
                        rotate_left
                        · intro w'
                          go_simp
                          first | with_reducible rfl | (simp only [fld_law09NoteBoth_55_0, fld_law09NoteBoth_55_1, fld_law09NoteBoth_55_2, fld_law09NoteBoth_55_3, Result.andThen_ok]; with_reducible rfl) | (simp only [fld_law09NoteBoth_55_0, fld_law09NoteBoth_55_1, fld_law09NoteBoth_55_2, fld_law09NoteBoth_55_3, Result.andThen_ok]; rfl)
                        rotate_left
                        · simp only [Act.put, List.setIfInBounds_toArray, List.set_cons_zero, List.set_cons_succ, i64_w, i32_w]
                          rfl
                        refine pure_ (i := 26) (N := some 113) (v := ?_) (a' := ?_) #[true, true, true, true, true, true, true, true, true, true, true, true, true, true, true, true, true, true, true, true, true, true, true, true, true, true, true, false, false, false, false] rfl rfl (any_of HT_.out (by kernel_rfl)) (fun _ _ _ h => h) (Or.inl ⟨by rfl, ?_⟩) ?_ ?_
                        rotate_left
                        · intro w'
                          go_simp
                          first | with_reducible rfl | (simp only [fld_law09NoteBoth_55_0, fld_law09NoteBoth_55_1, fld_law09NoteBoth_55_2, fld_law09NoteBoth_55_3, Result.andThen_ok]; with_reducible rfl) | (simp only [fld_law09NoteBoth_55_0, fld_law09NoteBoth_55_1, fld_law09NoteBoth_55_2, fld_law09NoteBoth_55_3, Result.andThen_ok]; rfl)
                        rotate_left
                        · simp only [Act.put, List.setIfInBounds_toArray, List.set_cons_zero, List.set_cons_succ, i64_w, i32_w]
                          rfl
                        refine pure_ (i := 27) (N := some 114) (v := ?_) (a' := ?_) #[true, true, true, true, true, true, true, true, true, true, true, true, true, true, true, true, true, true, true, true, true, true, true, true, true, true, true, true, false, false, false] rfl rfl (any_of HT_.out (by kernel_rfl)) (fun _ _ _ h => h) (Or.inl ⟨by rfl, ?_⟩) ?_ ?_
                        rotate_left
                        · intro w'
                          go_simp
                          first | with_reducible rfl | (simp only [fld_law09NoteBoth_55_0, fld_law09NoteBoth_55_1, fld_law09NoteBoth_55_2, fld_law09NoteBoth_55_3, Result.andThen_ok]; with_reducible rfl) | (simp only [fld_law09NoteBoth_55_0, fld_law09NoteBoth_55_1, fld_law09NoteBoth_55_2, fld_law09NoteBoth_55_3, Result.andThen_ok]; rfl)
                        rotate_left
                        · simp only [Act.put, List.setIfInBounds_toArray, List.set_cons_zero, List.set_cons_succ, i64_w, i32_w]
                          rfl
                        refine one_ (i := 28) (N := some 115) #[true, true, true, true, true, true, true, true, true, true, true, true, true, true, true, true, true, true, true, true, true, true, true, true, true, true, true, true, true, false, false] rfl rfl (one_of HT_.out (by kernel_rfl)) (by decide) (fun K hK => ?_)
                        refine goes_ Try.func29 (by kernel_rfl) rfl #[] (by rfl) rfl rfl (by (try simp only [List.map_toArray, List.map_cons, List.map_nil]); first | done | rfl | (simp only [List.length_drop, List.length_take]; rfl)) ?_
                        with_reducible refine (weirkeeperlaw09_awake.calls kj33 _ A100.out).mono ?_
                        rintro e w103 ⟨rfl, hb⟩
                        refine ⟨_, rfl, ?_⟩
                        have n0_ := Aside0.mk (blk_below (g := gb322) (o := .cells #[.int .i64 a2_0, .string a2_1, .string a2_2, .int .u64 a2_3] 55 (0, 0)) (by (with_reducible repeat (first | refine blk_drewN ?_ _ | refine blk_drew ?_ | refine blk_alloc ?_ _)); exact BK322.out) hb)
                        have n1_ := Aside0.mk (blk_below (g := gb323) (o := .cells #[.int .i64 a3_0, .string a3_1, .string a3_2, .int .u64 a3_3] 55 (0, 0)) (by (with_reducible repeat (first | refine blk_drewN ?_ _ | refine blk_drew ?_ | refine blk_alloc ?_ _)); exact BK323.out) hb)
                        have n2_ := Aside0.mk (blk_below (g := gb324) (o := .cells #[.int .i64 a4_0, .string a4_1, .string a4_2, .int .u64 a4_3] 55 (0, 0)) (by (with_reducible repeat (first | refine blk_drewN ?_ _ | refine blk_drew ?_ | refine blk_alloc ?_ _)); exact BK324.out) hb)
                        have n3_ := Aside0.mk (below_step (by repeat (first | (with_reducible first | exact HB.out | apply below_alloc | apply pw_below_drewN | apply below_drew1 | refine below_set ?_ GE322.out | refine below_set ?_ GE323.out | refine below_set ?_ GE324.out) | exact HB.out)) hb)
                        clear BK322
                        clear BK323
                        clear BK324
                        clear HB
                        have BK322 := n0_
                        have BK323 := n1_
                        have BK324 := n2_
                        have HB := n3_
                        clear n0_ n1_ n2_ n3_
                        (try clear hb)
                        (try clear hb2)
                        (try clear hk)
                        (try clear hi)
                        refine hK.out _ _ ⟨(blk_cell BK322.out 0).trans rfl, (blk_cell BK322.out 1).trans rfl, (blk_cell BK322.out 2).trans rfl, (blk_cell BK322.out 3).trans rfl, (blk_cell BK323.out 0).trans rfl, (blk_cell BK323.out 1).trans rfl, (blk_cell BK323.out 2).trans rfl, (blk_cell BK323.out 3).trans rfl⟩ (fun hHeld => ?_)
                        clear hK K
                        refine norm_ (a' := ?_) ?_ ?_
                        rotate_left
                        · show Act.put _ (some 115) _ = _
                          simp only [Act.put, List.setIfInBounds_toArray, List.set_cons_zero, List.set_cons_succ, i64_w, i32_w]
                          rfl
                        refine pure_ (i := 29) (N := some 116) (v := ?_) (a' := ?_) #[true, true, true, true, true, true, true, true, true, true, true, true, true, true, true, true, true, true, true, true, true, true, true, true, true, true, true, true, true, true, false] rfl rfl (any_of HT_.out (by kernel_rfl)) (fun _ _ _ h => h) (Or.inl ⟨by rfl, ?_⟩) ?_ ?_
                        rotate_left
                        · intro w'
                          go_simp
                          first | with_reducible rfl | (simp only [fld_law09NoteBoth_55_0, fld_law09NoteBoth_55_1, fld_law09NoteBoth_55_2, fld_law09NoteBoth_55_3, Result.andThen_ok]; with_reducible rfl) | (simp only [fld_law09NoteBoth_55_0, fld_law09NoteBoth_55_1, fld_law09NoteBoth_55_2, fld_law09NoteBoth_55_3, Result.andThen_ok]; rfl)
                        rotate_left
                        · simp only [Act.put, List.setIfInBounds_toArray, List.set_cons_zero, List.set_cons_succ, i64_w, i32_w]
                          rfl
                        refine pure_ (i := 30) (N := some 10) (v := ?_) (a' := ?_) #[true, true, true, true, true, true, true, true, true, true, true, true, true, true, true, true, true, true, true, true, true, true, true, true, true, true, true, true, true, true, true] rfl rfl (any_of HT_.out (by kernel_rfl)) (fun _ _ _ h => h) (Or.inl ⟨by rfl, ?_⟩) ?_ ?_
                        rotate_left
                        · intro w'
                          go_simp
                          first | with_reducible rfl | (simp only [fld_law09NoteBoth_55_0, fld_law09NoteBoth_55_1, fld_law09NoteBoth_55_2, fld_law09NoteBoth_55_3, Result.andThen_ok]; with_reducible rfl) | (simp only [fld_law09NoteBoth_55_0, fld_law09NoteBoth_55_1, fld_law09NoteBoth_55_2, fld_law09NoteBoth_55_3, Result.andThen_ok]; rfl)
                        rotate_left
                        · simp only [Act.put, List.setIfInBounds_toArray, List.set_cons_zero, List.set_cons_succ, i64_w, i32_w]
                          rfl
                        refine done_ (done_of HT_.out (by kernel_rfl)) ?_
                        try go_wp2
                        go_ret
                        exact ⟨by first | rfl | (simp [errW_none, errW_some] <;> rfl) | (simp [*, errW_none, errW_some] <;> rfl), by repeat (first | (with_reducible first | exact HB.out | apply below_alloc | apply pw_below_drewN | apply below_drew1 | refine below_set ?_ GE322.out | refine below_set ?_ GE323.out | refine below_set ?_ GE324.out) | exact HB.out)⟩
                      · rw [if_neg c99] at H
                        have c99b0 : (t378.toList == a3_1.toList) = false := beq_eq_false_iff_ne.mpr c99
                        have c99b1 : (t378.toList != a3_1.toList) = true := bne_iff_ne.mpr c99
                        exact absurd H (by simp)
                    · rw [if_neg c97] at H
                      have c97b0 : (t356 == t369) = false := by simpa using c97
                      (try (have c97b1 : decide (t356 = t369) = false := by simpa using c97))
                      (try (have c97b2 : (t356 == t369) = false := by simpa using c97))
                      (try (have c97b3 : ¬ (t356 = t369) := by simpa using c97))
                      clear c97
                      exact absurd H (by simp)
                  · rw [if_neg c96] at H
                    have c96b0 : (t355.toList == t368.toList) = false := beq_eq_false_iff_ne.mpr c96
                    have c96b1 : (t355.toList != t368.toList) = true := bne_iff_ne.mpr c96
                    exact absurd H (by simp)
                · rw [if_neg c95] at H
                  have c95b0 : (t334 == t343) = false := by simpa using c95
                  (try (have c95b1 : decide (t334 = t343) = false := by simpa using c95))
                  (try (have c95b2 : (t334 == t343) = false := by simpa using c95))
                  (try (have c95b3 : ¬ (t334 = t343) := by simpa using c95))
                  clear c95
                  exact absurd H (by simp)
              · rw [if_neg c94] at H
                have c94b0 : (t333.toList == t342.toList) = false := beq_eq_false_iff_ne.mpr c94
                have c94b1 : (t333.toList != t342.toList) = true := bne_iff_ne.mpr c94
                exact absurd H (by simp)

end Go.Proofs.Ytgccimhdbphenaa.F
