/- Contracts of Go functions of the seat Ythidkdlmpkeogaa: what a call comes to; no condition but those that each theorem names. -/
import Derived.Test.YthidkdlmpkeogaaFPre
import Derived.Test.YthidkdlmpkeogaaFShelf
import Derived.Test.YthidkdlmpkeogaaFLem
import Derived.Deep.LoopGhost
import Derived.Deep.RegionLaw
import Derived.Laws.CopyOwn
import Derived.Test.YthidkdlmpkeogaaFdiskC
import Derived.Test.YthidkdlmpkeogaaFdiskB
import Derived.Test.YthidkdlmpkeogaaFdiskA
import Derived.Test.YthidkdlmpkeogaaFstrings
namespace Go.Proofs.Ythidkdlmpkeogaa.F
open Go.RowKit Go.Proofs.YthidkdlmpkeogaaW.PrintWords Go.Proofs.YthidkdlmpkeogaaW.PrintLast Go.Proofs.YthidkdlmpkeogaaW.PrintMore
attribute [local go_sem] max2_int min2_int max_two min_two max_three min_three max_four min_four   -- for this text's walks alone
set_option linter.unusedVariables false
set_option linter.unusedSimpArgs false

/-! ### disk_New: function 42 -/

-- uses strings_Repeat.calls: its words
def zero32 : ByteArray := ⟨(List.replicate 32 0).toArray⟩
def disk_New.f (a0 : Int) : Option (List ByteArray × List S104 × Int) :=
  if 1 ≤ a0 ∧ a0 ≤ 512 then some (List.replicate a0.toNat zero32, [], 0) else some ([], [], 1)
theorem mul_one (n : Nat) (hn : n ≤ 512) (w : World) : Calls Try.prog 103 #[.int .u64 1, .int .u64 n] w fun e w' => e = .returned (.tuple #[.int .u64 0, .int .u64 n]) ∧ w' = w := by
  have h := Any.bits_Mul (P := Try.prog) (ρ := lays105_ren) { lays105 with } 1 n (by decide) (by omega) w
  rw [Nat.one_mul, Nat.div_eq_of_lt (by omega), Nat.mod_eq_of_lt (by omega)] at h
  exact h
def halfL (s : ByteArray) (m k : Nat) : List Value := List.replicate m (.string s) ++ List.replicate k (.string (⟨#[]⟩ : ByteArray))
theorem half_splice (s : ByteArray) (m k j : Nat) (h : j ≤ k) : splice (halfL s m k) m (List.replicate j (.string s)) = halfL s (m + j) (k - j) := by
  unfold splice halfL
  rw [List.take_append_of_le_length (by simp), List.take_of_length_le (by simp), List.drop_append, List.drop_of_length_le (by simp), List.nil_append, ← List.append_assoc, List.replicate_append_replicate, List.drop_replicate]
  simp
theorem halfL_length (s : ByteArray) (m k : Nat) : (halfL s m k).length = m + k := by simp [halfL]
theorem halfL_at (s : ByteArray) (m k j : Nat) (h : j < m) : (halfL s m k)[j]? = some (.string s) := by
  unfold halfL
  rw [List.getElem?_append_left (by simpa using h), List.getElem?_replicate, if_pos h]
set_option maxHeartbeats 4000000 in
set_option maxRecDepth 100000 in
theorem slices_Repeat_one (b : Nat) (s : ByteArray) (n : Nat) (h1 : 1 ≤ n) (hn : n ≤ 512) (w : World) (hx : w.cell? ⟨b, 0, none⟩ = some (.string s)) :
    Calls Try.prog 83 #[.slice (some ⟨b, 0, none⟩) 1 1, .int .i64 n] w fun e w' => ∃ v, e = .returned v ∧ Kd.R Kd.string 9 w' w.heap.size (fun _ => True) v (List.replicate n s) ∧ Below w.heap.size w w' := by
  have d1 : decide ((n : Int) < 0) = false := decide_eq_false (by omega)
  have d2 : decide (9223372036854775807 < (n : Int)) = false := decide_eq_false (by omega)
  have d3 : decide (9223372036854775807 < n) = false := decide_eq_false (by omega)
  obtain ⟨i0, hi0, hz0, hz1, hz2⟩ := info_parts info9
  have hmk : ∀ W : World, (Instr.makeSlice 83 (.int .i64 n) (.int .i64 n)).run Try.prog W = .ok (.slice (some ⟨W.heap.size, 0, none⟩) n n) (W.alloc (.cells (halfL s 0 n).toArray 9)) := fun W => by
    have h := run_makeSlice (P := Try.prog) W 83 9 i0 (.string ⟨#[]⟩) Try.underlying83 hi0 hz0 .i64 .i64 n n (by omega) (by omega) (by rw [hz1]; omega) (by rw [hz2]; omega) (by omega)
    rw [h, Int.toNat_natCast, hz1, Nat.mul_one]
    have e : madeCells (Value.string (⟨#[]⟩ : ByteArray)).cells n = (halfL s 0 n).toArray := by
      have := toList_madeCells_one (.string (⟨#[]⟩ : ByteArray)) n
      rw [show halfL s 0 n = List.replicate n (.string (⟨#[]⟩ : ByteArray)) by simp [halfL], ← this]
      simp [Value.cells]
    rw [e]
  have HSZ : Aside0 ((Try.prog.info? 9).map (·.size) = some 1) := ⟨by rw [hi0, Option.map_some, hz1]⟩
  have HX := Aside0.mk hx
  clear hx hz0 hz2
  go_enter Try.func83, Try.ntmps83
  go_wp2_with (first
    | (go_at_call 103; (with_reducible refine (mul_one n hn _).mono ?_); rintro e w' ⟨rfl, rfl⟩)
    | ((with_reducible refine wpList_copy_splice rfl (.tmp 31) (.tmp 32) 83 83 rfl 9 Try.underlying83 HSZ.out (some ⟨w'.heap.size, 0, none⟩) (some ⟨b, 0, none⟩) n n 1 1 rfl rfl w'.heap.size 0 (halfL s 0 n) 9 (heap_alloc_new _ _) [.string s] ?c1 ?c2 ?c3 ?c4 w'.heap.size w' (below_alloc (Below.refl _ _) _) (Nat.le_refl _) ?_); (case c1 => exact (Nat.min_eq_left h1).symm); (case c2 => exact fun _ => ⟨rfl, _, rfl, fun j v hj => by cases j with | zero => (cases hj; exact pw_cell_below (below_alloc (Below.refl _ _) _) HX.out) | succ j => cases hj⟩); (case c3 => rw [halfL_length]; simp; omega); (case c4 => intro v hv; obtain rfl := List.mem_singleton.1 hv; rfl); intro w9 hg9 hb9; have HG : Aside0 (w9.heap[w'.heap.size]? = some (.cells (halfL s 1 (n - 1)).toArray 9 (0, 0))) := ⟨by have := hg9.out; rw [show [Value.string s] = List.replicate 1 (Value.string s) from rfl, half_splice s 0 n 1 h1, Nat.zero_add] at this; exact this⟩; have HB := Aside0.mk hb9; clear hg9 hb9))
  clear hmk d1 d2 d3
  go_loopg [8] n (fun gg v8 wr => ∃ m : Nat, v8 = .int .i64 m ∧ Aside0 (1 ≤ m ∧ m ≤ n ∧ n - m ≤ gg) ∧ Aside0 (wr.heap[w'.heap.size]? = some (.cells (halfL s m (n - m)).toArray 9 (0, 0))) ∧ Aside0 (Below w'.heap.size w' wr))
  case atStart => exact ⟨1, rfl, ⟨by omega, h1, by omega⟩, HG, HB⟩
  case round =>
    clear HG HB
    obtain ⟨m, rfl, HI, HG, HB⟩ := hrel
    by_cases c : m < n
    · have cb : decide ((m : Int) < (n : Int)) = true := decide_eq_true (by omega)
      have cb2 : decide (m < n) = true := decide_eq_true c
      have HM : Aside0 (m ≤ 512 ∧ min m (n - m) ≤ n - m ∧ 1 ≤ min m (n - m)) := ⟨by have := HI.out; omega⟩
      have hc1 : ∀ W : World, (Instr.slice 83 (.slice (some ⟨w'.heap.size, 0, none⟩) n n) (some (.int .i64 m)) none none).run Try.prog W = .ok (.slice (some ⟨w'.heap.size, m, none⟩) (n - m) (n - m)) W := fun W => by
        have := cut_from (P := Try.prog) 83 9 .i64 Try.underlying83 hi0 1 hz1 (some ⟨w'.heap.size, 0, none⟩) n n m (by omega) (by omega) W
        rw [Int.toNat_natCast, if_neg (by omega), Nat.mul_one] at this
        rw [this]
        simp [Addr.add]
        have := HI.out
        omega
      have hc2 : ∀ W : World, (Instr.slice 83 (.slice (some ⟨w'.heap.size, 0, none⟩) n n) none (some (.int .i64 m)) none).run Try.prog W = .ok (.slice (some ⟨w'.heap.size, 0, none⟩) m n) W := fun W => by
        have := cut_to (P := Try.prog) 83 9 .i64 Try.underlying83 hi0 (some ⟨w'.heap.size, 0, none⟩) n n m (by omega) (by omega) (Nat.le_refl _) W
        rw [Int.toNat_natCast] at this
        exact this
      have hw : wrap64 ((m : Int) + ((min m (n - m) : Nat) : Int)) = ((m + min m (n - m) : Nat) : Int) := by have := HM.out; unfold wrap64; omega
      have HW := Aside0.mk hw
      clear hw
      have HGD : Aside0 (wr.drew.heap[w'.heap.size]? = some (.cells (halfL s m (n - m)).toArray 9 (0, 0))) := ⟨blk_drew HG.out⟩
      have HBD : Aside0 (Below w'.heap.size w' wr.drew) := ⟨below_drew HB.out⟩
      have HL1 : Aside0 ((List.replicate (min m (n - m)) (Value.string s)).length = Nat.min m (n - m)) := ⟨List.length_replicate⟩
      have HL2 : Aside0 (∀ j v, (List.replicate (min m (n - m)) (Value.string s))[j]? = some v → wr.drew.cell? ((⟨w'.heap.size, 0, none⟩ : Addr).add j) = some v) := ⟨fun j v hj => by
        rw [List.getElem?_replicate] at hj
        split at hj
        · cases hj
          rw [add_row, Nat.zero_add]
          exact (blk_cell HGD.out _).trans (by rw [List.getElem?_toArray]; exact halfL_at s m (n - m) j (by omega))
        · cases hj⟩
      have HL3 : Aside0 (m + (List.replicate (min m (n - m)) (Value.string s)).length ≤ (halfL s m (n - m)).length) := ⟨by rw [halfL_length, List.length_replicate]; have := HM.out; omega⟩
      have HL4 : Aside0 (∀ v ∈ List.replicate (min m (n - m)) (Value.string s), v.oneCell' = true) := ⟨fun v hv => by rw [(List.mem_replicate.1 hv).2]; rfl⟩
      go_wp2_with fail
      go_region_law (refine step_copy_splice rfl (.tmp 41) (.tmp 44) 83 83 rfl 9 Try.underlying83 HSZ.out (some ⟨w'.heap.size, m, none⟩) (some ⟨w'.heap.size, 0, none⟩) (n - m) (n - m) m n ?e1 ?e2 w'.heap.size m (halfL s m (n - m)) 9 HGD.out (List.replicate (min m (n - m)) (.string s)) HL1.out (fun _ => ⟨rfl, _, rfl, HL2.out⟩) HL3.out HL4.out w'.heap.size w' HBD.out (Nat.le_refl _) ?_; (case e1 => (first | (go_simp; done) | (go_simp; rfl))); (case e2 => (first | (go_simp; done) | (go_simp; rfl))); intro w9 hg9 hb9; have HG9 := Aside0.mk hg9.out; have HB9 := Aside0.mk hb9; clear hg9 hb9)
      go_wp2_with fail
      go_roundg (n - (m + min m (n - m)))
      case measure => have := HI.out; have := HM.out; omega
      case rel => exact ⟨m + min m (n - m), by rw [i64_w, HW.out], ⟨by have := HI.out; omega, by have := HI.out; omega, by omega⟩, ⟨by have := HG9.out; rw [half_splice s m (n - m) _ (by omega)] at this; rw [show n - (m + min m (n - m)) = n - m - min m (n - m) by omega]; exact this⟩, HB9⟩
    · have cb : decide ((m : Int) < (n : Int)) = false := decide_eq_false (by omega)
      have cb2 : decide (m < n) = false := decide_eq_false c
      have HN : Aside0 (m = n) := ⟨by have := HI.out; omega⟩
      clear c
      go_wp2_with fail
      go_ret
      refine ⟨_, rfl, ?_, HB.out⟩
      have hg := HG.out
      rw [HN.out, Nat.sub_self] at hg
      have e : (List.replicate n s).length = n := List.length_replicate
      refine Kd.R_of_own (h1 := fun _ => rfl) (enc := Value.string) ?_ (fun _ _ => trivial)
      rw [e]
      refine ⟨by simp [encs], .inr ⟨w'.heap.size, n, _, rfl, Nat.le_refl _, hg, Nat.le_refl _, by unfold maxLen; omega, by simp [halfL], ?_⟩⟩
      simp [halfL, encs]
theorem zero_is : strings_Repeat.f (⟨#[0]⟩ : ByteArray) 32 = some zero32 := by
  unfold strings_Repeat.f
  rw [if_pos (by refine ⟨by decide, by decide, ?_⟩; show 1 * 32 ≤ _; decide)]
  rfl
set_option maxHeartbeats 4000000 in
set_option maxRecDepth 100000 in
theorem disk_New.calls (a0 : Int) (r1 : List ByteArray) (r2 : List S104) (r3 : Int) (w : World) (h : disk_New.f a0 = some (r1, r2, r3)) :
    Calls Try.prog 42 #[.int .i64 a0] w fun e w' => ∃ v0 v1 : Value, e = .returned (.tuple #[.agg #[v0, v1], .int .i64 r3]) ∧ Kd.R Kd.string 9 w' w.heap.size (fun _ => True) v0 r1 ∧ Kd.R k104 104 w' w.heap.size (fun _ => True) v1 r2 ∧ Below w.heap.size w w' := by
  unfold disk_New.f at h
  by_cases c : 1 ≤ a0 ∧ a0 ≤ 512
  · rw [if_pos c] at h
    simp only [Option.some.injEq, Prod.mk.injEq] at h
    obtain ⟨rfl, rfl, rfl⟩ := h
    obtain ⟨n, rfl⟩ : ∃ n : Nat, a0 = n := ⟨a0.toNat, by omega⟩
    rw [Int.toNat_natCast]
    have HN : Aside0 (1 ≤ n ∧ n ≤ 512) := ⟨by omega⟩
    have d1 : decide ((n : Int) < 1) = false := decide_eq_false (by omega)
    have d2 : decide (512 < (n : Int)) = false := decide_eq_false (by omega)
    have d3 : decide (n < 1) = false := decide_eq_false (by omega)
    have d4 : decide (512 < n) = false := decide_eq_false (by omega)
    have HZ := Aside0.mk zero_is
    clear c
    go_enter Try.func42, Try.ntmps42
    go_wp2_with (first
      | (go_at_call 84; (with_reducible refine (strings_Repeat.calls _ 32 zero32 _ HZ.out).mono ?_); rintro e w5 ⟨rfl, hb⟩; have HBR := Aside0.mk (blk_below (heap_alloc_new w (.cells #[.slice none 0 0, .slice none 0 0] 86)) hb); have HB := Aside0.mk (below_step (below_alloc (Below.refl w.heap.size w) _) hb); clear hb)
      | (go_at_call 83; (with_reducible refine (slices_Repeat_one w5.heap.size zero32 n HN.out.1 HN.out.2 _ ?side9).mono ?_); (case side9 => exact (blk_cell (heap_alloc_new w5 _) 0).trans rfl); rintro e w6 ⟨v0, rfl, hv0, hb⟩; obtain ⟨p0, q0, rfl⟩ := Kd.R_slice hv0; rw [show (List.replicate n zero32).length = n from List.length_replicate] at hv0; have HV := Aside0.mk (Kd.R_lower (base' := w.heap.size) hv0 (Nat.le_trans HB.out.size (below_alloc (Below.refl w5.heap.size w5) _).size)); have HBR6 := Aside0.mk (blk_below (blk_alloc HBR.out _) hb); have HB6 := Aside0.mk (below_step (below_alloc HB.out _) hb); (have y0 : w6.cell? ⟨w.heap.size, 0, none⟩ = some (.slice none 0 0) := (blk_cell HBR6.out 0).trans rfl); (have y1 : w6.cell? ⟨w.heap.size, 1, none⟩ = some (.slice none 0 0) := (blk_cell HBR6.out 1).trans rfl); have z0 := blk_frozen HBR6.out 0; have z1 := blk_frozen HBR6.out 1; clear hv0 hb))
    refine bodyPost_ret (results_ct rfl _ _ w.heap.size 86 #[.slice p0 n q0, .slice none 0 0] (0, 0) _ rfl (blk_put (blk_put HBR6.out 0 _ rfl) 1 _ rfl) Try.underlying86 rfl (by kernel_rfl)) rfl ⟨_, _, rfl, ?_, Kd.R_nil _ _ _ _ _, ?_⟩
    · exact Kd.R_set (Kd.R_set HV.out HBR6.out (by decide) 0 _) (blk_put HBR6.out 0 _ rfl) (by decide) 1 _
    · exact Below.setCell (Below.setCell HB6.out (Nat.le_refl _) _) (Nat.le_refl _) _
  · rw [if_neg c] at h
    simp only [Option.some.injEq, Prod.mk.injEq] at h
    obtain ⟨rfl, rfl, rfl⟩ := h
    by_cases c1 : a0 < 1
    · have d1 : decide (a0 < 1) = true := decide_eq_true c1
      clear c c1
      go_enter Try.func42, Try.ntmps42
      go_wp2_with fail
      exact bodyPost_ret (results_ct rfl _ _ w.heap.size 86 #[.slice none 0 0, .slice none 0 0] (0, 0) _ rfl (heap_alloc_new _ _) Try.underlying86 rfl (by kernel_rfl)) rfl ⟨_, _, rfl, Kd.R_nil _ _ _ _ _, Kd.R_nil _ _ _ _ _, below_alloc (Below.refl _ _) _⟩
    · have d1 : decide (a0 < 1) = false := decide_eq_false c1
      have d2 : decide (512 < a0) = true := decide_eq_true (by omega)
      clear c c1
      go_enter Try.func42, Try.ntmps42
      go_wp2_with fail
      exact bodyPost_ret (results_ct rfl _ _ w.heap.size 86 #[.slice none 0 0, .slice none 0 0] (0, 0) _ rfl (heap_alloc_new _ _) Try.underlying86 rfl (by kernel_rfl)) rfl ⟨_, _, rfl, Kd.R_nil _ _ _ _ _, Kd.R_nil _ _ _ _ _, below_alloc (Below.refl _ _) _⟩


/-! ### disk_Read: function 44 -/

def thereB (N : Nat) (a n : Int) : Bool := decide (0 ≤ n) && decide (n ≤ (N : Int)) && decide (0 ≤ a) && decide (a ≤ (N : Int) - n)
theorem there_is (l0 : List ByteArray) (l1 : List S104) (a n : Int) (hl : l0.length ≤ 9223372036854775807) : disk_there.f l0 l1 a n = some (thereB l0.length a n) := by
  unfold disk_there.f thereB
  by_cases h1 : n ≥ 0
  · rw [if_pos h1, decide_eq_true (show 0 ≤ n from h1), Bool.true_and]
    by_cases h2 : n ≤ (l0.length : Int)
    · rw [if_pos h2, decide_eq_true h2, Bool.true_and, show wrap64 ((l0.length : Int) - n) = (l0.length : Int) - n by unfold wrap64; omega]
      by_cases h3 : a ≥ 0
      · rw [if_pos h3, decide_eq_true (show 0 ≤ a from h3), Bool.true_and]
      · rw [if_neg h3, decide_eq_false (show ¬ 0 ≤ a from h3), Bool.false_and]
    · rw [if_neg h2, decide_eq_false h2, Bool.false_and, Bool.false_and]
  · rw [if_neg h1, decide_eq_false (show ¬ 0 ≤ n from h1), Bool.false_and, Bool.false_and, Bool.false_and]
theorem joinB_nil (l : List ByteArray) : Lib.join (l.map (·.data.toList)) [] = (l.map (·.data.toList)).flatten := by
  cases l with
  | nil => rfl
  | cons x r =>
    rw [List.map_cons, Lib.join_cons, Lib.joinTail, List.flatten_cons]
    congr 2
    simp
theorem flatten_size (l : List ByteArray) (h : ∀ s ∈ l, s.size = 32) : (l.map (·.data.toList)).flatten.length = 32 * l.length := by
  induction l with
  | nil => rfl
  | cons x r ih =>
    rw [List.map_cons, List.flatten_cons, List.length_append, ih (fun s hs => h s (List.mem_cons_of_mem _ hs)), data_length, h x List.mem_cons_self, List.length_cons]
    omega
theorem applyW_32 (kept : Nat → Bool) : ∀ (l : List S104) (i : Nat) (S : List ByteArray), (∀ x ∈ l, x.f1.size = 32) → (∀ s ∈ S, s.size = 32) → ∀ s ∈ applyW kept i l S, s.size = 32
  | [], _, _, _, hS => hS
  | x :: l, i, S, hl, hS => by
    rw [applyW]
    refine applyW_32 kept l _ _ (fun y hy => hl y (List.mem_cons_of_mem _ hy)) ?_
    split
    · intro s hs
      rcases List.mem_or_eq_of_mem_set hs with h | h
      · exact hS s h
      · rw [h]; exact hl x List.mem_cons_self
    · exact hS
theorem right_32 {l0 : List ByteArray} {l1 : List S104} (h : disk_right l0 l1 = true) : l0.length ≤ 512 ∧ (∀ s ∈ l0, s.size = 32) ∧ ∀ x ∈ l1, x.f1.size = 32 := by
  simp only [disk_right, Bool.and_eq_true, decide_eq_true_eq, Bool.not_eq_true', List.any_eq_false] at h
  refine ⟨h.1.1.2, fun s hs => by simpa using h.1.2 s hs, fun x hx => ?_⟩
  have := h.2 x hx
  simp only [wBad, Bool.or_eq_true, not_or] at this
  simpa using this.1
def readB (l0 : List ByteArray) (l1 : List S104) (a n : Int) : ByteArray := joinB (((lastingW (fun _ => true) l0 l1).1.take (a + n).toNat).drop a.toNat) ⟨#[]⟩
def disk_Read.f (l0 : List ByteArray) (l1 : List S104) (a1 : Int) (a2 : Int) : Option (ByteArray × Int) :=
  if disk_fit l0 l1 = true then (if (disk_right l0 l1 && thereB l0.length a1 a2) = true then some (readB l0 l1 a1 a2, 0) else some (⟨#[]⟩, 1)) else none
theorem join_ok {l0 : List ByteArray} {l1 : List S104} (hb : disk_right l0 l1 = true) (i j : Nat) : strings_Join.f (((lastingW (fun _ => true) l0 l1).1.take j).drop i) ⟨#[]⟩ = some (joinB (((lastingW (fun _ => true) l0 l1).1.take j).drop i) ⟨#[]⟩) := by
  obtain ⟨h1, h2, h3⟩ := right_32 hb
  have h4 := applyW_32 (fun _ => true) l1 0 l0 h3 h2
  have h5 := applyW_length (fun _ => true) l1 0 l0
  rw [show (lastingW (fun _ => true) l0 l1).1 = applyW (fun _ => true) 0 l1 l0 by simp [lastingW, hb]]
  generalize applyW (fun _ => true) 0 l1 l0 = S at h4 h5
  have h6 : ((S.take j).drop i).length ≤ 512 := by rw [List.length_drop, List.length_take]; omega
  have h7 := flatten_size ((S.take j).drop i) (fun s hs => h4 s (List.mem_of_mem_take (List.mem_of_mem_drop hs)))
  have h8 : (joinB ((S.take j).drop i) ⟨#[]⟩).size ≤ 140737488355328 := by
    simp only [joinB, ByteArray.size, List.size_toArray]
    rw [joinB_nil]
    omega
  unfold strings_Join.f
  rw [if_pos ⟨by omega, h8⟩]
theorem field_0 (p0 : Option Addr) (n0 q0 : Nat) (p1 : Option Addr) (n1 q1 : Nat) (w : World) : (Instr.field 86 (.agg #[.slice p0 n0 q0, .slice p1 n1 q1]) 0).run Try.prog w = .ok (.slice p0 n0 q0) w := by kernel_rfl
set_option maxHeartbeats 4000000 in
set_option maxRecDepth 100000 in
theorem disk_Read.calls (A0 : Option Addr) (c0 : Nat) (l0 : List ByteArray) (A1 : Option Addr) (c1 : Nat) (l1 : List S104) (a1 : Int) (a2 : Int) (r1 : ByteArray) (r2 : Int) (w : World)
    (hr0 : Kd.C Kd.string w A0 l0.length l0) (hc0 : l0.length ≤ c0) (hr1 : Kd.C k104 w A1 l1.length l1) (hc1 : l1.length ≤ c1) (h : disk_Read.f l0 l1 a1 a2 = some (r1, r2)) :
    Calls Try.prog 44 #[.agg #[.slice A0 l0.length c0, .slice A1 l1.length c1], .int .i64 a1, .int .i64 a2] w fun e w' => e = .returned (.tuple #[.string r1, .int .i64 r2]) ∧ Below w.heap.size w w' := by
  unfold disk_Read.f at h
  by_cases hf : disk_fit l0 l1 = true
  · rw [if_pos hf] at h
    have HF := Aside0.mk hf
    have HT0 := Aside0.mk (there_is l0 l1 a1 a2 (Kd.C_max hr0))
    have HR0 := Aside0.mk hr0
    have HC0 := Aside0.mk hc0
    have HR1 := Aside0.mk hr1
    have HC1 := Aside0.mk hc1
    clear hf hr0 hc0 hr1 hc1
    cases hb : disk_right l0 l1 with
    | false =>
      have HRT : Aside0 (disk_Right.f l0 l1 = some false) := ⟨congrArg some hb⟩
      rw [hb, Bool.false_and, if_neg (by decide)] at h
      simp only [Option.some.injEq, Prod.mk.injEq] at h
      obtain ⟨rfl, rfl⟩ := h
      clear hb
      go_enter Try.func44, Try.ntmps44
      go_wp2_with (go_at_call 45; (with_reducible refine (disk_Right.calls _ c0 l0 _ c1 l1 false _ ?s1 HC0.out ?s2 HC1.out HRT.out).mono ?_); (case s1 => exact Kd.C_alloc HR0.out _); (case s2 => exact Kd.C_alloc HR1.out _); rintro e w5 ⟨rfl, hb⟩; have HB5 := Aside0.mk (below_step (below_alloc (Below.refl w.heap.size w) _) hb); clear hb)
      go_ret2
      exact ⟨rfl, HB5.out⟩
    | true =>
      have HRT : Aside0 (disk_Right.f l0 l1 = some true) := ⟨congrArg some hb⟩
      have HJ := Aside0.mk (join_ok hb a1.toNat (a1 + a2).toNat)
      have HLN : Aside0 (l0.length ≤ 512 ∧ (lastingW (fun _ => true) l0 l1).1.length = l0.length) := ⟨(right_32 hb).1, by simp only [lastingW, hb, if_true, applyW_length]⟩
      rw [hb, Bool.true_and] at h
      clear hb
      cases ht : thereB l0.length a1 a2 with
      | false =>
        rw [ht, if_neg (by decide)] at h
        simp only [Option.some.injEq, Prod.mk.injEq] at h
        obtain ⟨rfl, rfl⟩ := h
        have HT : Aside0 (disk_there.f l0 l1 a1 a2 = some false) := ⟨HT0.out.trans (congrArg some ht)⟩
        clear ht HT0
        go_enter Try.func44, Try.ntmps44
        go_wp2_with (first
          | (go_at_call 45; (with_reducible refine (disk_Right.calls _ c0 l0 _ c1 l1 true _ ?s1 HC0.out ?s2 HC1.out HRT.out).mono ?_); (case s1 => exact Kd.C_alloc HR0.out _); (case s2 => exact Kd.C_alloc HR1.out _); rintro e w5 ⟨rfl, hb⟩; have HB5 := Aside0.mk (below_step (below_alloc (Below.refl w.heap.size w) _) hb); have BD := Aside0.mk (blk_below (heap_alloc_new w (.cells #[.slice A0 l0.length c0, .slice A1 l1.length c1] 86)) hb); (have x0 : w5.cell? ⟨w.heap.size, 0, none⟩ = some (.slice A0 l0.length c0) := (blk_cell BD.out 0).trans rfl); (have x1 : w5.cell? ⟨w.heap.size, 1, none⟩ = some (.slice A1 l1.length c1) := (blk_cell BD.out 1).trans rfl); clear hb)
          | (go_at_call 85; (with_reducible refine (disk_there.calls _ c0 l0 _ c1 l1 a1 a2 false _ ?s1 HC0.out ?s2 HC1.out HT.out).mono ?_); (case s1 => exact Kd.C_below HR0.out HB5.out); (case s2 => exact Kd.C_below HR1.out HB5.out); rintro e w6 ⟨rfl, hb⟩; have HB6 := Aside0.mk (below_step HB5.out hb); clear hb))
        go_ret2
        exact ⟨rfl, HB6.out⟩
      | true =>
        rw [ht, if_pos rfl] at h
        simp only [Option.some.injEq, Prod.mk.injEq] at h
        obtain ⟨rfl, rfl⟩ := h
        have HT : Aside0 (disk_there.f l0 l1 a1 a2 = some true) := ⟨HT0.out.trans (congrArg some ht)⟩
        simp only [thereB, Bool.and_eq_true, decide_eq_true_eq] at ht
        have HN : Aside0 (0 ≤ a1 ∧ a1 ≤ a1 + a2 ∧ a1 + a2 ≤ (lastingW (fun _ => true) l0 l1).1.length ∧ wrap64 (a1 + a2) = a1 + a2) := ⟨by have := HLN.out; unfold wrap64; omega⟩
        have HFL : Aside0 (disk_Flush.f l0 l1 = some ((lastingW (fun _ => true) l0 l1).1, (lastingW (fun _ => true) l0 l1).2)) := ⟨if_pos HF.out⟩
        unfold readB
        clear ht HT0 HLN HF
        generalize (lastingW (fun _ => true) l0 l1).1 = S at *
        generalize (lastingW (fun _ => true) l0 l1).2 = S2 at *
        obtain ⟨L, hL⟩ : ∃ L, (S.take (a1 + a2).toNat).drop a1.toNat = L := ⟨_, rfl⟩
        rw [hL] at HJ
        rw [hL]
        have HL := Aside0.mk hL
        clear hL
        have hw := HN.out.2.2.2
        go_enter Try.func44, Try.ntmps44
        go_wp2_with (first
          | (go_at_call 45; (with_reducible refine (disk_Right.calls _ c0 l0 _ c1 l1 true _ ?s1 HC0.out ?s2 HC1.out HRT.out).mono ?_); (case s1 => exact Kd.C_alloc HR0.out _); (case s2 => exact Kd.C_alloc HR1.out _); rintro e w5 ⟨rfl, hb⟩; have HB5 := Aside0.mk (below_step (below_alloc (Below.refl w.heap.size w) _) hb); have BD := Aside0.mk (blk_below (heap_alloc_new w (.cells #[.slice A0 l0.length c0, .slice A1 l1.length c1] 86)) hb); (have x0 : w5.cell? ⟨w.heap.size, 0, none⟩ = some (.slice A0 l0.length c0) := (blk_cell BD.out 0).trans rfl); (have x1 : w5.cell? ⟨w.heap.size, 1, none⟩ = some (.slice A1 l1.length c1) := (blk_cell BD.out 1).trans rfl); clear hb)
          | (go_at_call 85; (with_reducible refine (disk_there.calls _ c0 l0 _ c1 l1 a1 a2 true _ ?s1 HC0.out ?s2 HC1.out HT.out).mono ?_); (case s1 => exact Kd.C_below HR0.out HB5.out); (case s2 => exact Kd.C_below HR1.out HB5.out); rintro e w6 ⟨rfl, hb⟩; have HB6 := Aside0.mk (below_step HB5.out hb); have BE := Aside0.mk (blk_below BD.out hb); (have y0 : w6.cell? ⟨w.heap.size, 0, none⟩ = some (.slice A0 l0.length c0) := (blk_cell BE.out 0).trans rfl); (have y1 : w6.cell? ⟨w.heap.size, 1, none⟩ = some (.slice A1 l1.length c1) := (blk_cell BE.out 1).trans rfl); clear hb)
          | (go_at_call 50; (with_reducible refine (disk_Flush.calls _ c0 l0 _ c1 l1 S S2 _ ?s1 HC0.out ?s2 HC1.out HFL.out).mono ?_); (case s1 => exact Kd.C_below HR0.out HB6.out); (case s2 => exact Kd.C_below HR1.out HB6.out); rintro e w7 ⟨v0, v1, rfl, hv0, hv1, hb⟩; have HB7 := Aside0.mk (below_step HB6.out hb); obtain ⟨p0, q0, rfl, hq, hp⟩ := Kd.R_reads hv0; obtain ⟨p1, q1, rfl⟩ := Kd.R_slice hv1; have hfd := field_0 p0 S.length q0 p1 S2.length q1; have HP := Aside0.mk hp; have HQ := Aside0.mk hq; obtain ⟨i0, hi0, hz0, hz1, hz2⟩ := info_parts info9; have hcut := cut_mid (P := Try.prog) 83 9 .i64 .i64 Try.underlying83 hi0 1 hz1 p0 S.length q0 a1 (a1 + a2) HN.out.1 HN.out.2.1 HN.out.2.2.1 hq; have hlen : (a1 + a2).toNat - a1.toNat = L.length := (by have := HN.out; rw [← HL.out, List.length_drop, List.length_take]; omega); have hm := Kd.C_mid (lo := a1.toNat) (hi := (a1 + a2).toNat) hp (by have := HN.out; omega) (by have := HN.out; omega) hq; have hmc : L.length ≤ q0 - a1.toNat := (by have := HN.out; omega); rw [hlen] at hcut; rw [HL.out] at hm; have HM : Aside0 (Kd.C Kd.string w7 (if q0 = a1.toNat then p0 else p0.map (·.add (a1.toNat * 1))) L.length L) := ⟨hm⟩; have HMC := Aside0.mk hmc; generalize (if q0 = a1.toNat then p0 else p0.map (·.add (a1.toNat * 1))) = P0 at *; generalize q0 - a1.toNat = Q0 at *; clear hb hv0 hv1 hp hq hlen hi0 hz0 hz1 hz2 hm hmc)
          | (go_at_call 86; (with_reducible refine (strings_Join.calls _ _ L (⟨#[]⟩ : ByteArray) _ _ HM.out HMC.out HJ.out).mono ?_); rintro e w8 ⟨rfl, hb⟩; have HB8 := Aside0.mk (below_step HB7.out hb); clear hb))
        go_ret2
        exact ⟨rfl, HB8.out⟩
  · rw [if_neg hf] at h
    exact absurd h (by simp)


end Go.Proofs.Ythidkdlmpkeogaa.F
