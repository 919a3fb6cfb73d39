import Derived.Test.YthcohkgpbjcliaaFUp
import Derived.Test.YthcohkgpbjcliaaFPre
import Derived.Laws.BitsLemmas
import Derived.Test.YthcohkgpbjcliaaFLem
namespace Go.Proofs.Ythcohkgpbjcliaa.F
open Go.RowKit Go.Proofs.YthcohkgpbjcliaaW.PrintWords Go.Proofs.YthcohkgpbjcliaaW.PrintLast Go.Proofs.YthcohkgpbjcliaaW.PrintMore
attribute [local go_sem] max2_int min2_int max_two min_two max_three min_three max_four min_four
set_option linter.unusedVariables false
set_option linter.unusedSimpArgs false
def check_turn.l0 : Nat → Int → Int → Option (Int)
 | 0, _, _ => none
 | k + 1, x0, x4 => if x4 < 8 then (if (Go.bits .and .u32 x0 8388608) > 0 then (check_turn.l0 k (Go.bits .xor .u32 (Go.bits .and .u32 ((x0 * 2) % 4294967296) 16777215) 8801531) (wrap64 (x4 + 1))) else (check_turn.l0 k (Go.bits .and .u32 ((x0 * 2) % 4294967296) 16777215) (wrap64 (x4 + 1)))) else (some x0)
def check_turn.f (k : Nat) (a0 : Int) : Option (Int) := check_turn.l0 k a0 0
theorem check_turn.mono_l : ∀ k, (∀ y0 y1, LeO (check_turn.l0 k y0 y1) (check_turn.l0 (k + 1) y0 y1))
 | 0 => fun _ _ r h => by simp [check_turn.l0] at h
 | k + 1 => by
  have ih0 := check_turn.mono_l k
  ·intro y0 y1
   unfold check_turn.l0
   repeat' first
   | (with_reducible exact ih0 _ _)
   | (with_reducible exact LeO.refl _)
   | (with_reducible exact LeO.none _)
   | (with_reducible refine LeO.ite ?_ ?_)
   | (with_reducible refine LeO.bind ?_ (fun _ => ?_))
   | exact ih0 _ _
   | exact LeO.none _
   | refine LeO.ite ?_ ?_
   | refine LeO.bind ?_ (fun _ => ?_)
theorem check_turn.mono : ∀ a0 k, LeO (check_turn.f k a0) (check_turn.f (k + 1) a0) := by
 intro a0 k
 have ih0 := check_turn.mono_l k
 unfold check_turn.f
 repeat' first
   | (with_reducible exact ih0 _ _)
   | (with_reducible exact LeO.refl _)
   | (with_reducible exact LeO.none _)
   | (with_reducible refine LeO.ite ?_ ?_)
   | (with_reducible refine LeO.bind ?_ (fun _ => ?_))
   | exact ih0 _ _
   | exact LeO.none _
   | refine LeO.ite ?_ ?_
   | refine LeO.bind ?_ (fun _ => ?_)
set_option maxHeartbeats 8000000 in
set_option maxRecDepth 100000 in
theorem check_turn.calls (k : Nat) (a0 : Int) (r : Int) (w : World) (h : check_turn.f k a0 = some r) :
  Calls Try.prog 119 #[.int .u32 a0] w fun e w' => e = .returned (.int .u32 r) ∧ Drawn0 w w' := by
 have H : (check_turn.l0 k a0 0) = some r := h
 clear h
 have H' := Aside0.mk H
 clear H
 go_enter Try.func119, Try.ntmps119
 go_wp2
 go_loopg [0, 4] k (fun kq v0 v4 w' => ∃ (x0_1 : Int) (x4_1 : Int), v0 = .int .u32 x0_1 ∧ v4 = .int .i64 x4_1 ∧ Aside0 (check_turn.l0 kq x0_1 x4_1 = some r) ∧ Aside0 (kq ≤ k) ∧ Drawn0 w w')
 case atStart => exact ⟨(a0), (0), (by first | rfl | (simp; done) | (simp [*]; done)), (by first | rfl | (simp; done) | (simp [*]; done)), H', ⟨Nat.le_refl _⟩, by repeat (first | exact Drawn0.refl _ | apply Drawn0.step)⟩
 case round =>
  clear H'
  try clear c1
  obtain ⟨x0_1, x4_1, rfl, rfl, HA, HK1, ⟨m1, rfl⟩⟩ := hrel
  cases gk with
  | zero => exact absurd HA.out (by simp [check_turn.l0])
  | succ k1 =>
   have H := HA.out
   clear HA
   simp only [check_turn.l0] at H
   by_cases c2 : x4_1 < 8
   ·rw [if_pos c2] at H
    have c2b0 : decide (x4_1 < 8) = true := decide_eq_true c2
    clear c2
    by_cases c3 : (Go.bits .and .u32 x0_1 8388608) > 0
    ·rw [if_pos c3] at H
     have c3b0 : decide (0 < (Go.bits .and .u32 x0_1 8388608)) = true := decide_eq_true c3
     clear c3
     have H' := Aside0.mk H
     clear H
     go_wp2
     go_roundg k1
     case measure => have := HK1.out; omega
     case rel => exact ⟨(Go.bits .xor .u32 (Go.bits .and .u32 ((x0_1 * 2) % 4294967296) 16777215) 8801531), (wrap64 (x4_1 + 1)), (by first | rfl | (simp; done) | (simp [*]; done)), (by first | rfl | (simp; done) | (simp [*]; done)), H', ⟨by have := HK1.out; omega⟩, by repeat (first | exact Drawn0.refl _ | apply Drawn0.step)⟩
    ·rw [if_neg c3] at H
     have c3b0 : decide (0 < (Go.bits .and .u32 x0_1 8388608)) = false := decide_eq_false c3
     clear c3
     have H' := Aside0.mk H
     clear H
     go_wp2
     go_roundg k1
     case measure => have := HK1.out; omega
     case rel => exact ⟨(Go.bits .and .u32 ((x0_1 * 2) % 4294967296) 16777215), (wrap64 (x4_1 + 1)), (by first | rfl | (simp; done) | (simp [*]; done)), (by first | rfl | (simp; done) | (simp [*]; done)), H', ⟨by have := HK1.out; omega⟩, by repeat (first | exact Drawn0.refl _ | apply Drawn0.step)⟩
   ·rw [if_neg c2] at H
    have c2b0 : decide (x4_1 < 8) = false := decide_eq_false c2
    clear c2
    obtain rfl := Option.some.inj H
    go_wp2
    go_ret
    exact ⟨by first | rfl | (simp; done) | (simp [*]; done), by repeat (first | exact Drawn0.refl _ | apply Drawn0.step)⟩
-- NOT PRINTED: function 115 (check_Table)
-- uses check_turn.calls
def tabN (i : Nat) : Int := (check_turn.f 12 ((i : Int) * 65536)).getD 0
theorem tab_all : (List.range 256).all (fun i => check_turn.f 12 ((i : Int) * 65536) == some (tabN i) && decide (0 ≤ tabN i) && decide (tabN i < 4294967296)) = true := by decide +kernel
theorem tab_ok (i : Nat) (h : i < 256) : check_turn.f 12 ((i : Int) * 65536) = some (tabN i) ∧ 0 ≤ tabN i ∧ tabN i < 4294967296 := by
 have := List.all_eq_true.1 tab_all i (List.mem_range.2 h)
 simp only [Bool.and_eq_true, beq_iff_eq, decide_eq_true_eq] at this
 exact ⟨this.1.1, this.1.2, this.2⟩
def tabV (i : Nat) : Value := .int .u32 (tabN i)
def tabC (i : Nat) : Array Value := ((List.range i).map tabV ++ List.replicate (256 - i) (Value.int .u32 0)).toArray
theorem tabC_zero : Try.zeroCells164 = tabC 0 := by kernel_rfl
theorem tabC_size (i : Nat) (h : i ≤ 256) : (tabC i).size = 256 := by simp [tabC]; omega
theorem tabC_set (i : Nat) (h : i < 256) : (tabC i).setIfInBounds i (tabV i) = tabC (i + 1) := by
 unfold tabC
 have e : 256 - i = (256 - (i + 1)) + 1 := by omega
 rw [List.setIfInBounds_toArray, List.set_append_right _ _ (by simp), List.length_map, List.length_range, Nat.sub_self, e, List.replicate_succ, List.set_cons_zero, List.range_succ, List.map_append, List.append_assoc]
 rfl
theorem info132 : (Try.prog.info? 164).map (·.size) = some 256 := by kernel_rfl
theorem tabC_one : (tabC 256).all (·.oneCell') = true := by kernel_rfl
theorem below_setRow {B : Nat} {w w' : World} (h : Below B w w') {g : Nat} (hg : B ≤ g) (cs : Array Value) : Below B w (w'.setRow g cs) :=
 ⟨h.os, h.tape, h.output, by simpa using h.size, fun k hk => by rw [← h.block k hk]; simp only [World.setRow, Array.getElem?_modify]; rw [if_neg (by omega)]⟩
structure TabW (w wr : World) (i : Nat) : Prop where
 b0 : wr.heap[w.heap.size]? = some (.cells (tabC 0) 164 (0, 0))
 b1 : wr.heap[w.heap.size + 1]? = some (.cells (tabC i) 164 (0, 0))
 hb : Below w.heap.size w wr
theorem TabW.step {w wr w1 : World} {i : Nat} (h : TabW w wr i) (hb : Below wr.heap.size wr w1) : TabW w w1 i := ⟨blk_below h.b0 hb, blk_below h.b1 hb, below_step h.hb hb⟩
theorem TabW.put {w wr : World} {i : Nat} (h : TabW w wr i) (hi : i < 256) : TabW w (wr.setCell ⟨w.heap.size + 1, i, none⟩ (tabV i)) (i + 1) :=
 ⟨blk_far h.b0 (by simp only; omega) _, by rw [← tabC_set i hi]; exact blk_put h.b1 i _ rfl, Below.setCell h.hb (by simp only; omega) _⟩
set_option maxHeartbeats 8000000 in
set_option maxRecDepth 100000 in
theorem check_Table.walk (T : Array Value) (hT : T = tabC 256) (w : World) : Calls Try.prog 115 #[] w fun e w' => e = .returned (.agg T) ∧ Below w.heap.size w w' := by
 have HT := Aside0.mk hT
 clear hT
 have HS : Aside0 (TabW w ((w.alloc (Obj.cells Try.zeroCells164 164)).alloc (Obj.cells Try.zeroCells164 164)) 0) := by
  rw [tabC_zero]
  exact ⟨⟨blk_alloc (heap_alloc_new _ _) _, by simpa using heap_alloc_new (w.alloc (Obj.cells (tabC 0) 164)) _, below_alloc (below_alloc (Below.refl _ _) _) _⟩⟩
 go_enter Try.func115, Try.ntmps115
 go_wp2_with fail
 go_loopg [3] 256 (fun gg v3 wr => ∃ i : Nat, v3 = .int .i64 i ∧ Aside0 (i ≤ 256 ∧ 256 - i ≤ gg) ∧ Aside0 (TabW w wr i))
 case atStart => exact ⟨0, rfl, ⟨by omega, by omega⟩, HS⟩
 case round =>
  clear HS
  obtain ⟨i, rfl, HI, HM⟩ := hrel
  by_cases c : i < 256
  ·have c1 : decide ((i : Int) < 256) = true := decide_eq_true (by omega)
   have c2 : decide (i < 256) = true := decide_eq_true c
   have c3 : (i : Int) < 256 := by omega
   have HK := Aside0.mk (tab_ok i c).1
   have HC := Aside0.mk c
   clear c
   have e1 : wrap64 ((i : Int) + 1) = ((i + 1 : Nat) : Int) := by unfold wrap64; omega
   have E1 := Aside0.mk e1
   clear e1
   go_wp2_with (go_at_call 119; (with_reducible refine (check_turn.calls 12 _ _ _ HK.out).mono ?_); rintro e w1 ⟨rfl, hd⟩; have HM1 := Aside0.mk (HM.out.step hd.below); clear HM; clear hd; have hf := blk_frozen HM1.out.b1 i; have hx := (blk_cell HM1.out.b1 i).trans (Array.getElem?_eq_getElem (by rw [tabC_size i (by have := HC.out; omega)]; exact HC.out)))
   have HP := Aside0.mk (HM1.out.put HC.out)
   have HI2 : Aside0 (256 - (i + 1) < gk ∧ i + 1 ≤ 256) := ⟨by have := HI.out; have := HC.out; omega⟩
   go_roundg (256 - (i + 1))
   case measure => exact HI2.out.1
   case rel => exact ⟨i + 1, by go_num, ⟨HI2.out.2, Nat.le_refl _⟩, HP⟩
  ·have hi : i = 256 := by have := HI.out; omega
   subst hi
   clear c HI
   have b0 := Aside0.mk HM.out.b0
   have b1 : Aside0 (wr.heap[w.heap.size + 1]? = some (.cells T 164 (0, 0))) := ⟨by rw [HT.out]; exact HM.out.b1⟩
   have HB := Aside0.mk HM.out.hb
   have hi : Aside0 ((Try.prog.info? 164).map (·.size) = some T.size) := ⟨by rw [HT.out]; exact (info132).trans (congrArg some (tabC_size 256 (Nat.le_refl _)).symm)⟩
   have hs : Aside0 ((tabC 0).size = T.size) := ⟨by rw [HT.out, tabC_size _ (by omega), tabC_size _ (by omega)]⟩
   have h1 : Aside0 (T.all (·.oneCell') = true) := ⟨by rw [HT.out]; exact tabC_one⟩
   generalize tabC 0 = Z at b0 hs
   clear HM HT
   go_wp2_with (first
    | (refine wpList_load_row (o := ⟨some 13, .load 164 (.tmp 1), _, _, _, _⟩) rfl 164 (.tmp 1) rfl (w.heap.size + 1) rfl 164 T (0, 0) _ b1.out Try.underlying164 rfl hi.out ?_)
    | (refine wpList_store_row (o := ⟨none, .store 164 (.tmp 0) (.tmp 13), _, _, _, _⟩) rfl 164 (.tmp 0) (.tmp 13) rfl w.heap.size T rfl rfl 164 Z b0.out hi.out hs.out h1.out ?_))
   refine bodyPost_ret (results_cell_row rfl _ _ w.heap.size 164 T (0, 0) _ rfl (setRow_heap _ _ _ _ _ _ b0.out) Try.underlying164 rfl hi.out) rfl ⟨rfl, ?_⟩
   exact below_setRow HB.out (Nat.le_refl _) _
theorem check_Table.calls (w : World) : Calls Try.prog 115 #[] w fun e w' => e = .returned (.agg (tabC 256)) ∧ Below w.heap.size w w' := check_Table.walk _ rfl w
structure MoreW (w wr : World) (T : Array Value) (g : Nat) : Prop where
 b0 : wr.heap[g]? = some (.cells T 164 (0, 0))
 hb : Below w.heap.size w wr
theorem MoreW.new {w w1 : World} (hb : Below w.heap.size w w1) (Z T : Array Value) : MoreW w ((w1.alloc (.cells Z 164)).setRow w1.heap.size T) T w1.heap.size :=
 ⟨setRow_heap _ _ _ _ _ _ (heap_alloc_new _ _), below_setRow (below_alloc hb _) hb.size _⟩
theorem bits_xorN (k : IntKind) (j : Nat) (hj : j ≤ k.bits) (hk : ∀ n : Int, 0 ≤ n → n < 2 ^ j → k.wrap n = n) (a b : Nat) (ha : a < 2 ^ j) (hb : b < 2 ^ j) : Go.bits .xor k a b = ((a ^^^ b : Nat) : Int) := by
 have hp : 2 ^ j ≤ 2 ^ k.bits := Nat.pow_le_pow_right (by decide) hj
 have ha' : a % 2 ^ k.bits = a := Nat.mod_eq_of_lt (Nat.lt_of_lt_of_le ha hp)
 have hb' : b % 2 ^ k.bits = b := Nat.mod_eq_of_lt (Nat.lt_of_lt_of_le hb hp)
 have cast : ∀ n : Nat, n < 2 ^ j → ((n : Nat) : Int) < 2 ^ j := fun n h => by exact_mod_cast h
 simp only [bits, BitVec.ofInt_natCast, BitVec.toNat_xor, BitVec.toNat_ofNat, ha', hb']
 exact hk _ (Int.natCast_nonneg _) (cast _ (Nat.xor_lt_two_pow ha hb))
theorem wraps_u32 (n : Int) (h₀ : 0 ≤ n) (h₁ : n < 2 ^ 32) : IntKind.u32.wrap n = n := by rw [IntKind.wrap_u32]; omega
theorem xor_u8 (a b : Nat) (ha : a < 256) (hb : b < 256) : Go.bits .xor .u8 a b = ((a ^^^ b : Nat) : Int) := bits_xorN .u8 8 (by decide) wraps_u8 a b ha hb
theorem xor_u32 (a b : Nat) (ha : a < 4294967296) (hb : b < 4294967296) : Go.bits .xor .u32 a b = ((a ^^^ b : Nat) : Int) := bits_xorN .u32 32 (by decide) wraps_u32 a b ha hb
theorem and_mask (x : Int) (h0 : 0 ≤ x) (h1 : x < 4294967296) : Go.bits .and .u32 x 16777215 = x % 16777216 := bits_mask .u32 32 (by decide) wraps_u32 24 (by decide) x h0 h1
def tabNat (i : Nat) : Nat := (tabN i).toNat
def moreN : Nat → List UInt8 → Nat
 | s, [] => s
 | s, c :: l => moreN ((s * 256 % 16777216) ^^^ tabNat ((s / 65536) ^^^ c.toNat)) l
theorem tab_lt : (List.range 256).all (fun i => decide (tabN i < 16777216)) = true := by decide +kernel
theorem tabN_nat (i : Nat) (h : i < 256) : tabN i = ((tabNat i : Nat) : Int) ∧ tabNat i < 16777216 := by
 have h1 := (tab_ok i h).2.1
 have h2 := List.all_eq_true.1 tab_lt i (List.mem_range.2 h)
 rw [decide_eq_true_eq] at h2
 unfold tabNat
 omega
theorem tabC_get (i : Nat) (h : i < 256) : (tabC 256)[i]? = some (.int .u32 ((tabNat i : Nat) : Int)) := by
 rw [← (tabN_nat i h).1]
 simp [tabC, h, tabV]
theorem step_lt (s c : Nat) (hs : s < 16777216) (hc : c < 256) : (s / 65536) ^^^ c < 256 ∧ (s * 256 % 16777216) ^^^ tabNat ((s / 65536) ^^^ c) < 16777216 := by
 have h1 : (s / 65536) ^^^ c < 2 ^ 8 := Nat.xor_lt_two_pow (by omega) (by omega)
 exact ⟨h1, Nat.xor_lt_two_pow (n := 24) (by omega) (by have := (tabN_nat _ h1).2; omega)⟩
theorem wrap64_in9 (i : Nat) (h : i < 9223372036854775807) : wrap64 ((i : Int) + 1) = ((i + 1 : Nat) : Int) := by unfold wrap64; omega
def More (r : Int) (w : World) (e : Ending) (w' : World) : Prop := e = .returned (.int .u32 r) ∧ Below w.heap.size w w'
set_option maxHeartbeats 8000000 in
set_option maxRecDepth 100000 in
theorem check_More.walk (T : Array Value) (hT : T = tabC 256) (a0 : Int) (h0 : 0 ≤ a0) (h1 : a0 < 4294967296) (a1 : ByteArray) (h2 : a1.size ≤ 9223372036854775806) (w : World) : Calls Try.prog 106 #[.int .u32 a0, .string a1] w (More (moreN (a0 % 16777216).toNat a1.data.toList : Nat) w) := by
 have HT := Aside0.mk hT
 clear hT
 have hi : Aside0 ((Try.prog.info? 164).map (·.size) = some T.size) := ⟨by rw [HT.out]; exact (info132).trans (congrArg some (tabC_size 256 (Nat.le_refl _)).symm)⟩
 have hs : Aside0 (Try.zeroCells164.size = T.size) := ⟨by rw [HT.out, tabC_zero, tabC_size _ (by omega), tabC_size _ (by omega)]⟩
 have hc1 : Aside0 (T.all (·.oneCell') = true) := ⟨by rw [HT.out]; exact tabC_one⟩
 go_enter Try.func106, Try.ntmps106
 go_wp2_with (first
  | (go_at_call 115; (with_reducible refine (check_Table.walk T HT.out _).mono ?_); rintro e w1 ⟨rfl, hb⟩; have HB1 := Aside0.mk hb; clear hb)
  | (refine wpList_store_row (o := ⟨none, .store 164 (.tmp 5) (.tmp 7), _, _, _, _⟩) rfl 164 (.tmp 5) (.tmp 7) rfl w1.heap.size T rfl rfl 164 Try.zeroCells164 (heap_alloc_new _ _) hi.out hs.out hc1.out ?_))
 have HM := Aside0.mk (MoreW.new HB1.out Try.zeroCells164 T)
 clear HB1 hi hs hc1
 generalize ((w1.alloc (Obj.cells Try.zeroCells164 164)).setRow w1.heap.size T) = wq at *
 generalize w1.heap.size = g at *
 have hb0 : Go.bits .and .u32 a0 16777215 = (((a0 % 16777216).toNat : Nat) : Int) ∧ (a0 % 16777216).toNat < 16777216 := by
  rw [and_mask a0 h0 h1]
  omega
 obtain ⟨hq, hb0⟩ := hb0
 rw [hq]
 clear hq
 generalize (a0 % 16777216).toNat = s0 at *
 have HS0 := Aside0.mk hb0
 clear hb0
 have HR : Aside0 (moreN s0 (a1.data.toList.drop 0) = moreN s0 a1.data.toList) := ⟨by rw [List.drop_zero]⟩
 generalize moreN s0 a1.data.toList = r at *
 have HN : Aside0 (a1.data.toList.length = a1.size) := ⟨data_length a1⟩
 go_loopg [0, 12] a1.size (fun gg v0 v12 wr => ∃ s i : Nat, v0 = .int .u32 s ∧ v12 = .int .i64 i ∧ Aside0 (s < 16777216) ∧ Aside0 (i ≤ a1.size ∧ a1.size - i ≤ gg) ∧ Aside0 (moreN s (a1.data.toList.drop i) = r) ∧ Aside0 (MoreW w wr T g))
 case atStart => exact ⟨s0, 0, rfl, rfl, HS0, ⟨by omega, by omega⟩, HR, HM⟩
 case round =>
  clear HR HM HS0
  obtain ⟨s, i, rfl, rfl, HS, HI, HR, HM⟩ := hrel
  by_cases c : i < a1.size
  ·have c1 : decide ((i : Int) < (a1.size : Int)) = true := decide_eq_true (by omega)
   have c2 : decide (i < a1.size) = true := decide_eq_true c
   have hs0 : (0 : Int) ≤ (s : Int) := by omega
   have hs1 : (s : Int) < 16777216 := by have := HS.out; omega
   have hlt : a1[i].toNat < 256 := a1[i].toNat_lt
   obtain ⟨k1, k2⟩ := step_lt s a1[i].toNat HS.out hlt
   have K2 := Aside0.mk k2
   have hx : wr.cell? ⟨g, (s / 65536) ^^^ a1[i].toNat, none⟩ = some (.int .u32 ((tabNat ((s / 65536) ^^^ a1[i].toNat) : Nat) : Int)) := (blk_cell HM.out.b0 ((s / 65536) ^^^ a1[i].toNat)).trans (by rw [HT.out]; exact tabC_get _ k1)
   have hq1 : Go.bits .xor .u8 ((s : Int) / 65536) (a1[i].toNat : Int) = (((s / 65536) ^^^ a1[i].toNat : Nat) : Int) := by
    have := xor_u8 (s / 65536) a1[i].toNat (by have := HS.out; omega) hlt
    rw [← this]
    congr 1
   have hq2 : Go.bits .and .u32 ((s : Int) * 256) 16777215 = ((s * 256 % 16777216 : Nat) : Int) := by
    rw [and_mask _ (by omega) (by omega)]
    first | rfl | omega
   have hq3 : Go.bits .xor .u32 ((s * 256 % 16777216 : Nat) : Int) ((tabNat ((s / 65536) ^^^ a1[i].toNat) : Nat) : Int) = (((s * 256 % 16777216) ^^^ tabNat ((s / 65536) ^^^ a1[i].toNat) : Nat) : Int) :=
    xor_u32 _ _ (by omega) (by have := (tabN_nat _ k1).2; omega)
   have HR2 : Aside0 (moreN ((s * 256 % 16777216) ^^^ tabNat ((s / 65536) ^^^ a1[i].toNat)) (a1.data.toList.drop (i + 1)) = r) := ⟨by
    have h2 : i < a1.data.toList.length := by rw [HN.out]; exact c
    have := HR.out
    rw [List.drop_eq_getElem_cons h2, moreN] at this
    exact this⟩
   have HI2 : Aside0 (a1.size - (i + 1) < gk ∧ i + 1 ≤ a1.size) := ⟨by have := HI.out; omega⟩
   have k1' : ((((s / 65536) ^^^ a1[i].toNat : Nat) : Int) < 256) := by omega
   clear HR hlt k2
   generalize hz : (s / 65536) ^^^ a1[i].toNat = z at *
   generalize hy : tabNat z = y at *
   generalize hv : s * 256 % 16777216 = v at *
   have HZ := Aside0.mk hz
   have HY := Aside0.mk hy
   have HV := Aside0.mk hv
   clear hz hy hv
   go_wp2_with fail
   go_roundg (a1.size - (i + 1))
   case measure => exact HI2.out.1
   case rel => exact ⟨v ^^^ y, i + 1, rfl, by first | go_num | (rw [wrap64_in9 i (by omega)]; done), K2, ⟨HI2.out.2, Nat.le_refl _⟩, HR2, HM⟩
  ·have c1 : decide ((i : Int) < (a1.size : Int)) = false := decide_eq_false (by omega)
   have c2 : decide (i < a1.size) = false := decide_eq_false c
   have hr : s = r := by
    have := HR.out
    rw [List.drop_of_length_le (by rw [HN.out]; omega), moreN] at this
    exact this
   subst hr
   clear HR c
   go_wp2_with fail
   go_ret
   exact ⟨rfl, HM.out.hb⟩
def check_More.f (a0 : Int) (a1 : ByteArray) : Option Int := if 0 ≤ a0 ∧ a0 < 4294967296 ∧ a1.size ≤ 9223372036854775806 then some (moreN (a0 % 16777216).toNat a1.data.toList : Nat) else none
theorem check_More.calls (a0 : Int) (a1 : ByteArray) (r : Int) (w : World) (h : check_More.f a0 a1 = some r) :
  Calls Try.prog 106 #[.int .u32 a0, .string a1] w fun e w' => e = .returned (.int .u32 r) ∧ Below w.heap.size w w' := by
 unfold check_More.f at h
 by_cases c : 0 ≤ a0 ∧ a0 < 4294967296 ∧ a1.size ≤ 9223372036854775806
 ·rw [if_pos c] at h
  obtain rfl := Option.some.inj h
  exact check_More.walk _ rfl a0 c.1 c.2.1 a1 c.2.2 w
 ·rw [if_neg c] at h
  exact absurd h (by simp)
def check_Sum.l0 : Nat → Int → List ByteArray → Int → Int → Option (Int)
 | 0, _, _, _, _ => none
 | k + 1, x3, x6, x7, x8 => if x8 < x7 then (if 0 ≤ x8 then (if x8 < (x6.length : Int) then ((check_More.f x3 (rdOf ByteArray.empty x6 x8)).bind fun t134 => (check_Sum.l0 k t134 x6 x7 (wrap64 (x8 + 1)))) else (none)) else (none)) else (some x3)
def check_Sum.f (k : Nat) (l0 : List ByteArray) : Option (Int) := check_Sum.l0 k 11994318 l0 (l0.length : Int) 0
theorem check_Sum.mono_l : ∀ k, (∀ y0 y1 y2 y3, LeO (check_Sum.l0 k y0 y1 y2 y3) (check_Sum.l0 (k + 1) y0 y1 y2 y3))
 | 0 => fun _ _ _ _ r h => by simp [check_Sum.l0] at h
 | k + 1 => by
  have ih0 := check_Sum.mono_l k
  ·intro y0 y1 y2 y3
   unfold check_Sum.l0
   repeat' first
   | (with_reducible exact ih0 _ _ _ _)
   | (with_reducible exact LeO.refl _)
   | (with_reducible exact LeO.none _)
   | (with_reducible refine LeO.ite ?_ ?_)
   | (with_reducible refine LeO.bind ?_ (fun _ => ?_))
   | exact ih0 _ _ _ _
   | exact LeO.none _
   | refine LeO.ite ?_ ?_
   | refine LeO.bind ?_ (fun _ => ?_)
theorem check_Sum.mono : ∀ a0 k, LeO (check_Sum.f k a0) (check_Sum.f (k + 1) a0) := by
 intro a0 k
 have ih0 := check_Sum.mono_l k
 unfold check_Sum.f
 repeat' first
   | (with_reducible exact ih0 _ _ _ _)
   | (with_reducible exact LeO.refl _)
   | (with_reducible exact LeO.none _)
   | (with_reducible refine LeO.ite ?_ ?_)
   | (with_reducible refine LeO.bind ?_ (fun _ => ?_))
   | exact ih0 _ _ _ _
   | exact LeO.none _
   | refine LeO.ite ?_ ?_
   | refine LeO.bind ?_ (fun _ => ?_)
set_option maxHeartbeats 8000000 in
set_option maxRecDepth 100000 in
theorem check_Sum.calls (k : Nat) (A0 : Option Addr) (c0 : Nat) (l0 : List ByteArray) (r : Int) (w : World) (hr0 : Kd.C Kd.string w A0 l0.length l0) (hc0 : l0.length ≤ c0) (h : check_Sum.f k l0 = some r) :
  Calls Try.prog 88 #[.slice A0 l0.length c0] w fun e w' => e = .returned (.int .u32 r) ∧ Below w.heap.size w w' := by
 have HR0 := Aside0.mk hr0
 have HC0 := Aside0.mk hc0
 clear hr0 hc0
 have HB := Aside0.mk (Below.refl w.heap.size w)
 have H : (check_Sum.l0 k 11994318 l0 (l0.length : Int) 0) = some r := h
 clear h
 have H' := Aside0.mk H
 clear H
 go_enter Try.func88, Try.ntmps88
 go_wp2
 go_loopg [3, 8] k (fun kq v3 v8 w' => ∃ (x3_1 : Int) (x8_1 : Int), v3 = .int .u32 x3_1 ∧ v8 = .int .i64 x8_1 ∧ Aside0 (check_Sum.l0 kq x3_1 l0 (l0.length : Int) x8_1 = some r) ∧ Aside0 (kq ≤ k) ∧ Aside0 (Below w.heap.size w w'))
 case atStart => exact ⟨(11994318), (0), (by first | rfl | (simp; done) | (simp [*]; done)), (by first | rfl | (simp; done) | (simp [*]; done)), H', ⟨Nat.le_refl _⟩, ⟨by repeat (first | (with_reducible first | exact HB.out | apply below_alloc | apply pw_below_drewN | apply below_drew1) | exact HB.out)⟩⟩
 case round =>
  clear H'
  obtain ⟨x3_1, x8_1, rfl, rfl, HA, HK1, HB⟩ := hrel
  cases gk with
  | zero => exact absurd HA.out (by simp [check_Sum.l0])
  | succ k1 =>
   have H := HA.out
   clear HA
   simp only [check_Sum.l0] at H
   by_cases c2 : x8_1 < (l0.length : Int)
   ·rw [if_pos c2] at H
    have c2b0 : decide (x8_1 < (l0.length : Int)) = true := decide_eq_true c2
    clear c2
    by_cases c3 : 0 ≤ x8_1
    ·rw [if_pos c3] at H
     have c3b0 : decide (0 ≤ x8_1) = true := decide_eq_true c3
     clear c3
     by_cases c4 : x8_1 < (l0.length : Int)
     ·rw [if_pos c4] at H
      have c4b0 : decide (x8_1 < (l0.length : Int)) = true := decide_eq_true c4
      clear c4
      replace H := Option.bind_eq_some_iff.mp H
      obtain ⟨t134, A50, H⟩ := H
      try dsimp only at H
      have A5 := Aside0.mk A50
      clear A50
      have H' := Aside0.mk H
      clear H
      have p133 : 0 ≤ (x8_1 : Int) := of_decide_eq_true (by first | (with_reducible assumption) | assumption)
      have q133 : x8_1 < (l0.length : Int) := of_decide_eq_true (by first | (with_reducible assumption) | assumption)
      obtain ⟨ad133, e133, hx133_0⟩ := Kd.at_string HR0.out x8_1 p133 q133
      cases e133
      replace hx133_0 := (HB.out.cell (World.block_lt_of_cell? w _ hx133_0)).trans hx133_0
      replace p133 := eq_true p133
      replace q133 := eq_true q133
      go_wp2_with (first | ((with_reducible refine gate_callee (f := 106) rfl ?_); refine goesL_ (some 14) rfl rfl Try.func106 (by kernel_rfl) rfl #[.int .u32 x3_1, .string (rdOf ByteArray.empty l0 x8_1)] rfl (by (try simp only [List.map_toArray, List.map_cons, List.map_nil]); first | done | rfl | (simp only [List.length_drop, List.length_take]; rfl)) ?_; (with_reducible refine (check_More.calls x3_1 (rdOf ByteArray.empty l0 x8_1) t134 _ A5.out).mono ?_); rintro e w6 ⟨rfl, hb⟩; refine ⟨_, rfl, ?_⟩; replace HB := Aside0.mk (below_step (beU HB.out) hb); (try clear hb); (try clear hb2); (try clear hk); (try clear hi)))
      go_roundg k1
      case measure => have := HK1.out; omega
      case rel => exact ⟨(t134), (wrap64 (x8_1 + 1)), (by first | rfl | (simp; done) | (simp [*]; done)), (by first | rfl | (simp; done) | (simp [*]; done)), H', ⟨by have := HK1.out; omega⟩, ⟨by repeat (first | (with_reducible first | exact HB.out | apply below_alloc | apply pw_below_drewN | apply below_drew1) | exact HB.out)⟩⟩
     ·rw [if_neg c4] at H
      exact absurd H (by simp)
    ·rw [if_neg c3] at H
     exact absurd H (by simp)
   ·rw [if_neg c2] at H
    have c2b0 : decide (x8_1 < (l0.length : Int)) = false := decide_eq_false c2
    clear c2
    obtain rfl := Option.some.inj H
    go_wp2
    go_ret
    exact ⟨by first | rfl | (simp [errW_none, errW_some] <;> rfl) | (simp [*, errW_none, errW_some] <;> rfl), by repeat (first | (with_reducible first | exact HB.out | apply below_alloc | apply pw_below_drewN | apply below_drew1) | exact HB.out)⟩
end Go.Proofs.Ythcohkgpbjcliaa.F
