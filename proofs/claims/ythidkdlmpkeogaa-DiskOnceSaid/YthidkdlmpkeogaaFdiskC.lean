/- Contracts of Go functions of the seat Ythidkdlmpkeogaa: what a call comes to; no condition but those that each theorem names. -/
import Derived.Test.YthidkdlmpkeogaaFPre
import Derived.Test.YthidkdlmpkeogaaFLem
import Derived.Deep.LoopGhost
import Derived.Test.YthidkdlmpkeogaaFdiskB
import Derived.Test.YthidkdlmpkeogaaFgClone
namespace Go.Proofs.Ythidkdlmpkeogaa.F
open Go.RowKit Go.Proofs.YthidkdlmpkeogaaW.PrintWords Go.Proofs.YthidkdlmpkeogaaW.PrintLast Go.Proofs.YthidkdlmpkeogaaW.PrintMore
attribute [local go_sem] max2_int min2_int max_two min_two max_three min_three max_four min_four   -- for this text's walks alone
set_option linter.unusedVariables false
set_option linter.unusedSimpArgs false

/-! ### disk_Flush: function 50 -/

def applyW (kept : Nat → Bool) : Nat → List S104 → List ByteArray → List ByteArray
  | _, [], S => S
  | i, x :: l, S => applyW kept (i + 1) l (if kept i = true then S.set x.f0.toNat x.f1 else S)
def disk_fit (l0 : List ByteArray) (l1 : List S104) : Bool := decide (l0.length < 8796093022208) && decide (l1.length < 5864062000000)
def disk_right (l0 : List ByteArray) (l1 : List S104) : Bool := decide (1 ≤ l0.length) && decide (l0.length ≤ 512) && !(l0.any fun s => s.size != 32) && !(l1.any (wBad l0.length))
def lastingW (kept : Nat → Bool) (l0 : List ByteArray) (l1 : List S104) : List ByteArray × List S104 := if disk_right l0 l1 = true then (applyW kept 0 l1 l0, []) else (l0, l1)
/-- What the walk of disk.lasting holds: the argument's block, the result's, the variable's, and the two rows. -/
structure LastW (w wr : World) (B2 : Nat) (d0 d1 v0 v1 : Value) (S : List ByteArray) (W : List S104) : Prop where
  gt : w.heap.size + 1 < B2
  bd : wr.heap[w.heap.size]? = some (.cells #[d0, d1] 86 (0, 0))
  br : wr.heap[w.heap.size + 1]? = some (.cells #[.slice none 0 0, .slice none 0 0] 86 (0, 0))
  bo : wr.heap[B2]? = some (.cells #[v0, v1] 86 (0, 0))
  r0 : Kd.R Kd.string 9 wr w.heap.size (fun _ => True) v0 S
  r1 : Kd.R k104 104 wr w.heap.size (fun _ => True) v1 W
  hb : Below w.heap.size w wr
theorem LastW.below {w wr w' : World} {B2 : Nat} {d0 d1 v0 v1 : Value} {S : List ByteArray} {W : List S104} (h : LastW w wr B2 d0 d1 v0 v1 S W) (k : Below wr.heap.size wr w') : LastW w w' B2 d0 d1 v0 v1 S W :=
  ⟨h.gt, blk_below h.bd k, blk_below h.br k, blk_below h.bo k, Kd.R_below h.r0 k, Kd.R_below h.r1 k, below_step h.hb k⟩
theorem LastW.start {w w5 : World} {d0 d1 v0 v1 : Value} {S : List ByteArray} {W : List S104} (hb : Below ((w.alloc (.cells #[d0, d1] 86)).alloc (.cells #[.slice none 0 0, .slice none 0 0] 86)).heap.size ((w.alloc (.cells #[d0, d1] 86)).alloc (.cells #[.slice none 0 0, .slice none 0 0] 86)) w5)
    (h0 : Kd.R Kd.string 9 w5 ((w.alloc (.cells #[d0, d1] 86)).alloc (.cells #[.slice none 0 0, .slice none 0 0] 86)).heap.size (fun _ => True) v0 S) (h1 : Kd.R k104 104 w5 ((w.alloc (.cells #[d0, d1] 86)).alloc (.cells #[.slice none 0 0, .slice none 0 0] 86)).heap.size (fun _ => True) v1 W) :
    LastW w (w5.alloc (.cells #[v0, v1] 86)) w5.heap.size d0 d1 v0 v1 S W := by
  have hs := hb.size
  simp at hs
  refine ⟨by omega, blk_alloc (blk_below (blk_alloc (heap_alloc_new _ _) _) hb) _, blk_alloc (blk_below (by simpa using heap_alloc_new (w.alloc (.cells #[d0, d1] 86)) _) hb) _, heap_alloc_new _ _, Kd.R_alloc (Kd.R_lower h0 (by simp; omega)) _, Kd.R_alloc (Kd.R_lower h1 (by simp; omega)) _, below_alloc (below_step (below_alloc (below_alloc (Below.refl _ _) _) _) hb) _⟩
theorem LastW.put {w wr : World} {B2 g n q : Nat} {d0 d1 v1 : Value} {S : List ByteArray} {W : List S104} (h : LastW w wr B2 d0 d1 (.slice (some ⟨g, 0, none⟩) n q) v1 S W) (i : Int) (x : ByteArray) :
    LastW w (wr.setCell ⟨g, i.toNat, none⟩ (.string x)) B2 d0 d1 (.slice (some ⟨g, 0, none⟩) n q) v1 (S.set i.toNat x) W := by
  obtain ⟨cells, hc⟩ := Kd.R_typed h.r0 g rfl
  obtain rfl : n = S.length := (Kd.R_reads' h.r0).1
  have hg : w.heap.size ≤ g := Kd.R_base h.r0 g rfl
  exact ⟨h.gt, blk_far h.bd (blk_ne h.bd hc (by decide)) _, blk_far h.br (blk_ne h.br hc (by decide)) _, blk_far h.bo (blk_ne h.bo hc (by decide)) _, Kd.R_putn h.r0 i x, Kd.R_set h.r1 hc (by decide) _ _, Below.setCell h.hb hg _⟩
theorem LastW.alloc {w wr : World} {B2 : Nat} {d0 d1 v0 v1 : Value} {S : List ByteArray} {W : List S104} (h : LastW w wr B2 d0 d1 v0 v1 S W) (o : Obj) : LastW w (wr.alloc o) B2 d0 d1 v0 v1 S W := h.below (below_alloc (Below.refl _ _) o)
theorem applyW_length (kept : Nat → Bool) : ∀ (l : List S104) (i : Nat) (S : List ByteArray), (applyW kept i l S).length = S.length
  | [], _, _ => rfl
  | x :: l, i, S => by
    rw [applyW, applyW_length kept l]
    split
    · exact List.length_set ..
    · rfl
theorem applyW_step (kept : Nat → Bool) (l : List S104) (S : List ByteArray) (i : Int) (h0 : 0 ≤ i) (h1 : i < l.length) : applyW kept i.toNat (l.drop i.toNat) S = applyW kept (i.toNat + 1) (l.drop (i.toNat + 1)) (if kept i.toNat = true then S.set (rd_T104 l i).f0.toNat (rd_T104 l i).f1 else S) := by
  have hl : i.toNat < l.length := by omega
  rw [List.drop_eq_getElem_cons hl, applyW]
  have : rd_T104 l i = l[i.toNat] := by rw [rd_T104, List.getD_eq_getElem?_getD, List.getElem?_eq_getElem hl]; rfl
  rw [this]
theorem right_at {l0 : List ByteArray} {l1 : List S104} (h : disk_right l0 l1 = true) : 1 ≤ l0.length ∧ ∀ i : Int, 0 ≤ i → i < l1.length → 0 ≤ (rd_T104 l1 i).f0 ∧ (rd_T104 l1 i).f0 < (l0.length : Int) := by
  simp only [disk_right, Bool.and_eq_true, decide_eq_true_eq, Bool.not_eq_true', List.any_eq_false] at h
  refine ⟨h.1.1.1, fun i h0 h1 => ?_⟩
  have hl : i.toNat < l1.length := by omega
  have e : rd_T104 l1 i = l1[i.toNat] := by rw [rd_T104, List.getD_eq_getElem?_getD, List.getElem?_eq_getElem hl]; rfl
  have := h.2 l1[i.toNat] (List.getElem_mem hl)
  rw [e]
  simp only [wBad, Bool.or_eq_true, not_or, Bool.not_eq_true', Bool.not_eq_false, Bool.and_eq_true, decide_eq_true_eq] at this
  exact this.2
theorem own_is (l0 : List ByteArray) (l1 : List S104) (h : disk_fit l0 l1 = true) : disk_own.f l0 l1 = some (l0, l1) := by
  simp only [disk_fit, Bool.and_eq_true, decide_eq_true_eq] at h
  simp only [disk_own.f, slices_Clone_string_string.f, slices_Clone_disk_Write_disk_Write.f, if_pos h.1, if_pos (show l1.length < 5864062014805 by omega), Option.bind_some]
set_option maxHeartbeats 4000000 in
theorem disk_lasting.calls (kept : Nat → Bool) (g : Nat) (lb : Array Value) (eg : ∀ args w, (callFunc g args).run Try.prog w = .ok (.enter g args) w) (A0 : Option Addr) (c0 : Nat) (l0 : List ByteArray) (A1 : Option Addr) (c1 : Nat) (l1 : List S104) (w : World)
    (hr0 : Kd.C Kd.string w A0 l0.length l0) (hc0 : l0.length ≤ c0) (hr1 : Kd.C k104 w A1 l1.length l1) (hc1 : l1.length ≤ c1) (hf : disk_fit l0 l1 = true)
    (hk : ∀ (W : World) (i : Int), Below w.heap.size w W → 0 ≤ i → i < l1.length → Calls Try.prog g (#[.int .i64 i] ++ lb) W fun e w' => e = .returned (.bool (kept i.toNat)) ∧ Below W.heap.size W w') :
    Calls Try.prog 93 #[.agg #[.slice A0 l0.length c0, .slice A1 l1.length c1], .func (.func g) #[] lb] w fun e w' => ∃ v0 v1 : Value, e = .returned (.agg #[v0, v1]) ∧ Kd.R Kd.string 9 w' w.heap.size (fun _ => True) v0 (lastingW kept l0 l1).1 ∧ Kd.R k104 104 w' w.heap.size (fun _ => True) v1 (lastingW kept l0 l1).2 ∧ Below w.heap.size w w' := by
  have HR0 := Aside0.mk hr0
  have HC0 := Aside0.mk hc0
  have HR1 := Aside0.mk hr1
  have HC1 := Aside0.mk hc1
  have HK := Aside0.mk hk
  have HOWN := Aside0.mk (own_is l0 l1 hf)
  clear hr0 hc0 hr1 hc1 hf hk
  cases hb : disk_right l0 l1 with
  | false =>
    have HRT : Aside0 (disk_Right.f l0 l1 = some false) := ⟨congrArg some hb⟩
    have HL : lastingW kept l0 l1 = (l0, l1) := by simp [lastingW, hb]
    rw [HL]
    clear hb HL
    go_enter Try.func93, Try.ntmps93
    go_wp2_with (first
      | (go_at_call 91; (with_reducible refine (disk_own.calls _ c0 l0 _ c1 l1 l0 l1 _ ?s1 HC0.out ?s2 HC1.out HOWN.out).mono ?_); (case s1 => exact Kd.C_alloc (Kd.C_alloc HR0.out _) _); (case s2 => exact Kd.C_alloc (Kd.C_alloc HR1.out _) _); rintro e w5 ⟨v0, v1, rfl, hv0, hv1, hb⟩; obtain ⟨p0, q0, rfl⟩ := Kd.R_slice hv0; obtain ⟨p1, q1, rfl⟩ := Kd.R_slice hv1; have HL := Aside0.mk (LastW.start hb hv0 hv1); (have f0 : (w5.alloc (.cells #[.slice p0 l0.length q0, .slice p1 l1.length q1] 86)).cell? ⟨w.heap.size, 0, none⟩ = some (.slice A0 l0.length c0) := (blk_cell HL.out.bd 0).trans rfl); (have f1 : (w5.alloc (.cells #[.slice p0 l0.length q0, .slice p1 l1.length q1] 86)).cell? ⟨w.heap.size, 1, none⟩ = some (.slice A1 l1.length c1) := (blk_cell HL.out.bd 1).trans rfl); clear hv0 hv1 hb)
      | (go_at_call 45; (with_reducible refine (disk_Right.calls _ c0 l0 _ c1 l1 false _ ?s1 HC0.out ?s2 HC1.out HRT.out).mono ?_); (case s1 => exact Kd.C_below HR0.out HL.out.hb); (case s2 => exact Kd.C_below HR1.out HL.out.hb); rintro e w6 ⟨rfl, hb⟩; have HM := Aside0.mk (HL.out.below hb); (have x0 : w6.cell? ⟨w5.heap.size, 0, none⟩ = some (.slice p0 l0.length q0) := (blk_cell HM.out.bo 0).trans rfl); (have x1 : w6.cell? ⟨w5.heap.size, 1, none⟩ = some (.slice p1 l1.length q1) := (blk_cell HM.out.bo 1).trans rfl); (have y0 : w6.cell? ⟨w.heap.size + 1, 0, none⟩ = some (.slice none 0 0) := (blk_cell HM.out.br 0).trans rfl); (have y1 : w6.cell? ⟨w.heap.size + 1, 1, none⟩ = some (.slice none 0 0) := (blk_cell HM.out.br 1).trans rfl); have z0 := blk_frozen HM.out.br 0; have z1 := blk_frozen HM.out.br 1; clear hb HL))
    have M := HM.out
    refine bodyPost_ret (results_cell_row rfl _ _ (w.heap.size + 1) 86 #[.slice p0 l0.length q0, .slice p1 l1.length q1] (0, 0) _ rfl (blk_put (blk_put M.br 0 _ rfl) 1 _ rfl) Try.underlying86 rfl (by kernel_rfl)) rfl ⟨_, _, rfl, ?_, ?_, ?_⟩
    · exact Kd.R_set (Kd.R_set M.r0 M.br (by decide) 0 _) (blk_put M.br 0 _ rfl) (by decide) 1 _
    · exact Kd.R_set (Kd.R_set M.r1 M.br (by decide) 0 _) (blk_put M.br 0 _ rfl) (by decide) 1 _
    · exact Below.setCell (Below.setCell M.hb (by simp) _) (by simp) _
  | true =>
    have HRT : Aside0 (disk_Right.f l0 l1 = some true) := ⟨congrArg some hb⟩
    have HL' : lastingW kept l0 l1 = (applyW kept 0 l1 l0, []) := by simp [lastingW, hb]
    rw [HL']
    have HRA := Aside0.mk (right_at hb)
    have HPOS : Aside0 (0 < l0.length) := ⟨HRA.out.1⟩
    have hn1 : l1.length ≤ 9223372036854775807 := Kd.C_max HR1.out
    clear hb HL'
    go_enter Try.func93, Try.ntmps93
    go_wp2_with (first
      | (go_at_call 91; (with_reducible refine (disk_own.calls _ c0 l0 _ c1 l1 l0 l1 _ ?s1 HC0.out ?s2 HC1.out HOWN.out).mono ?_); (case s1 => exact Kd.C_alloc (Kd.C_alloc HR0.out _) _); (case s2 => exact Kd.C_alloc (Kd.C_alloc HR1.out _) _); rintro e w5 ⟨v0, v1, rfl, hv0, hv1, hb⟩; obtain ⟨g0, q0, rfl, -⟩ := Kd.R_form hv0 HPOS.out; obtain ⟨p1, q1, rfl⟩ := Kd.R_slice hv1; have HL := Aside0.mk (LastW.start hb hv0 hv1); (have f0 : (w5.alloc (.cells #[.slice (some ⟨g0, 0, none⟩) l0.length q0, .slice p1 l1.length q1] 86)).cell? ⟨w.heap.size, 0, none⟩ = some (.slice A0 l0.length c0) := (blk_cell HL.out.bd 0).trans rfl); (have f1 : (w5.alloc (.cells #[.slice (some ⟨g0, 0, none⟩) l0.length q0, .slice p1 l1.length q1] 86)).cell? ⟨w.heap.size, 1, none⟩ = some (.slice A1 l1.length c1) := (blk_cell HL.out.bd 1).trans rfl); clear hv0 hv1 hb)
      | (go_at_call 45; (with_reducible refine (disk_Right.calls _ c0 l0 _ c1 l1 true _ ?s1 HC0.out ?s2 HC1.out HRT.out).mono ?_); (case s1 => exact Kd.C_below HR0.out HL.out.hb); (case s2 => exact Kd.C_below HR1.out HL.out.hb); rintro e w6 ⟨rfl, hb⟩; have HM := Aside0.mk (HL.out.below hb); (have x1 : w6.cell? ⟨w.heap.size, 1, none⟩ = some (.slice A1 l1.length c1) := (blk_cell HM.out.bd 1).trans rfl); clear hb HL f0 f1))
    clear x1
    generalize w5.heap.size = B2 at HM ⊢
    go_loopg [17] l1.length (fun gg v17 wr => ∃ (i : Int) (S : List ByteArray), v17 = .int .i64 i ∧ Aside0 (0 ≤ i ∧ i ≤ l1.length ∧ l1.length - i.toNat ≤ gg) ∧ Aside0 (applyW kept i.toNat (l1.drop i.toNat) S = applyW kept 0 l1 l0) ∧ Aside0 (LastW w wr B2 (.slice A0 l0.length c0) (.slice A1 l1.length c1) (.slice (some ⟨g0, 0, none⟩) l0.length q0) (.slice p1 l1.length q1) S l1))
    case atStart => exact ⟨0, l0, rfl, ⟨by omega, by omega, by simp⟩, ⟨rfl⟩, HM⟩
    case round =>
      clear HM
      obtain ⟨i, S, rfl, HI, HA, HM⟩ := hrel
      by_cases c2 : i < (l1.length : Int)
      · have c2b0 : decide (i < (l1.length : Int)) = true := decide_eq_true c2
        have hi0 : 0 ≤ i := HI.out.1
        obtain ⟨ad, ead, hx0, hx1⟩ := at_T104 HR1.out i hi0 c2
        cases ead
        replace hx0 := (HM.out.hb.cell (World.block_lt_of_cell? w _ hx0)).trans hx0
        replace hx1 := (HM.out.hb.cell (World.block_lt_of_cell? w _ hx1)).trans hx1
        have HX := Aside0.mk (HRA.out.2 i hi0 c2)
        have HST := Aside0.mk ((applyW_step kept l1 S i hi0 c2).symm.trans HA.out)
        have hcall := HK.out (wr.alloc (.cells #[.int .i64 (rd_T104 l1 i).f0, .string (rd_T104 l1 i).f1] 104)) i (below_alloc HM.out.hb _) hi0 c2
        clear HA
        generalize rd_T104 l1 i = x at *
        have HW : Aside0 (wrap64 (i + 1) = i + 1) := ⟨by unfold wrap64; omega⟩
        have HI2 : Aside0 (l1.length - (i.toNat + 1) < gk ∧ 0 ≤ i + 1 ∧ i + 1 ≤ l1.length ∧ (i + 1).toNat = i.toNat + 1) := ⟨by have := HI.out; omega⟩
        have hi0' := eq_true hi0
        replace c2 := eq_true c2
        cases hkt : kept i.toNat with
        | false =>
          rw [hkt] at hcall
          have HS2 : Aside0 (applyW kept (i.toNat + 1) (l1.drop (i.toNat + 1)) S = applyW kept 0 l1 l0) := ⟨by have := HST.out; rw [hkt] at this; simpa using this⟩
          clear HST hkt
          go_wp2_with (go_at_fn g; refine hcall.mono ?_; rintro e w7 ⟨rfl, hb⟩; have HM7 := Aside0.mk ((HM.out.alloc _).below hb); clear hb HM)
          go_roundg (l1.length - (i.toNat + 1))
          case measure => exact HI2.out.1
          case rel => exact ⟨i + 1, S, by rw [HW.out], ⟨HI2.out.2.1, HI2.out.2.2.1, by rw [HI2.out.2.2.2]; exact Nat.le_refl _⟩, ⟨by rw [HI2.out.2.2.2]; exact HS2.out⟩, HM7⟩
        | true =>
          rw [hkt] at hcall
          have HS2 : Aside0 (applyW kept (i.toNat + 1) (l1.drop (i.toNat + 1)) (S.set x.f0.toNat x.f1) = applyW kept 0 l1 l0) := ⟨by have := HST.out; rw [hkt] at this; simpa using this⟩
          clear HST hkt
          go_wp2_with (go_at_fn g; refine hcall.mono ?_; rintro e w7 ⟨rfl, hb⟩; have HM7 := Aside0.mk ((HM.out.alloc _).below hb); (have n0 : w7.cell? ⟨wr.heap.size, 0, none⟩ = some (.int .i64 x.f0) := (blk_cell (blk_below (heap_alloc_new _ _) hb) 0).trans rfl); (have n1 : w7.cell? ⟨wr.heap.size, 1, none⟩ = some (.string x.f1) := (blk_cell (blk_below (heap_alloc_new _ _) hb) 1).trans rfl); (have o0 : w7.cell? ⟨B2, 0, none⟩ = some (.slice (some ⟨g0, 0, none⟩) l0.length q0) := (blk_cell HM7.out.bo 0).trans rfl); (have hs := (Kd.R_celln ByteArray.empty HM7.out.r0 x.f0 HX.out.1 HX.out.2).1); (have hz := (Kd.R_celln ByteArray.empty HM7.out.r0 x.f0 HX.out.1 HX.out.2).2); have hX1 := eq_true HX.out.1; have hX2 := eq_true HX.out.2; clear hb HM)
          go_roundg (l1.length - (i.toNat + 1))
          case measure => exact HI2.out.1
          case rel => exact ⟨i + 1, S.set x.f0.toNat x.f1, by rw [HW.out], ⟨HI2.out.2.1, HI2.out.2.2.1, by rw [HI2.out.2.2.2]; exact Nat.le_refl _⟩, ⟨by rw [HI2.out.2.2.2]; exact HS2.out⟩, ⟨HM7.out.put x.f0 x.f1⟩⟩
      · have c2b0 : decide (i < (l1.length : Int)) = false := decide_eq_false c2
        have o0 : wr.cell? ⟨B2, 0, none⟩ = some (.slice (some ⟨g0, 0, none⟩) l0.length q0) := (blk_cell HM.out.bo 0).trans rfl
        have o1 : wr.cell? ⟨B2, 1, none⟩ = some (.slice p1 l1.length q1) := (blk_cell HM.out.bo 1).trans rfl
        have oz := blk_frozen HM.out.bo 1
        have y0 : wr.cell? ⟨w.heap.size + 1, 0, none⟩ = some (.slice none 0 0) := (blk_cell HM.out.br 0).trans rfl
        have y1 : wr.cell? ⟨w.heap.size + 1, 1, none⟩ = some (.slice none 0 0) := (blk_cell HM.out.br 1).trans rfl
        have z0 := blk_frozen HM.out.br 0
        have z1 := blk_frozen HM.out.br 1
        have hne : (B2 = w.heap.size + 1) = False := eq_false (by have := HM.out.gt; omega)
        have hne' : (w.heap.size + 1 = B2) = False := eq_false (by have := HM.out.gt; omega)
        have HD : Aside0 (S = applyW kept 0 l1 l0) := ⟨by
          have := HA.out
          have hi := HI.out
          rw [List.drop_of_length_le (by omega)] at this
          exact this⟩
        clear HA
        go_wp2_with fail
        have M := HM.out
        have br2 := blk_far M.br (p := ⟨B2, 1, none⟩) (by have := M.gt; simp only; omega) (.slice none 0 0)
        have b1 := blk_put br2 0 (.slice (some ⟨g0, 0, none⟩) l0.length q0) rfl
        refine bodyPost_ret (results_cell_row rfl _ _ (w.heap.size + 1) 86 #[.slice (some ⟨g0, 0, none⟩) l0.length q0, .slice none 0 0] (0, 0) _ rfl (blk_put b1 1 _ rfl) Try.underlying86 rfl (by kernel_rfl)) rfl ⟨_, _, rfl, ?_, ?_, ?_⟩
        · rw [← HD.out]
          exact Kd.R_set (Kd.R_set (Kd.R_set M.r0 M.bo (by decide) 1 _) br2 (by decide) 0 _) b1 (by decide) 1 _
        · exact Kd.R_nil _ _ _ _ _
        · exact Below.setCell (Below.setCell (Below.setCell M.hb (by have := M.gt; simp only; omega) _) (by simp) _) (by simp) _
theorem flush_1 (i : Int) (w : World) : Calls Try.prog 94 (#[.int .i64 i] ++ #[]) w fun e w' => e = .returned (.bool true) ∧ Below w.heap.size w w' := by
  show Calls Try.prog 94 #[.int .i64 i] w _
  go_enter Try.func94, Try.ntmps94
  go_wp2
  go_ret
  exact ⟨rfl, Below.refl _ _⟩
def disk_Flush.f (l0 : List ByteArray) (l1 : List S104) : Option (List ByteArray × List S104) := if disk_fit l0 l1 = true then some (lastingW (fun _ => true) l0 l1) else none
set_option maxHeartbeats 2000000 in
theorem disk_Flush.calls (A0 : Option Addr) (c0 : Nat) (l0 : List ByteArray) (A1 : Option Addr) (c1 : Nat) (l1 : List S104) (r1 : List ByteArray) (r2 : List S104) (w : World)
    (hr0 : Kd.C Kd.string w A0 l0.length l0) (hc0 : l0.length ≤ c0) (hr1 : Kd.C k104 w A1 l1.length l1) (hc1 : l1.length ≤ c1) (h : disk_Flush.f l0 l1 = some (r1, r2)) :
    Calls Try.prog 50 #[.agg #[.slice A0 l0.length c0, .slice A1 l1.length c1]] w fun e w' => ∃ v0 v1 : Value, e = .returned (.agg #[v0, v1]) ∧ Kd.R Kd.string 9 w' w.heap.size (fun _ => True) v0 r1 ∧ Kd.R k104 104 w' w.heap.size (fun _ => True) v1 r2 ∧ Below w.heap.size w w' := by
  unfold disk_Flush.f at h
  by_cases c : disk_fit l0 l1 = true
  · rw [if_pos c] at h
    have h' := Option.some.inj h
    obtain ⟨e1, e2⟩ := Prod.mk.inj h'
    clear h h'
    subst e1 e2
    have HR0 := Aside0.mk hr0
    have HR1 := Aside0.mk hr1
    have HC := Aside0.mk c
    have HC0 := Aside0.mk hc0
    have HC1 := Aside0.mk hc1
    clear hr0 hr1 c hc0 hc1
    go_enter Try.func50, Try.ntmps50
    go_wp2_with (go_at_call 93; (with_reducible refine (disk_lasting.calls (fun _ => true) 94 #[] (fun args w => by kernel_rfl) _ c0 l0 _ c1 l1 _ ?s1 HC0.out ?s2 HC1.out HC.out (fun W i _ _ _ => flush_1 i W)).mono ?_); (case s1 => exact Kd.C_alloc (Kd.C_alloc HR0.out _) _); (case s2 => exact Kd.C_alloc (Kd.C_alloc HR1.out _) _); rintro e w5 ⟨v0, v1, rfl, hv0, hv1, hb⟩; obtain ⟨p0, q0, rfl⟩ := Kd.R_slice hv0; obtain ⟨p1, q1, rfl⟩ := Kd.R_slice hv1; have HV0 := Aside0.mk (Kd.R_lower (base' := w.heap.size) hv0 (by simp; omega)); have HV1 := Aside0.mk (Kd.R_lower (base' := w.heap.size) hv1 (by simp; omega)); have HB5 := Aside0.mk (below_step (below_alloc (below_alloc (Below.refl w.heap.size w) _) _) hb); (have HBR : Aside0 (w5.heap[w.heap.size + 1]? = some (.cells #[.slice none 0 0, .slice none 0 0] 86 (0, 0))) := ⟨blk_below (by simpa using heap_alloc_new (w.alloc (.cells #[.slice A0 l0.length c0, .slice A1 l1.length c1] 86)) _) hb⟩); (have y0 : w5.cell? ⟨w.heap.size + 1, 0, none⟩ = some (.slice none 0 0) := (blk_cell HBR.out 0).trans rfl); (have y1 : w5.cell? ⟨w.heap.size + 1, 1, none⟩ = some (.slice none 0 0) := (blk_cell HBR.out 1).trans rfl); have z0 := blk_frozen HBR.out 0; have z1 := blk_frozen HBR.out 1; clear hv0 hv1 hb)
    have b1 := blk_put HBR.out 0 (.slice p0 (lastingW (fun _ => true) l0 l1).1.length q0) rfl
    refine bodyPost_ret (results_cell_row rfl _ _ (w.heap.size + 1) 86 #[.slice p0 (lastingW (fun _ => true) l0 l1).1.length q0, .slice p1 (lastingW (fun _ => true) l0 l1).2.length q1] (0, 0) _ rfl (blk_put b1 1 _ rfl) Try.underlying86 rfl (by kernel_rfl)) rfl ⟨_, _, rfl, ?_, ?_, ?_⟩
    · exact Kd.R_set (Kd.R_set HV0.out HBR.out (by decide) 0 _) b1 (by decide) 1 _
    · exact Kd.R_set (Kd.R_set HV1.out HBR.out (by decide) 0 _) b1 (by decide) 1 _
    · exact Below.setCell (Below.setCell HB5.out (by simp) _) (by simp) _
  · rw [if_neg c] at h
    exact absurd h (by simp)


/-! ### disk_Crash: function 51 -/

theorem crash_1 (i : Int) (h0 : 0 ≤ i) (gb : Nat) (A2 : Option Addr) (c2 : Nat) (l2 : List Bool) (w : World) (hr : Kd.C Kd.bool w A2 l2.length l2) (hg : w.cell? ⟨gb, 0, none⟩ = some (.slice A2 l2.length c2)) :
    Calls Try.prog 95 (#[.int .i64 i] ++ #[.pointer (some ⟨gb, 0, none⟩)]) w fun e w' => e = .returned (.bool (l2.getD i.toNat false)) ∧ Below w.heap.size w w' := by
  show Calls Try.prog 95 #[.int .i64 i, .pointer (some ⟨gb, 0, none⟩)] w _
  by_cases c : i < (l2.length : Int)
  · obtain ⟨ad, rfl, hx⟩ := Kd.at_bool hr i h0 c
    have e : rdOf false l2 i = l2.getD i.toNat false := rfl
    rw [e] at hx
    generalize l2.getD i.toNat false = b at hx ⊢
    clear hr e
    have c1 : decide (i < (l2.length : Int)) = true := decide_eq_true c
    replace c := eq_true c
    replace h0 := eq_true h0
    go_enter Try.func95, Try.ntmps95
    go_wp2
    go_ret
    exact ⟨rfl, Below.refl _ _⟩
  · have e : l2.getD i.toNat false = false := by rw [List.getD_eq_getElem?_getD, List.getElem?_eq_none (by omega)]; rfl
    rw [e]
    have c1 : decide (i < (l2.length : Int)) = false := decide_eq_false c
    clear hr e c
    go_enter Try.func95, Try.ntmps95
    go_wp2
    go_ret
    exact ⟨rfl, Below.refl _ _⟩
def disk_Crash.f (l0 : List ByteArray) (l1 : List S104) (l2 : List Bool) : Option (List ByteArray × List S104) := if disk_fit l0 l1 = true then some (lastingW (fun i => l2.getD i false) l0 l1) else none
set_option maxHeartbeats 2000000 in
theorem disk_Crash.calls (A0 : Option Addr) (c0 : Nat) (l0 : List ByteArray) (A1 : Option Addr) (c1 : Nat) (l1 : List S104) (A2 : Option Addr) (c2 : Nat) (l2 : List Bool) (r1 : List ByteArray) (r2 : List S104) (w : World)
    (hr0 : Kd.C Kd.string w A0 l0.length l0) (hc0 : l0.length ≤ c0) (hr1 : Kd.C k104 w A1 l1.length l1) (hc1 : l1.length ≤ c1) (hr2 : Kd.C Kd.bool w A2 l2.length l2) (hc2 : l2.length ≤ c2) (h : disk_Crash.f l0 l1 l2 = some (r1, r2)) :
    Calls Try.prog 51 #[.agg #[.slice A0 l0.length c0, .slice A1 l1.length c1], .slice A2 l2.length c2] w fun e w' => ∃ v0 v1 : Value, e = .returned (.agg #[v0, v1]) ∧ Kd.R Kd.string 9 w' w.heap.size (fun _ => True) v0 r1 ∧ Kd.R k104 104 w' w.heap.size (fun _ => True) v1 r2 ∧ Below w.heap.size w w' := by
  unfold disk_Crash.f at h
  by_cases c : disk_fit l0 l1 = true
  · rw [if_pos c] at h
    have h' := Option.some.inj h
    obtain ⟨e1, e2⟩ := Prod.mk.inj h'
    clear h h'
    subst e1 e2
    have HR0 := Aside0.mk hr0
    have HR1 := Aside0.mk hr1
    have HC := Aside0.mk c
    have HC0 := Aside0.mk hc0
    have HC1 := Aside0.mk hc1
    have HR2 := Aside0.mk hr2
    clear hr0 hr1 hr2 c hc0 hc1
    have HX : Aside0 ((((w.alloc (.cells #[.slice A0 l0.length c0, .slice A1 l1.length c1] 86)).alloc (.cells #[.slice A2 l2.length c2] 101)).alloc (.cells #[.slice none 0 0, .slice none 0 0] 86)).cell? ⟨w.heap.size + 1, 0, none⟩ = some (.slice A2 l2.length c2)) := ⟨(blk_cell (blk_alloc (by simpa using heap_alloc_new (w.alloc (.cells #[.slice A0 l0.length c0, .slice A1 l1.length c1] 86)) (.cells #[.slice A2 l2.length c2] 101)) _) 0).trans rfl⟩
    go_enter Try.func51, Try.ntmps51
    go_wp2_with (go_at_call 93; (with_reducible refine (disk_lasting.calls (fun i => l2.getD i false) 95 #[.pointer (some ⟨w.heap.size + 1, 0, none⟩)] (fun args w => by kernel_rfl) _ c0 l0 _ c1 l1 (((w.alloc (.cells #[.slice A0 l0.length c0, .slice A1 l1.length c1] 86)).alloc (.cells #[.slice A2 l2.length c2] 101)).alloc (.cells #[.slice none 0 0, .slice none 0 0] 86)) ?s1 HC0.out ?s2 HC1.out HC.out (fun W i hW h0 h1 => crash_1 i h0 (w.heap.size + 1) A2 c2 l2 W (Kd.C_below HR2.out (below_step (below_alloc (below_alloc (below_alloc (Below.refl w.heap.size w) _) _) _) hW)) (pw_cell_below hW HX.out))).mono ?_); (case s1 => exact Kd.C_alloc (Kd.C_alloc (Kd.C_alloc HR0.out _) _) _); (case s2 => exact Kd.C_alloc (Kd.C_alloc (Kd.C_alloc HR1.out _) _) _); rintro e w5 ⟨v0, v1, rfl, hv0, hv1, hb⟩; obtain ⟨p0, q0, rfl⟩ := Kd.R_slice hv0; obtain ⟨p1, q1, rfl⟩ := Kd.R_slice hv1; have HV0 := Aside0.mk (Kd.R_lower (base' := w.heap.size) hv0 (below_alloc (below_alloc (below_alloc (Below.refl w.heap.size w) _) _) _).size); have HV1 := Aside0.mk (Kd.R_lower (base' := w.heap.size) hv1 (below_alloc (below_alloc (below_alloc (Below.refl w.heap.size w) _) _) _).size); have HB5 := Aside0.mk (below_step (below_alloc (below_alloc (below_alloc (Below.refl w.heap.size w) _) _) _) hb); (have HBR : Aside0 (w5.heap[w.heap.size + 2]? = some (.cells #[.slice none 0 0, .slice none 0 0] 86 (0, 0))) := ⟨blk_below (by simpa using heap_alloc_new ((w.alloc (.cells #[.slice A0 l0.length c0, .slice A1 l1.length c1] 86)).alloc (.cells #[.slice A2 l2.length c2] 101)) _) hb⟩); (have y0 : w5.cell? ⟨w.heap.size + 2, 0, none⟩ = some (.slice none 0 0) := (blk_cell HBR.out 0).trans rfl); (have y1 : w5.cell? ⟨w.heap.size + 2, 1, none⟩ = some (.slice none 0 0) := (blk_cell HBR.out 1).trans rfl); have z0 := blk_frozen HBR.out 0; have z1 := blk_frozen HBR.out 1; clear hv0 hv1 hb)
    have b1 := blk_put HBR.out 0 (.slice p0 (lastingW (fun i => l2.getD i false) l0 l1).1.length q0) rfl
    refine bodyPost_ret (results_cell_row rfl _ _ (w.heap.size + 2) 86 #[.slice p0 (lastingW (fun i => l2.getD i false) l0 l1).1.length q0, .slice p1 (lastingW (fun i => l2.getD i false) l0 l1).2.length q1] (0, 0) _ rfl (blk_put b1 1 _ rfl) Try.underlying86 rfl (by kernel_rfl)) rfl ⟨_, _, rfl, ?_, ?_, ?_⟩
    · exact Kd.R_set (Kd.R_set HV0.out HBR.out (by decide) 0 _) b1 (by decide) 1 _
    · exact Kd.R_set (Kd.R_set HV1.out HBR.out (by decide) 0 _) b1 (by decide) 1 _
    · exact Below.setCell (Below.setCell HB5.out (show w.heap.size ≤ w.heap.size + 2 by omega) _) (show w.heap.size ≤ w.heap.size + 2 by omega) _
  · rw [if_neg c] at h
    exact absurd h (by simp)


end Go.Proofs.Ythidkdlmpkeogaa.F
