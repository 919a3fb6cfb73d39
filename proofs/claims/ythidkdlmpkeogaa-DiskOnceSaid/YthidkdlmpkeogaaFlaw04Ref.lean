/- Contracts of Go functions of the seat Ythidkdlmpkeogaa: what a call comes to; no condition but those that each theorem names. -/
import Derived.Test.YthidkdlmpkeogaaFPre
import Derived.Test.YthidkdlmpkeogaaFLem
import Derived.Deep.LoopGhost
namespace Go.Proofs.Ythidkdlmpkeogaa.F
open Go.RowKit Go.Proofs.YthidkdlmpkeogaaW.PrintWords Go.Proofs.YthidkdlmpkeogaaW.PrintLast Go.Proofs.YthidkdlmpkeogaaW.PrintMore
attribute [local go_sem] max2_int min2_int max_two min_two max_three min_three max_four min_four   -- for this text's walks alone
set_option linter.unusedVariables false
set_option linter.unusedSimpArgs false

attribute [local go_sem] fieldD86_0 fieldD86_1
/-! ### weirkeeperlaw04_Ref: function 47 -/
def refX (x : S104) : S148 := ⟨x.f0, x.f1⟩
def refW (l : List S104) : List S148 := l.map refX
structure RefW (w wr : World) (d0 d1 v1 : Value) (W : List S148) : Prop where
  bd : wr.heap[w.heap.size]? = some (.cells #[d0, d1] 86 (0, 0))
  br : wr.heap[w.heap.size + 1]? = some (.cells #[.slice none 0 0, .slice none 0 0] 95 (0, 0))
  bo : wr.heap[w.heap.size + 2]? = some (.cells #[d0, v1] 95 (0, 0))
  r1 : Kd.R k148 148 wr w.heap.size (fun k_ => w.heap.size ≤ k_) v1 W
  hb : Below w.heap.size w wr
theorem RefW.alloc {w wr : World} {d0 d1 v1 : Value} {W : List S148} (h : RefW w wr d0 d1 v1 W) (o : Obj) : RefW w (wr.alloc o) d0 d1 v1 W :=
  ⟨blk_alloc h.bd o, blk_alloc h.br o, blk_alloc h.bo o, Kd.R_alloc h.r1 o, below_alloc h.hb o⟩
theorem RefW.app {w wr w1 : World} {d0 d1 v1 v2 : Value} {W W' : List S148} (h : RefW w wr d0 d1 v1 W) (hv : Kd.R k148 148 w1 w.heap.size (fun k_ => w.heap.size ≤ k_) v2 W') (hb : Below w.heap.size w w1) (hg : wr.grownBy w1 v1.ownBlock) : RefW w (w1.setCell ⟨w.heap.size + 2, 1, none⟩ v2) d0 d1 v2 W' := by
  have b1 := blk_grown h.bd hg (Kd.R_ne h.r1 h.bd (by decide))
  have b2 := blk_grown h.br hg (Kd.R_ne h.r1 h.br (by decide))
  have b3 := blk_grown h.bo hg (Kd.R_ne h.r1 h.bo (by decide))
  exact ⟨blk_far b1 (by simp only; omega) _, blk_far b2 (by simp only; omega) _, blk_put b3 1 _ rfl, Kd.R_set hv b3 (by decide) 1 _, Below.setCell hb (by simp only; omega) _⟩
set_option maxHeartbeats 4000000 in
set_option maxRecDepth 100000 in
theorem law04_Ref (P0 : Nat → Prop) (A0 : Option Addr) (c0 : Nat) (l0 : List ByteArray) (A1 : Option Addr) (c1 : Nat) (l1 : List S104) (w : World)
    (hs : Kd.V Kd.string 9 w w.heap.size (fun k_ => P0 k_) (.slice A0 l0.length c0) l0) (hr1 : Kd.C k104 w A1 l1.length l1) (hf : l1.length * 24 ≤ 140737488351232) :
    Calls Try.prog 47 #[.agg #[.slice A0 l0.length c0, .slice A1 l1.length c1]] w fun e w' => ∃ v0_ v1_ : Value, e = .returned (.agg #[v0_, v1_]) ∧ Kd.V Kd.string 9 w' w.heap.size (fun k_ => (P0 k_ ∨ w.heap.size ≤ k_) ∧ some k_ ≠ (v1_ : Value).ownBlock) v0_ l0 ∧ Kd.R k148 148 w' w.heap.size (fun k_ => (w.heap.size ≤ k_)) v1_ (refW l1) ∧ Below w.heap.size w w' := by
  have HV := Aside0.mk hs
  clear hs
  have HR1 := Aside0.mk hr1
  have HF := Aside0.mk hf
  clear hr1 hf
  have hn1 : (l1.length : Int) ≤ 5864062014634 := by have := HF.out; omega
  have HS : Aside0 (RefW w (((w.alloc (.cells #[.slice A0 l0.length c0, .slice A1 l1.length c1] 86)).alloc (.cells #[.slice none 0 0, .slice none 0 0] 95)).alloc (.cells #[.slice A0 l0.length c0, .slice none 0 0] 95)) (.slice A0 l0.length c0) (.slice A1 l1.length c1) (.slice none 0 0) []) :=
    ⟨⟨blk_alloc (blk_alloc (heap_alloc_new _ _) _) _, blk_alloc (by simpa using heap_alloc_new (w.alloc (.cells #[.slice A0 l0.length c0, .slice A1 l1.length c1] 86)) _) _, by simpa using heap_alloc_new ((w.alloc (.cells #[.slice A0 l0.length c0, .slice A1 l1.length c1] 86)).alloc (.cells #[.slice none 0 0, .slice none 0 0] 95)) _, Kd.R_nil _ _ _ _ _, below_alloc (below_alloc (below_alloc (Below.refl _ _) _) _) _⟩⟩
  go_enter Try.func47, Try.ntmps47
  go_wp2_with fail
  go_loopg [12] l1.length (fun gg v12 wr => ∃ (i : Int) (v1 : Value) (W : List S148), v12 = .int .i64 i ∧ Aside0 (0 ≤ i ∧ i ≤ l1.length ∧ l1.length - i.toNat ≤ gg) ∧ Aside0 (W = refW (l1.take i.toNat)) ∧ Aside0 (RefW w wr (.slice A0 l0.length c0) (.slice A1 l1.length c1) v1 W))
  case atStart => exact ⟨0, _, [], rfl, ⟨by omega, by omega, by simp⟩, ⟨by simp [refW]⟩, HS⟩
  case round =>
    clear HS
    obtain ⟨i, v1, W, rfl, HI, HW, HM⟩ := hrel
    by_cases c2 : i < (l1.length : Int)
    · have c2b0 : decide (i < (l1.length : Int)) = true := decide_eq_true c2
      have hi0 : 0 ≤ i := HI.out.1
      obtain ⟨ad, ead, hx0, hx1⟩ := at_T104 HR1.out i hi0 c2
      cases ead
      replace hx0 := (HM.out.hb.cell (World.block_lt_of_cell? w _ hx0)).trans hx0
      replace hx1 := (HM.out.hb.cell (World.block_lt_of_cell? w _ hx1)).trans hx1
      have HI2 : Aside0 (l1.length - (i.toNat + 1) < gk ∧ 0 ≤ i + 1 ∧ i + 1 ≤ l1.length ∧ (i + 1).toNat = i.toNat + 1) := ⟨by have := HI.out; omega⟩
      have HWI : Aside0 (wrap64 (i + 1) = i + 1) := ⟨by unfold wrap64; omega⟩
      have HLW : Aside0 (W.length ≤ 5864062014634) := ⟨by have := HF.out; rw [HW.out, refW, List.length_map, List.length_take]; omega⟩
      have HS : Aside0 (W ++ [refX (rd_T104 l1 i)] = refW (l1.take (i + 1).toNat)) := ⟨by
        have hlt : i.toNat < l1.length := by omega
        have e : rd_T104 l1 i = l1[i.toNat] := by rw [rd_T104, List.getD_eq_getElem?_getD, List.getElem?_eq_getElem hlt]; rfl
        rw [HI2.out.2.2.2, List.take_succ_eq_append_getElem hlt, HW.out, e, refW, refW, List.map_append]
        rfl⟩
      generalize rd_T104 l1 i = x at *
      have HM2 : Aside0 (RefW w (wr.alloc (.cells #[.int .i64 x.f0, .string x.f1] 104)) _ _ v1 W) := ⟨HM.out.alloc _⟩
      obtain ⟨p2, q2, rfl⟩ := Kd.R_slice HM.out.r1
      have o1 : (wr.alloc (.cells #[.int .i64 x.f0, .string x.f1] 104)).cell? ⟨w.heap.size + 2, 1, none⟩ = some (.slice p2 W.length q2) := (blk_cell HM2.out.bo 1).trans rfl
      replace c2 := eq_true c2
      replace hi0 := eq_true hi0
      clear HM
      go_wp2_with ((with_reducible refine gate_builtin (b := .append) (xs := #[.tmp 17, .tmp 19]) rfl ?_); (try (refine gate_guard (by rfl) ?_; dsimp only)); at_builtin; refine Kd.R_append k148 (w0 := w) w.heap.size rfl (.tmp 17) (.tmp 19) 93 148 (.agg #[(.int .i64 0), (.string ⟨#[]⟩)]) 24 rfl Try.underlying93 info148 rfl (by decide) (by omega) (.slice p2 W.length q2) W (refX x) [.int .i64 x.f0, .string x.f1] (fun k_ => w.heap.size ≤ k_) (fun _ => False) rfl ?aX ?aP (fun _ hk => hk.elim) ?aF ?aO ?aB ?aS ?aL ?_; (case aX => show Value.slice (some ⟨wr.heap.size + 1, 0, none⟩) 1 1 = _; simp); (case aP => exact k148_mkM _ _ _ (refX x)); (case aB => exact HM2.out.hb); (case aF => exact fun k_ hk_ => Nat.le_trans (below_size HM2.out.hb) hk_); (case aO => exact HM2.out.r1); (case aS => exact below_size HM2.out.hb); (case aL => have := HLW.out; omega); intro v3 w51 ho hb hg hat; obtain ⟨p3, q3, rfl⟩ := Kd.R_slice ho; rw [show (W ++ [refX x]).length = W.length + 1 from by simp] at ho; have b3 := blk_grown HM2.out.bo hg (Kd.R_ne HM2.out.r1 HM2.out.bo (by decide)); (have o2 : w51.cell? ⟨w.heap.size + 2, 1, none⟩ = some (.slice p2 W.length q2) := (blk_cell b3 1).trans rfl); have oz2 := blk_frozen b3 1; have HM3 := Aside0.mk (RefW.app HM2.out ho hb hg); clear ho hb hg hat HM2 o1 b3)
      go_roundg (l1.length - (i.toNat + 1))
      case measure => exact HI2.out.1
      case rel => exact ⟨i + 1, _, _, by rw [HWI.out], ⟨HI2.out.2.1, HI2.out.2.2.1, by rw [HI2.out.2.2.2]; exact Nat.le_refl _⟩, HS, HM3⟩
    · have c2b0 : decide (i < (l1.length : Int)) = false := decide_eq_false c2
      have HD : Aside0 (W = refW l1) := ⟨by
        have hi := HI.out
        rw [HW.out, List.take_of_length_le (by omega)]⟩
      clear HW HI c2
      have e := HD.out
      clear HD
      subst e
      obtain ⟨p2, q2, rfl⟩ := Kd.R_slice HM.out.r1
      have o0 : wr.cell? ⟨w.heap.size + 2, 0, none⟩ = some (.slice A0 l0.length c0) := (blk_cell HM.out.bo 0).trans rfl
      have o1 : wr.cell? ⟨w.heap.size + 2, 1, none⟩ = some (.slice p2 (refW l1).length q2) := (blk_cell HM.out.bo 1).trans rfl
      have y0 : wr.cell? ⟨w.heap.size + 1, 0, none⟩ = some (.slice none 0 0) := (blk_cell HM.out.br 0).trans rfl
      have y1 : wr.cell? ⟨w.heap.size + 1, 1, none⟩ = some (.slice none 0 0) := (blk_cell HM.out.br 1).trans rfl
      have z0 := blk_frozen HM.out.br 0
      have z1 := blk_frozen HM.out.br 1
      go_wp2_with fail
      have M := HM.out
      refine bodyPost_ret (results_cell_row rfl _ _ (w.heap.size + 1) 95 #[.slice A0 l0.length c0, .slice p2 (refW l1).length q2] (0, 0) _ rfl (blk_put (blk_put M.br 0 _ rfl) 1 _ rfl) Try.underlying95 rfl (by kernel_rfl)) rfl ⟨_, _, rfl, ?_, ?_, ?_⟩
      · have hb := Below.setCell (Below.setCell M.hb (p := ⟨w.heap.size + 1, 0, none⟩) (by simp only; omega) (.slice A0 l0.length c0)) (p := ⟨w.heap.size + 1, 1, none⟩) (by simp only; omega) (.slice p2 (refW l1).length q2)
        refine Kd.V_mono (Kd.V_elder' HV.out (u := .slice p2 (refW l1).length q2) (fun k hk => ?_) hb) (fun k hk => ⟨.inl hk.1, hk.2⟩)
        exact M.r1.1 k hk
      · exact Kd.R_set (Kd.R_set M.r1 M.br (by decide) 0 (.slice A0 l0.length c0)) (blk_put M.br 0 _ rfl) (by decide) 1 (.slice p2 (refW l1).length q2)
      · exact Below.setCell (Below.setCell M.hb (by simp only; omega) _) (by simp only; omega) _
def weirkeeperlaw04_Ref.f (k : Nat) (l0 : List ByteArray) (l1 : List S104) : Option (List ByteArray × List S148) := if l1.length * 24 ≤ 140737488351232 then some (l0, refW l1) else none
theorem weirkeeperlaw04_Ref.mono : ∀ a0 a1 k, LeO (weirkeeperlaw04_Ref.f k a0 a1) (weirkeeperlaw04_Ref.f (k + 1) a0 a1) := fun _ _ _ => LeO.refl _
theorem weirkeeperlaw04_Ref.calls (k : Nat) (P0_0_ : Nat → Prop) (A0_0 : Option Addr) (c0_0 : Nat) (l0_0 : List ByteArray) (A0_1 : Option Addr) (c0_1 : Nat) (l0_1 : List S104) (r1 : List ByteArray) (r2 : List S148) (w : World) (hs0_0 : Kd.V Kd.string 9 w w.heap.size (fun k_ => P0_0_ k_) (.slice A0_0 l0_0.length c0_0) l0_0) (hr0_1 : Kd.C k104 w A0_1 l0_1.length l0_1) (hc0_1 : l0_1.length ≤ c0_1) (h : weirkeeperlaw04_Ref.f k l0_0 l0_1 = some (r1, r2)) :
    Calls Try.prog 47 #[.agg #[.slice A0_0 l0_0.length c0_0, .slice A0_1 l0_1.length c0_1]] w fun e w' => ∃ v0_ v1_ : Value, e = .returned (.agg #[v0_, v1_]) ∧ Kd.V Kd.string 9 w' w.heap.size (fun k_ => (P0_0_ k_ ∨ w.heap.size ≤ k_) ∧ some k_ ≠ (v1_ : Value).ownBlock) v0_ r1 ∧ Kd.R k148 148 w' w.heap.size (fun k_ => (w.heap.size ≤ k_)) v1_ r2 ∧ Below w.heap.size w w' := by
  unfold weirkeeperlaw04_Ref.f at h
  by_cases c : l0_1.length * 24 ≤ 140737488351232
  · rw [if_pos c] at h
    cases Option.some.inj h
    exact law04_Ref P0_0_ A0_0 c0_0 l0_0 A0_1 c0_1 l0_1 w hs0_0 hr0_1 c
  · rw [if_neg c] at h
    exact absurd h (by simp)

end Go.Proofs.Ythidkdlmpkeogaa.F
