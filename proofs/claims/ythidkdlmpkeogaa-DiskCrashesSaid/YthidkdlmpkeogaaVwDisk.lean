/- What weirkeeperlaw04.Ref and same come to at disks that are only read: the rows may lie wherever; no condition but those that each theorem names. -/
import Derived.Test.YthidkdlmpkeogaaBase
import Derived.Test.YthidkdlmpkeogaaFLem
import Derived.Test.YthidkdlmpkeogaaFdiskE
import Derived.Test.YthidkdlmpkeogaaFref04
import Derived.Test.YthidkdlmpkeogaaPlSame04
import Derived.Deep.LoopGhost
namespace Go.Proofs.Ythidkdlmpkeogaa.F
open Go.RowKit Go.Proofs.YthidkdlmpkeogaaW.PrintWords Go.Proofs.YthidkdlmpkeogaaW.PrintLast Go.Proofs.YthidkdlmpkeogaaW.PrintMore
attribute [local go_sem] max2_int min2_int max_two min_two max_three min_three max_four min_four
set_option linter.unusedVariables false
set_option linter.unusedSimpArgs false
def refX (x : S104) : S148 := ⟨x.f0, x.f1⟩
def refW (l : List S104) : List S148 := l.map refX
structure RefW (w wr : World) (d0 d1 v1 : Value) (W : List S148) : Prop where
  bd : wr.heap[w.heap.size]? = some (.cells #[d0, d1] 86 (0, 0))
  br : wr.heap[w.heap.size + 1]? = some (.cells #[.slice none 0 0, .slice none 0 0] 95 (0, 0))
  bo : wr.heap[w.heap.size + 2]? = some (.cells #[d0, v1] 95 (0, 0))
  r1 : Kd.R k148 148 wr w.heap.size (fun _ => True) v1 W
  hb : Below w.heap.size w wr
theorem RefW.alloc {w wr : World} {d0 d1 v1 : Value} {W : List S148} (h : RefW w wr d0 d1 v1 W) (o : Obj) : RefW w (wr.alloc o) d0 d1 v1 W :=
  ⟨blk_alloc h.bd o, blk_alloc h.br o, blk_alloc h.bo o, Kd.R_alloc h.r1 o, below_alloc h.hb o⟩
theorem RefW.app {w wr w1 : World} {d0 d1 v1 v2 : Value} {W W' : List S148} (h : RefW w wr d0 d1 v1 W) (hv : Kd.R k148 148 w1 w.heap.size (fun _ => True) v2 W') (hb : Below w.heap.size w w1) (hg : wr.grownBy w1 v1.ownBlock) : RefW w (w1.setCell ⟨w.heap.size + 2, 1, none⟩ v2) d0 d1 v2 W' := by
  have b1 := blk_grown h.bd hg (Kd.R_ne h.r1 h.bd (by decide))
  have b2 := blk_grown h.br hg (Kd.R_ne h.r1 h.br (by decide))
  have b3 := blk_grown h.bo hg (Kd.R_ne h.r1 h.bo (by decide))
  exact ⟨blk_far b1 (by simp only; omega) _, blk_far b2 (by simp only; omega) _, blk_put b3 1 _ rfl, Kd.R_set hv b3 (by decide) 1 _, Below.setCell hb (by simp only; omega) _⟩
set_option maxHeartbeats 4000000 in
set_option maxRecDepth 100000 in
theorem law04_Ref (A0 : Option Addr) (c0 : Nat) (l0 : List ByteArray) (A1 : Option Addr) (c1 : Nat) (l1 : List S104) (w : World)
    (hr1 : Kd.C k104 w A1 l1.length l1) (hf : l1.length * 24 ≤ 140737488351232) :
    Calls Try.prog 47 #[.agg #[.slice A0 l0.length c0, .slice A1 l1.length c1]] w fun e w' => ∃ A2 c2, e = .returned (.agg #[.slice A0 l0.length c0, .slice A2 (refW l1).length c2]) ∧ (refW l1).length ≤ c2 ∧ Kd.C k148 w' A2 (refW l1).length (refW l1) ∧ Below w.heap.size w w' := by
  have HR1 := Aside0.mk hr1
  have HF := Aside0.mk hf
  clear hr1 hf
  have hn1 : (l1.length : Int) ≤ 5864062014634 := by have := HF.out; omega
  have HS : Aside0 (RefW w (((w.alloc (.cells #[.slice A0 l0.length c0, .slice A1 l1.length c1] 86)).alloc (.cells #[.slice none 0 0, .slice none 0 0] 95)).alloc (.cells #[.slice A0 l0.length c0, .slice none 0 0] 95)) (.slice A0 l0.length c0) (.slice A1 l1.length c1) (.slice none 0 0) []) :=
    ⟨⟨blk_alloc (blk_alloc (heap_alloc_new _ _) _) _, blk_alloc (by simpa using heap_alloc_new (w.alloc (.cells #[.slice A0 l0.length c0, .slice A1 l1.length c1] 86)) _) _, by simpa using heap_alloc_new ((w.alloc (.cells #[.slice A0 l0.length c0, .slice A1 l1.length c1] 86)).alloc (.cells #[.slice none 0 0, .slice none 0 0] 95)) _, Kd.R_nil _ _ _ _ _, below_alloc (below_alloc (below_alloc (Below.refl _ _) _) _) _⟩⟩
  go_enter Try.func47, Try.ntmps47
  go_wp2_with fail
  go_loopg [12] l1.length (fun gg v12 wr => ∃ (i : Int) (v1 : Value) (W : List S148), v12 = .int .i64 i ∧ Aside0 (0 ≤ i ∧ i ≤ l1.length ∧ l1.length - i.toNat ≤ gg) ∧ Aside0 (W = refW (l1.take i.toNat)) ∧ Aside0 (RefW w wr (.slice A0 l0.length c0) (.slice A1 l1.length c1) v1 W))
  case atStart => exact ⟨0, _, [], rfl, ⟨by omega, by omega, by simp⟩, ⟨by simp [refW]⟩, HS⟩
  case round =>
    clear HS
    obtain ⟨i, v1, W, rfl, HI, HW, HM⟩ := hrel
    by_cases c2 : i < (l1.length : Int)
    · have c2b0 : decide (i < (l1.length : Int)) = true := decide_eq_true c2
      have hi0 : 0 ≤ i := HI.out.1
      obtain ⟨ad, ead, hx0, hx1⟩ := at_T104 HR1.out i hi0 c2
      cases ead
      replace hx0 := (HM.out.hb.cell (World.block_lt_of_cell? w _ hx0)).trans hx0
      replace hx1 := (HM.out.hb.cell (World.block_lt_of_cell? w _ hx1)).trans hx1
      have HI2 : Aside0 (l1.length - (i.toNat + 1) < gk ∧ 0 ≤ i + 1 ∧ i + 1 ≤ l1.length ∧ (i + 1).toNat = i.toNat + 1) := ⟨by have := HI.out; omega⟩
      have HWI : Aside0 (wrap64 (i + 1) = i + 1) := ⟨by unfold wrap64; omega⟩
      have HLW : Aside0 (W.length ≤ 5864062014634) := ⟨by have := HF.out; rw [HW.out, refW, List.length_map, List.length_take]; omega⟩
      have HS : Aside0 (W ++ [refX (rd_T104 l1 i)] = refW (l1.take (i + 1).toNat)) := ⟨by
        have hlt : i.toNat < l1.length := by omega
        have e : rd_T104 l1 i = l1[i.toNat] := by rw [rd_T104, List.getD_eq_getElem?_getD, List.getElem?_eq_getElem hlt]; rfl
        rw [HI2.out.2.2.2, List.take_succ_eq_append_getElem hlt, HW.out, e, refW, refW, List.map_append]
        rfl⟩
      generalize rd_T104 l1 i = x at *
      have HM2 : Aside0 (RefW w (wr.alloc (.cells #[.int .i64 x.f0, .string x.f1] 104)) _ _ v1 W) := ⟨HM.out.alloc _⟩
      obtain ⟨p2, q2, rfl⟩ := Kd.R_slice HM.out.r1
      have o1 : (wr.alloc (.cells #[.int .i64 x.f0, .string x.f1] 104)).cell? ⟨w.heap.size + 2, 1, none⟩ = some (.slice p2 W.length q2) := (blk_cell HM2.out.bo 1).trans rfl
      replace c2 := eq_true c2
      replace hi0 := eq_true hi0
      clear HM
      go_wp2_with ((with_reducible refine gate_builtin (b := .append) (xs := #[.tmp 17, .tmp 19]) rfl ?_); (try (refine gate_guard (by rfl) ?_; dsimp only)); at_builtin; refine Kd.R_append k148 (w0 := w) w.heap.size rfl (.tmp 17) (.tmp 19) 93 148 (.agg #[(.int .i64 0), (.string ⟨#[]⟩)]) 24 rfl Try.underlying93 info148 rfl (by decide) (by omega) (.slice p2 W.length q2) W (refX x) [.int .i64 x.f0, .string x.f1] (fun _ => True) (fun _ => False) rfl ?aX ?aP (fun _ hk => hk.elim) ?aF ?aO ?aB ?aS ?aL ?_; (case aX => show Value.slice (some ⟨wr.heap.size + 1, 0, none⟩) 1 1 = _; simp); (case aP => exact k148_mkM _ _ _ (refX x)); (case aB => exact HM2.out.hb); (case aF => exact (fun _ _ => trivial)); (case aO => exact HM2.out.r1); (case aS => exact below_size HM2.out.hb); (case aL => have := HLW.out; omega); intro v3 w51 ho hb hg hat; obtain ⟨p3, q3, rfl⟩ := Kd.R_slice ho; rw [show (W ++ [refX x]).length = W.length + 1 from by simp] at ho; have b3 := blk_grown HM2.out.bo hg (Kd.R_ne HM2.out.r1 HM2.out.bo (by decide)); (have o2 : w51.cell? ⟨w.heap.size + 2, 1, none⟩ = some (.slice p2 W.length q2) := (blk_cell b3 1).trans rfl); have oz2 := blk_frozen b3 1; have HM3 := Aside0.mk (RefW.app HM2.out ho hb hg); clear ho hb hg hat HM2 o1 b3)
      go_roundg (l1.length - (i.toNat + 1))
      case measure => exact HI2.out.1
      case rel => exact ⟨i + 1, _, _, by rw [HWI.out], ⟨HI2.out.2.1, HI2.out.2.2.1, by rw [HI2.out.2.2.2]; exact Nat.le_refl _⟩, HS, HM3⟩
    · have c2b0 : decide (i < (l1.length : Int)) = false := decide_eq_false c2
      have HD : Aside0 (W = refW l1) := ⟨by
        have hi := HI.out
        rw [HW.out, List.take_of_length_le (by omega)]⟩
      clear HW HI c2
      have e := HD.out
      clear HD
      subst e
      obtain ⟨p2, q2, rfl, hq, hp⟩ := Kd.R_reads HM.out.r1
      have HQ := Aside0.mk hq
      have HP := Aside0.mk hp
      clear hq hp
      have o0 : wr.cell? ⟨w.heap.size + 2, 0, none⟩ = some (.slice A0 l0.length c0) := (blk_cell HM.out.bo 0).trans rfl
      have o1 : wr.cell? ⟨w.heap.size + 2, 1, none⟩ = some (.slice p2 (refW l1).length q2) := (blk_cell HM.out.bo 1).trans rfl
      have y0 : wr.cell? ⟨w.heap.size + 1, 0, none⟩ = some (.slice none 0 0) := (blk_cell HM.out.br 0).trans rfl
      have y1 : wr.cell? ⟨w.heap.size + 1, 1, none⟩ = some (.slice none 0 0) := (blk_cell HM.out.br 1).trans rfl
      have z0 := blk_frozen HM.out.br 0
      have z1 := blk_frozen HM.out.br 1
      go_wp2_with fail
      have M := HM.out
      refine bodyPost_ret (results_cell_row rfl _ _ (w.heap.size + 1) 95 #[.slice A0 l0.length c0, .slice p2 (refW l1).length q2] (0, 0) _ rfl (blk_put (blk_put M.br 0 _ rfl) 1 _ rfl) Try.underlying95 rfl (by kernel_rfl)) rfl ⟨_, _, rfl, HQ.out, ?_, ?_⟩
      · have r := Kd.R_set (Kd.R_set M.r1 M.br (by decide) 0 (.slice A0 l0.length c0)) (blk_put M.br 0 _ rfl) (by decide) 1 (.slice p2 (refW l1).length q2)
        exact (Kd.R_reads' r).2.2
      · exact Below.setCell (Below.setCell M.hb (by simp only; omega) _) (by simp only; omega) _
set_option maxHeartbeats 4000000 in
set_option maxRecDepth 100000 in
theorem law04_same (A0 : Option Addr) (c0 : Nat) (l0 : List ByteArray) (A1 : Option Addr) (c1 : Nat) (l1 : List S104) (B0 : Option Addr) (e0 : Nat) (m0 : List ByteArray) (B1 : Option Addr) (e1 : Nat) (m1 : List S148) (w : World)
    (hr0 : Kd.C Kd.string w A0 l0.length l0) (hc0 : l0.length ≤ c0) (hr1 : Kd.C k104 w A1 l1.length l1) (hf : l1.length * 24 ≤ 140737488351232)
    (hs0 : Kd.C Kd.string w B0 m0.length m0) (he0 : m0.length ≤ e0) (hs1 : Kd.C k148 w B1 m1.length m1) (he1 : m1.length ≤ e1) :
    Calls Try.prog 49 #[.agg #[.slice A0 l0.length c0, .slice A1 l1.length c1], .agg #[.slice B0 m0.length e0, .slice B1 m1.length e1]] w fun e w' => e = .returned (.bool (decide (l0 = m0 ∧ refW l1 = m1))) ∧ Below w.heap.size w w' := by
  have HSE := Aside0.mk (Pl.same_eq l0 m0 (refW l1) m1 (Kd.C_max hr0) (by rw [refW, List.length_map]; omega) _ (Nat.lt_succ_self _))
  have HR0 := Aside0.mk hr0
  have HC0 := Aside0.mk hc0
  have HR1 := Aside0.mk hr1
  have HF := Aside0.mk hf
  have HS0 := Aside0.mk hs0
  have HE0 := Aside0.mk he0
  have HS1 := Aside0.mk hs1
  have HE1 := Aside0.mk he1
  clear hr0 hc0 hr1 hf hs0 he0 hs1 he1
  generalize decide (l0 = m0 ∧ refW l1 = m1) = b at HSE ⊢
  go_enter Try.func49, Try.ntmps49
  go_wp2_with fail
  have HB := Aside0.mk (below_alloc (below_alloc (Below.refl w.heap.size w) (.cells #[.slice A0 l0.length c0, .slice A1 l1.length c1] 86)) (.cells #[.slice B0 m0.length e0, .slice B1 m1.length e1] 95))
  have HX := Aside0.mk (show ((w.alloc (.cells #[.slice A0 l0.length c0, .slice A1 l1.length c1] 86)).alloc (.cells #[.slice B0 m0.length e0, .slice B1 m1.length e1] 95)).heap[w.heap.size + 1]? = some (.cells #[.slice B0 m0.length e0, .slice B1 m1.length e1] 95 (0, 0)) by simpa using heap_alloc_new (w.alloc (.cells #[.slice A0 l0.length c0, .slice A1 l1.length c1] 86)) _)
  go_region_with (first
    | (go_at_call 47; (with_reducible refine (law04_Ref _ c0 l0 _ c1 l1 _ ?s1 HF.out).mono ?_); (case s1 => exact Kd.C_drew (Kd.C_below HR1.out HB.out)); rintro e w5 ⟨A2, c2, rfl, h2, h3, hb⟩; have H2 := Aside0.mk h2; have H3 := Aside0.mk h3; have HB5 := Aside0.mk (below_step (below_drew HB.out) hb); have HX5 := Aside0.mk (blk_below (blk_drew HX.out) hb); (have x0 : w5.cell? ⟨w.heap.size + 1, 0, none⟩ = some (.slice B0 m0.length e0) := (blk_cell HX5.out 0).trans rfl); (have x1 : w5.cell? ⟨w.heap.size + 1, 1, none⟩ = some (.slice B1 m1.length e1) := (blk_cell HX5.out 1).trans rfl); clear h2 h3 hb)
    | (go_at_call 92; (with_reducible refine (weirkeeperref04_Same.calls _ _ c0 l0 _ _ (refW l1) _ e0 m0 _ e1 m1 b _ ?s1 HC0.out ?s2 H2.out ?s3 HE0.out ?s4 HE1.out HSE.out).mono ?_); (case s1 => exact Kd.C_below HR0.out HB5.out); (case s2 => exact H3.out); (case s3 => exact Kd.C_below HS0.out HB5.out); (case s4 => exact Kd.C_below HS1.out HB5.out); rintro e w6 ⟨rfl, hb⟩; have HB6 := Aside0.mk (below_step HB5.out hb); clear hb))
  all_goals go_wp2_with fail
  all_goals go_ret
  all_goals exact ⟨rfl, HB6.out⟩
/-- A variable that holds a disk: its block, and that its rows read. -/
structure BoxD (wr : World) (b : Nat) (p0 : Option Addr) (q0 : Nat) (S : List ByteArray) (p1 : Option Addr) (q1 : Nat) (W : List S104) : Prop where
  blk : wr.heap[b]? = some (.cells #[.slice p0 S.length q0, .slice p1 W.length q1] 86 (0, 0))
  c0 : Kd.C Kd.string wr p0 S.length S
  l0 : S.length ≤ q0
  c1 : Kd.C k104 wr p1 W.length W
  l1 : W.length ≤ q1
theorem BoxD.below {wr w' : World} {b : Nat} {p0 : Option Addr} {q0 : Nat} {S : List ByteArray} {p1 : Option Addr} {q1 : Nat} {W : List S104} (h : BoxD wr b p0 q0 S p1 q1 W) (hb : Below wr.heap.size wr w') : BoxD w' b p0 q0 S p1 q1 W :=
  ⟨blk_below h.blk hb, Kd.C_below h.c0 hb, h.l0, Kd.C_below h.c1 hb, h.l1⟩
theorem BoxD.alloc {wr : World} {b : Nat} {p0 : Option Addr} {q0 : Nat} {S : List ByteArray} {p1 : Option Addr} {q1 : Nat} {W : List S104} (h : BoxD wr b p0 q0 S p1 q1 W) (o : Obj) : BoxD (wr.alloc o) b p0 q0 S p1 q1 W := h.below (below_alloc (Below.refl _ _) o)
theorem BoxD.drew {wr : World} {b : Nat} {p0 : Option Addr} {q0 : Nat} {S : List ByteArray} {p1 : Option Addr} {q1 : Nat} {W : List S104} (h : BoxD wr b p0 q0 S p1 q1 W) : BoxD wr.drew b p0 q0 S p1 q1 W := h.below (below_drew (Below.refl _ _))
theorem BoxD.drewN {wr : World} {b : Nat} {p0 : Option Addr} {q0 : Nat} {S : List ByteArray} {p1 : Option Addr} {q1 : Nat} {W : List S104} (h : BoxD wr b p0 q0 S p1 q1 W) (n : Nat) : BoxD (wr.drewN n) b p0 q0 S p1 q1 W := h.below (pw_below_drewN (Below.refl _ _) n)
theorem BoxD.arg {w : World} {p0 : Option Addr} {q0 : Nat} {S : List ByteArray} {p1 : Option Addr} {q1 : Nat} {W : List S104} (h0 : Kd.C Kd.string w p0 S.length S) (h1 : S.length ≤ q0) (h2 : Kd.C k104 w p1 W.length W) (h3 : W.length ≤ q1) :
    BoxD (w.alloc (.cells #[.slice p0 S.length q0, .slice p1 W.length q1] 86)) w.heap.size p0 q0 S p1 q1 W := ⟨heap_alloc_new _ _, Kd.C_alloc h0 _, h1, Kd.C_alloc h2 _, h3⟩
theorem BoxD.new {w : World} {b0 : Nat} {ok ok' : Nat → Prop} {p0 : Option Addr} {q0 : Nat} {S : List ByteArray} {p1 : Option Addr} {q1 : Nat} {W : List S104} (h0 : Kd.R Kd.string 9 w b0 ok (.slice p0 S.length q0) S) (h1 : Kd.R k104 104 w b0 ok' (.slice p1 W.length q1) W) :
    BoxD (w.alloc (.cells #[.slice p0 S.length q0, .slice p1 W.length q1] 86)) w.heap.size p0 q0 S p1 q1 W :=
  .arg (Kd.R_reads' h0).2.2 (Kd.R_reads' h0).2.1 (Kd.R_reads' h1).2.2 (Kd.R_reads' h1).2.1
/-- The rows of a disk that was handed back, not yet laid into a variable. -/
structure ViewD (wr : World) (p0 : Option Addr) (q0 : Nat) (S : List ByteArray) (p1 : Option Addr) (q1 : Nat) (W : List S104) : Prop where
  c0 : Kd.C Kd.string wr p0 S.length S
  l0 : S.length ≤ q0
  c1 : Kd.C k104 wr p1 W.length W
  l1 : W.length ≤ q1
theorem ViewD.below {wr w' : World} {p0 : Option Addr} {q0 : Nat} {S : List ByteArray} {p1 : Option Addr} {q1 : Nat} {W : List S104} (h : ViewD wr p0 q0 S p1 q1 W) (hb : Below wr.heap.size wr w') : ViewD w' p0 q0 S p1 q1 W :=
  ⟨Kd.C_below h.c0 hb, h.l0, Kd.C_below h.c1 hb, h.l1⟩
theorem ViewD.new {w : World} {b0 : Nat} {ok ok' : Nat → Prop} {p0 : Option Addr} {q0 : Nat} {S : List ByteArray} {p1 : Option Addr} {q1 : Nat} {W : List S104} (h0 : Kd.R Kd.string 9 w b0 ok (.slice p0 S.length q0) S) (h1 : Kd.R k104 104 w b0 ok' (.slice p1 W.length q1) W) : ViewD w p0 q0 S p1 q1 W :=
  ⟨(Kd.R_reads' h0).2.2, (Kd.R_reads' h0).2.1, (Kd.R_reads' h1).2.2, (Kd.R_reads' h1).2.1⟩
theorem disk_Crash_nil (A0 : Option Addr) (c0 : Nat) (l0 : List ByteArray) (A1 : Option Addr) (c1 : Nat) (l1 : List S104) (r1 : List ByteArray) (r2 : List S104) (w : World)
    (hr0 : Kd.C Kd.string w A0 l0.length l0) (hc0 : l0.length ≤ c0) (hr1 : Kd.C k104 w A1 l1.length l1) (hc1 : l1.length ≤ c1) (h : disk_Crash.f l0 l1 [] = some (r1, r2)) :
    Calls Try.prog 51 #[.agg #[.slice A0 l0.length c0, .slice A1 l1.length c1], .slice none 0 0] w fun e w' => ∃ v0 v1 : Value, e = .returned (.agg #[v0, v1]) ∧ Kd.R Kd.string 9 w' w.heap.size (fun _ => True) v0 r1 ∧ Kd.R k104 104 w' w.heap.size (fun _ => True) v1 r2 ∧ Below w.heap.size w w' :=
  disk_Crash.calls A0 c0 l0 A1 c1 l1 none 0 [] r1 r2 w hr0 hc0 hr1 hc1 (Kd.C_nil _ _) (Nat.le_refl _) h
theorem law04_same_nil (A0 : Option Addr) (c0 : Nat) (l0 : List ByteArray) (A1 : Option Addr) (c1 : Nat) (l1 : List S104) (B0 : Option Addr) (e0 : Nat) (m0 : List ByteArray) (w : World)
    (hr0 : Kd.C Kd.string w A0 l0.length l0) (hc0 : l0.length ≤ c0) (hr1 : Kd.C k104 w A1 l1.length l1) (hf : l1.length * 24 ≤ 140737488351232) (hs0 : Kd.C Kd.string w B0 m0.length m0) (he0 : m0.length ≤ e0) :
    Calls Try.prog 49 #[.agg #[.slice A0 l0.length c0, .slice A1 l1.length c1], .agg #[.slice B0 m0.length e0, .slice none 0 0]] w fun e w' => e = .returned (.bool (decide (l0 = m0 ∧ refW l1 = []))) ∧ Below w.heap.size w w' :=
  law04_same A0 c0 l0 A1 c1 l1 B0 e0 m0 none 0 [] w hr0 hc0 hr1 hf hs0 he0 (Kd.C_nil _ _) (Nat.le_refl _)
end Go.Proofs.Ythidkdlmpkeogaa.F
