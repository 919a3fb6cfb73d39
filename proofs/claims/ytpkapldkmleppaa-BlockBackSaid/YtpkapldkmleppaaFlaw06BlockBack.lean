/- Contracts of Go functions of the seat Ytpkapldkmleppaa: what a call comes to; no condition but those that each theorem names. -/
import Derived.Test.YtpkapldkmleppaaFPre
import Derived.Test.YtpkapldkmleppaaFblockH
import Derived.Test.YtpkapldkmleppaaFblockx1
import Derived.Test.YtpkapldkmleppaaFblockx0
import Derived.Test.YtpkapldkmleppaaFdiskC
import Derived.Test.YtpkapldkmleppaaFdiskE
import Derived.Test.YtpkapldkmleppaaFlaw04Ref
import Derived.Test.YtpkapldkmleppaaFlaw06awake
import Derived.Test.YtpkapldkmleppaaFref04x0
namespace Go.Proofs.Ytpkapldkmleppaa.F
open Go.RowKit Go.Proofs.YtpkapldkmleppaaW.PrintWords Go.Proofs.YtpkapldkmleppaaW.PrintLast Go.Proofs.YtpkapldkmleppaaW.PrintMore
attribute [local go_sem] max2_int min2_int max_two min_two max_three min_three max_four min_four   -- for this text's walks alone
set_option linter.unusedVariables false
set_option linter.unusedSimpArgs false

attribute [local go_sem] fieldD25_0 fieldD25_1
/-! ### weirkeeperlaw06_BlockBack: function 3 -/
mutual
def weirkeeperlaw06_BlockBack.j0 : Nat → Int → ByteArray → Int → List ByteArray → Bool → List ByteArray → List (S76) → Option (Bool)
  | 0, _, _, _, _, _, _, _ => none
  | k + 1, x1, x2, x3, x4, x35, x209000, x209001 => if x35 = true then ((weirkeeperlaw06_awake.f k).bind fun t216 => (some t216)) else ((block_Write.f k x209000 x209001 x1 x2).bind fun bt217 => (if bt217.2.2 = 0 then ((block_Need.f (x2.size : Int)).bind fun t239 => ((block_Read.f k bt217.1 bt217.2.1 x1 t239).bind fun bt240 => ((disk_Flush.f bt217.1 bt217.2.1).bind fun bt242 => ((block_Read.f k bt242.1 bt242.2 x1 t239).bind fun bt248 => (if bt240.1.toList = x2.toList then (if bt240.2 = 0 then (if bt248.1.toList = x2.toList then (weirkeeperlaw06_BlockBack.j1 k x1 x2 x3 x4 t239 (bt248.2 != 0) bt217.1 bt217.2.1) else (weirkeeperlaw06_BlockBack.j1 k x1 x2 x3 x4 t239 true bt217.1 bt217.2.1)) else (weirkeeperlaw06_BlockBack.j1 k x1 x2 x3 x4 t239 true bt217.1 bt217.2.1)) else (weirkeeperlaw06_BlockBack.j1 k x1 x2 x3 x4 t239 true bt217.1 bt217.2.1)))))) else ((weirkeeperlaw04_Ref.f k bt217.1 bt217.2.1).bind fun bt225 => ((weirkeeperlaw04_Ref.f k x209000 x209001).bind fun bt231 => ((weirkeeperref04_Same.f k bt225.1 bt225.2 bt231.1 bt231.2).bind fun t237 => (if t237 = true then ((weirkeeperlaw06_awake.f k).bind fun t238 => (some t238)) else (some false)))))))
def weirkeeperlaw06_BlockBack.j1 : Nat → Int → ByteArray → Int → List ByteArray → Int → Bool → List ByteArray → List (S76) → Option (Bool)
  | 0, _, _, _, _, _, _, _, _ => none
  | k + 1, x1, x2, x3, x4, x13, x87, x225000, x225001 => if x87 = true then (some false) else (if x3 < 0 then (weirkeeperlaw06_BlockBack.j2 k x1 x2 x3 x4 x13 true x225000 x225001) else (if x3 > 100 then (weirkeeperlaw06_BlockBack.j2 k x1 x2 x3 x4 x13 true x225000 x225001) else (if (wrap64 (x3 + (x4.length : Int))) > x1 then (weirkeeperlaw06_BlockBack.j2 k x1 x2 x3 x4 x13 (decide (x3 < (wrap64 (x1 + x13)))) x225000 x225001) else (weirkeeperlaw06_BlockBack.j2 k x1 x2 x3 x4 x13 false x225000 x225001))))
def weirkeeperlaw06_BlockBack.j2 : Nat → Int → ByteArray → Int → List ByteArray → Int → Bool → List ByteArray → List (S76) → Option (Bool)
  | 0, _, _, _, _, _, _, _, _ => none
  | k + 1, x1, x2, x3, x4, x13, x108, x225000, x225001 => if x108 = true then ((weirkeeperlaw06_awake.f k).bind fun t250 => (some t250)) else ((disk_Put.f x225000 x225001 x3 x4).bind fun bt251 => ((block_Read.f k bt251.1 bt251.2.1 x1 x13).bind fun bt259 => (if bt259.1.toList = x2.toList then (if bt259.2 = 0 then ((weirkeeperlaw06_awake.f k).bind fun t261 => (some t261)) else (some false)) else (some false))))
end
def weirkeeperlaw06_BlockBack.f (k : Nat) (l0_0 : List ByteArray) (l0_1 : List (S76)) (a1 : Int) (a2 : ByteArray) (a3 : Int) (l4 : List ByteArray) : Option (Bool) := (weirkeeperlaw04_Ref.f k l0_0 l0_1).bind fun bt209 => ((weirkeeperref04_Small.f bt209.1 bt209.2).bind fun t215 => (if t215 = true then (if (a2.size : Int) > 2000 then (weirkeeperlaw06_BlockBack.j0 k a1 a2 a3 l4 true l0_0 l0_1) else (weirkeeperlaw06_BlockBack.j0 k a1 a2 a3 l4 (decide ((l4.length : Int) > 30)) l0_0 l0_1)) else (weirkeeperlaw06_BlockBack.j0 k a1 a2 a3 l4 true l0_0 l0_1)))
theorem weirkeeperlaw06_BlockBack.mono_l : ∀ k, (∀ y0 y1 y2 y3 y4 y5 y6, LeO (weirkeeperlaw06_BlockBack.j0 k y0 y1 y2 y3 y4 y5 y6) (weirkeeperlaw06_BlockBack.j0 (k + 1) y0 y1 y2 y3 y4 y5 y6)) ∧ (∀ y0 y1 y2 y3 y4 y5 y6 y7, LeO (weirkeeperlaw06_BlockBack.j1 k y0 y1 y2 y3 y4 y5 y6 y7) (weirkeeperlaw06_BlockBack.j1 (k + 1) y0 y1 y2 y3 y4 y5 y6 y7)) ∧ (∀ y0 y1 y2 y3 y4 y5 y6 y7, LeO (weirkeeperlaw06_BlockBack.j2 k y0 y1 y2 y3 y4 y5 y6 y7) (weirkeeperlaw06_BlockBack.j2 (k + 1) y0 y1 y2 y3 y4 y5 y6 y7))
  | 0 => ⟨fun _ _ _ _ _ _ _ r h => by simp [weirkeeperlaw06_BlockBack.j0] at h, fun _ _ _ _ _ _ _ _ r h => by simp [weirkeeperlaw06_BlockBack.j1] at h, fun _ _ _ _ _ _ _ _ r h => by simp [weirkeeperlaw06_BlockBack.j2] at h⟩
  | k + 1 => by
    obtain ⟨ih0, ih1, ih2⟩ := weirkeeperlaw06_BlockBack.mono_l k
    refine ⟨?_, ?_, ?_⟩
    · intro y0 y1 y2 y3 y4 y5 y6
      unfold weirkeeperlaw06_BlockBack.j0
      repeat' first
      | (with_reducible exact ih0 _ _ _ _ _ _ _)
      | (with_reducible exact ih1 _ _ _ _ _ _ _ _)
      | (with_reducible exact ih2 _ _ _ _ _ _ _ _)
      | (with_reducible exact block_Read.mono _ _ _ _ _)
      | (with_reducible exact block_Write.mono _ _ _ _ _)
      | (with_reducible exact weirkeeperlaw04_Ref.mono _ _ _)
      | (with_reducible exact weirkeeperlaw06_awake.mono _)
      | (with_reducible exact weirkeeperref04_Same.mono _ _ _ _ _)
      | (with_reducible exact LeO.refl _)
      | (with_reducible exact LeO.none _)
      | (with_reducible refine LeO.ite ?_ ?_)
      | (with_reducible refine LeO.bind ?_ (fun _ => ?_))
      | exact ih0 _ _ _ _ _ _ _
      | exact ih1 _ _ _ _ _ _ _ _
      | exact ih2 _ _ _ _ _ _ _ _
      | exact block_Read.mono _ _ _ _ _
      | exact block_Write.mono _ _ _ _ _
      | exact weirkeeperlaw04_Ref.mono _ _ _
      | exact weirkeeperlaw06_awake.mono _
      | exact weirkeeperref04_Same.mono _ _ _ _ _
      | exact LeO.none _
      | refine LeO.ite ?_ ?_
      | refine LeO.bind ?_ (fun _ => ?_)
    · intro y0 y1 y2 y3 y4 y5 y6 y7
      unfold weirkeeperlaw06_BlockBack.j1
      repeat' first
      | (with_reducible exact ih0 _ _ _ _ _ _ _)
      | (with_reducible exact ih1 _ _ _ _ _ _ _ _)
      | (with_reducible exact ih2 _ _ _ _ _ _ _ _)
      | (with_reducible exact block_Read.mono _ _ _ _ _)
      | (with_reducible exact block_Write.mono _ _ _ _ _)
      | (with_reducible exact weirkeeperlaw04_Ref.mono _ _ _)
      | (with_reducible exact weirkeeperlaw06_awake.mono _)
      | (with_reducible exact weirkeeperref04_Same.mono _ _ _ _ _)
      | (with_reducible exact LeO.refl _)
      | (with_reducible exact LeO.none _)
      | (with_reducible refine LeO.ite ?_ ?_)
      | (with_reducible refine LeO.bind ?_ (fun _ => ?_))
      | exact ih0 _ _ _ _ _ _ _
      | exact ih1 _ _ _ _ _ _ _ _
      | exact ih2 _ _ _ _ _ _ _ _
      | exact block_Read.mono _ _ _ _ _
      | exact block_Write.mono _ _ _ _ _
      | exact weirkeeperlaw04_Ref.mono _ _ _
      | exact weirkeeperlaw06_awake.mono _
      | exact weirkeeperref04_Same.mono _ _ _ _ _
      | exact LeO.none _
      | refine LeO.ite ?_ ?_
      | refine LeO.bind ?_ (fun _ => ?_)
    · intro y0 y1 y2 y3 y4 y5 y6 y7
      unfold weirkeeperlaw06_BlockBack.j2
      repeat' first
      | (with_reducible exact ih0 _ _ _ _ _ _ _)
      | (with_reducible exact ih1 _ _ _ _ _ _ _ _)
      | (with_reducible exact ih2 _ _ _ _ _ _ _ _)
      | (with_reducible exact block_Read.mono _ _ _ _ _)
      | (with_reducible exact block_Write.mono _ _ _ _ _)
      | (with_reducible exact weirkeeperlaw04_Ref.mono _ _ _)
      | (with_reducible exact weirkeeperlaw06_awake.mono _)
      | (with_reducible exact weirkeeperref04_Same.mono _ _ _ _ _)
      | (with_reducible exact LeO.refl _)
      | (with_reducible exact LeO.none _)
      | (with_reducible refine LeO.ite ?_ ?_)
      | (with_reducible refine LeO.bind ?_ (fun _ => ?_))
      | exact ih0 _ _ _ _ _ _ _
      | exact ih1 _ _ _ _ _ _ _ _
      | exact ih2 _ _ _ _ _ _ _ _
      | exact block_Read.mono _ _ _ _ _
      | exact block_Write.mono _ _ _ _ _
      | exact weirkeeperlaw04_Ref.mono _ _ _
      | exact weirkeeperlaw06_awake.mono _
      | exact weirkeeperref04_Same.mono _ _ _ _ _
      | exact LeO.none _
      | refine LeO.ite ?_ ?_
      | refine LeO.bind ?_ (fun _ => ?_)
theorem weirkeeperlaw06_BlockBack.mono : ∀ a0 a1 a2 a3 a4 a5 k, LeO (weirkeeperlaw06_BlockBack.f k a0 a1 a2 a3 a4 a5) (weirkeeperlaw06_BlockBack.f (k + 1) a0 a1 a2 a3 a4 a5) := by
  intro a0 a1 a2 a3 a4 a5 k
  obtain ⟨ih0, ih1, ih2⟩ := weirkeeperlaw06_BlockBack.mono_l k
  unfold weirkeeperlaw06_BlockBack.f
  repeat' first
      | (with_reducible exact ih0 _ _ _ _ _ _ _)
      | (with_reducible exact ih1 _ _ _ _ _ _ _ _)
      | (with_reducible exact ih2 _ _ _ _ _ _ _ _)
      | (with_reducible exact block_Read.mono _ _ _ _ _)
      | (with_reducible exact block_Write.mono _ _ _ _ _)
      | (with_reducible exact weirkeeperlaw04_Ref.mono _ _ _)
      | (with_reducible exact weirkeeperlaw06_awake.mono _)
      | (with_reducible exact weirkeeperref04_Same.mono _ _ _ _ _)
      | (with_reducible exact LeO.refl _)
      | (with_reducible exact LeO.none _)
      | (with_reducible refine LeO.ite ?_ ?_)
      | (with_reducible refine LeO.bind ?_ (fun _ => ?_))
      | exact ih0 _ _ _ _ _ _ _
      | exact ih1 _ _ _ _ _ _ _ _
      | exact ih2 _ _ _ _ _ _ _ _
      | exact block_Read.mono _ _ _ _ _
      | exact block_Write.mono _ _ _ _ _
      | exact weirkeeperlaw04_Ref.mono _ _ _
      | exact weirkeeperlaw06_awake.mono _
      | exact weirkeeperref04_Same.mono _ _ _ _ _
      | exact LeO.none _
      | refine LeO.ite ?_ ?_
      | refine LeO.bind ?_ (fun _ => ?_)
def weirkeeperlaw06_BlockBack.T5 : Bool × List (List Nat × List Nat) := (true, [([], []), ([0], [0]), ([], []), ([2, 1], [2]), ([1, 3, 3], [1, 3]), ([4, 4], [4]), ([5, 5], [5]), ([5, 6], [5, 6]), ([7, 6, 0, 1, 2, 3, 4, 5, 6, 7], [7])])
def weirkeeperlaw06_BlockBack.B5 : List Nat := [0, 1, 0, 7, 15, 31, 63, 127, 255]
theorem weirkeeperlaw06_BlockBack.tab5 : rtab .any (opsOf Try.f3 5) = weirkeeperlaw06_BlockBack.T5 := by kernel_rfl
theorem weirkeeperlaw06_BlockBack.bits5 : waitsOk weirkeeperlaw06_BlockBack.T5.2 weirkeeperlaw06_BlockBack.B5 = true := by kernel_rfl
set_option maxHeartbeats 8000000 in
set_option maxRecDepth 100000 in
theorem weirkeeperlaw06_BlockBack.calls (k : Nat) (A0_0 : Option Addr) (c0_0 : Nat) (l0_0 : List ByteArray) (A0_1 : Option Addr) (c0_1 : Nat) (l0_1 : List (S76)) (a1 : Int) (a2 : ByteArray) (a3 : Int) (A4 : Option Addr) (c4 : Nat) (l4 : List ByteArray) (w : World) (hr0_0 : Kd.C Kd.string w A0_0 l0_0.length l0_0) (hc0_0 : l0_0.length ≤ c0_0) (hr0_1 : Kd.C k76 w A0_1 l0_1.length l0_1) (hc0_1 : l0_1.length ≤ c0_1) (hr4 : Kd.C Kd.string w A4 l4.length l4) (hc4 : l4.length ≤ c4) (h : weirkeeperlaw06_BlockBack.f k l0_0 l0_1 a1 a2 a3 l4 = some true) :
    Calls Try.prog 3 #[.agg #[.slice A0_0 l0_0.length c0_0, .slice A0_1 l0_1.length c0_1], .int .i64 a1, .string a2, .int .i64 a3, .slice A4 l4.length c4] w fun e w' => e = .returned (.bool true) ∧ Below w.heap.size w w' := by
  have hu25 := Try.underlying25
  have HR0_0 := Aside0.mk hr0_0
  have HC0_0 := Aside0.mk hc0_0
  clear hr0_0 hc0_0
  have HR0_1 := Aside0.mk hr0_1
  have HC0_1 := Aside0.mk hc0_1
  clear hr0_1 hc0_1
  have HR4 := Aside0.mk hr4
  have HC4 := Aside0.mk hc4
  clear hr4 hc4
  have HB := Aside0.mk (Below.refl w.heap.size w)
  have H : ((weirkeeperlaw04_Ref.f k l0_0 l0_1).bind fun bt209 => ((weirkeeperref04_Small.f bt209.1 bt209.2).bind fun t215 => (if t215 = true then (if (a2.size : Int) > 2000 then (weirkeeperlaw06_BlockBack.j0 k a1 a2 a3 l4 true l0_0 l0_1) else (weirkeeperlaw06_BlockBack.j0 k a1 a2 a3 l4 (decide ((l4.length : Int) > 30)) l0_0 l0_1)) else (weirkeeperlaw06_BlockBack.j0 k a1 a2 a3 l4 true l0_0 l0_1)))) = some true := h
  clear h
  have HC6 := Aside0.mk H
  clear H
  go_enter Try.func3, Try.ntmps3
  go_upto_region 1 with (first | ((with_reducible refine gate_dst (N := 5) rfl ?_); (try (refine gate_guard (by rfl) ?_; dsimp only)); refine box_event ?hg (N := 5) ?hd (cs := #[.slice A0_0 l0_0.length c0_0, .slice A0_1 l0_1.length c0_1]) (t := 25) ?hr ?_; (case hd => rfl); (case hg => rfl); (case hr => first | (go_simp; done) | (go_simp; rfl)); intro gb208 hg w7 hbox hb; have n0_ := Aside0.mk (below_step (by repeat (first | (with_reducible first | exact HB.out | apply below_alloc | apply pw_below_drewN | apply below_drew1) | exact HB.out)) hb); have n1_ := Aside0.mk (hbox); have n2_ := Aside0.mk ((by rw [hg]; exact (below_size (by repeat (first | (with_reducible first | exact HB.out | apply below_alloc | apply pw_below_drewN | apply below_drew1) | exact HB.out))) : w.heap.size ≤ gb208)); have n3_ := Aside0.mk ((by rw [hg]; exact (below_size (by repeat (first | (with_reducible first | exact HB.out | apply below_alloc | apply pw_below_drewN | apply below_drew1) | exact HB.out))) : w.heap.size ≤ gb208)); clear HB; have HB := n0_; have BK208 := n1_; have GW208 := n2_; have GE208 := n3_; clear n0_ n1_ n2_ n3_; clear hb hbox hg))
  (try simp only [Act.put, List.setIfInBounds_toArray, List.set_cons_zero, List.set_cons_succ])
  go_cut [35] (fun v35 wc => ∃ (kq : Nat) (x35_5 : Bool), v35 = .bool x35_5 ∧ Aside0 (weirkeeperlaw06_BlockBack.j0 kq a1 a2 a3 l4 x35_5 l0_0 l0_1 = some true) ∧ Aside0 (kq ≤ k) ∧ Aside0 (wc.heap[gb208]? = some (.cells #[(.slice A0_0 l0_0.length c0_0), (.slice A0_1 l0_1.length c0_1)] 25 (0, 0))) ∧ Aside0 (Below w.heap.size w wc))
  case first =>
    have H := HC6.out
    clear HC6
    replace H := Option.bind_eq_some_iff.mp H
    obtain ⟨⟨t209, t212⟩, A80, H⟩ := H
    replace H : ((weirkeeperref04_Small.f t209 t212).bind fun t215 => (if t215 = true then (if (a2.size : Int) > 2000 then (weirkeeperlaw06_BlockBack.j0 k a1 a2 a3 l4 true l0_0 l0_1) else (weirkeeperlaw06_BlockBack.j0 k a1 a2 a3 l4 (decide ((l4.length : Int) > 30)) l0_0 l0_1)) else (weirkeeperlaw06_BlockBack.j0 k a1 a2 a3 l4 true l0_0 l0_1))) = some true := H
    have A8 := Aside0.mk A80
    clear A80
    replace H := Option.bind_eq_some_iff.mp H
    obtain ⟨t215, A90, H⟩ := H
    replace H : (if t215 = true then (if (a2.size : Int) > 2000 then (weirkeeperlaw06_BlockBack.j0 k a1 a2 a3 l4 true l0_0 l0_1) else (weirkeeperlaw06_BlockBack.j0 k a1 a2 a3 l4 (decide ((l4.length : Int) > 30)) l0_0 l0_1)) else (weirkeeperlaw06_BlockBack.j0 k a1 a2 a3 l4 true l0_0 l0_1)) = some true := H
    have A9 := Aside0.mk A90
    clear A90
    by_cases c10 : t215 = true
    · subst c10
      have H1 : (if (a2.size : Int) > 2000 then (weirkeeperlaw06_BlockBack.j0 k a1 a2 a3 l4 true l0_0 l0_1) else (weirkeeperlaw06_BlockBack.j0 k a1 a2 a3 l4 (decide ((l4.length : Int) > 30)) l0_0 l0_1)) = some true := by rw [if_pos rfl] at H; exact H
      clear H
      have H := H1
      clear H1
      by_cases c11 : (a2.size : Int) > 2000
      · rw [if_pos c11] at H
        have c11b0 : decide (2000 < (a2.size : Int)) = true := decide_eq_true c11
        have c11b1 : decide (2000 < a2.size) = true := decide_eq_true (by omega)
        clear c11
        (first | rw [c11b0] | (simp only [i64_w, i32_w]; rw [c11b0]) | skip)
        have H' := Aside0.mk H
        clear H
        have hcz12_0 : w7.cell? ⟨gb208, 0, none⟩ = some (.slice A0_0 l0_0.length c0_0) := (blk_cell BK208.out 0).trans rfl
        have hcz12_1 : w7.cell? ⟨gb208, 1, none⟩ = some (.slice A0_1 l0_1.length c0_1) := (blk_cell BK208.out 1).trans rfl
        have hfz12_0 := blk_frozen BK208.out 0
        have hfz12_1 := blk_frozen BK208.out 1
        go_wp2_with (first | ((with_reducible refine gate_callee (f := 16) rfl ?_); refine goesL_ (some 23) rfl rfl Try.func16 (by kernel_rfl) rfl #[.agg #[.slice A0_0 l0_0.length c0_0, .slice A0_1 l0_1.length c0_1]] rfl (by (try simp only [List.map_toArray, List.map_cons, List.map_nil]); first | done | rfl | (simp only [List.length_drop, List.length_take]; rfl)) ?_; (with_reducible refine (weirkeeperlaw04_Ref.calls k (fun k_ => k_ < w.heap.size) _ _ l0_0 _ _ l0_1 t209 t212 _ ?side1 ?side2 ?side3 A8.out).mono ?_); (case side1 => exact Kd.V_mk HC0_0.out (Kd.F_below (Kd.C_F Kd.heap_string HR0_0.out) (by repeat (first | (with_reducible first | exact HB.out | apply below_alloc | apply pw_below_drewN | apply below_drew1 | refine below_set ?_ GE208.out) | exact HB.out)))); (case side2 => repeat (first | exact (Kd.C_below HR0_1.out HB.out) | (with_reducible refine Kd.C_alloc ?_ _) | (with_reducible refine Kd.C_drewN ?_ _) | (with_reducible refine Kd.C_drew ?_))); (case side3 => exact HC0_1.out); rintro e w13 ⟨v210, v213, rfl, ho0, ho1, hb⟩; refine ⟨_, rfl, ?_⟩; have n0_ := Aside0.mk (Kd.V_lower (Kd.V_mono (ok' := fun k_ => some k_ ≠ (v213 : Value).ownBlock ∧ k_ ≠ gb208) ho0 (fun k_ hk_ => ⟨hk_.2, Or.elim hk_.1 (fun hs_ => fun e_ => Nat.not_le.2 hs_ (by rw [e_]; exact GW208.out)) (fun hn_ => (Kd.freshB (g := gb208) (o := .cells #[.slice A0_0 l0_0.length c0_0, .slice A0_1 l0_1.length c0_1] 25 (0, 0)) (by (with_reducible repeat (first | refine blk_drewN ?_ _ | refine blk_drew ?_ | refine blk_alloc ?_ _)); exact BK208.out) k_ hn_))⟩)) (below_size (by repeat (first | (with_reducible first | exact HB.out | apply below_alloc | apply pw_below_drewN | apply below_drew1 | refine below_set ?_ GE208.out) | exact HB.out)))); have n1_ := Aside0.mk (Kd.R_lower (Kd.R_mono (ok' := fun k_ => True) ho1 (fun _ hk_ => trivial)) (below_size (by repeat (first | (with_reducible first | exact HB.out | apply below_alloc | apply pw_below_drewN | apply below_drew1 | refine below_set ?_ GE208.out) | exact HB.out)))); have n2_ := Aside0.mk (blk_below (g := gb208) (o := .cells #[.slice A0_0 l0_0.length c0_0, .slice A0_1 l0_1.length c0_1] 25 (0, 0)) (by (with_reducible repeat (first | refine blk_drewN ?_ _ | refine blk_drew ?_ | refine blk_alloc ?_ _)); exact BK208.out) hb); have n3_ := Aside0.mk (below_step (by repeat (first | (with_reducible first | exact HB.out | apply below_alloc | apply pw_below_drewN | apply below_drew1 | refine below_set ?_ GE208.out) | exact HB.out)) hb); clear BK208; clear HB; have HO211 := n0_; have HO214 := n1_; have BK208 := n2_; have HB := n3_; clear n0_ n1_ n2_ n3_; (try clear hb); (try clear hb2); (try clear hk); (try clear hi); (try clear ho0); (try clear ho1); obtain ⟨Ao14, co14, eo14⟩ := Kd.V_slice HO211.out; subst eo14; obtain ⟨Ao15, co15, eo15⟩ := Kd.R_slice HO214.out; subst eo15) | ((with_reducible refine gate_callee (f := 15) rfl ?_); refine goesL_ (some 24) rfl rfl Try.func15 (by kernel_rfl) rfl #[.agg #[.slice Ao14 t209.length co14, .slice Ao15 t212.length co15]] rfl (by (try simp only [List.map_toArray, List.map_cons, List.map_nil]); first | done | rfl | (simp only [List.length_drop, List.length_take]; rfl)) ?_; (with_reducible refine (weirkeeperref04_Small.calls _ _ t209 _ _ t212 true _ ?side1 ?side2 ?side3 ?side4 A9.out).mono ?_); (case side1 => repeat (first | exact (Kd.V_reads' HO211.out).2.2 | (with_reducible refine Kd.C_alloc ?_ _) | (with_reducible refine Kd.C_drewN ?_ _) | (with_reducible refine Kd.C_drew ?_))); (case side2 => exact (Kd.V_reads' HO211.out).2.1); (case side3 => repeat (first | exact (Kd.R_reads' HO214.out).2.2 | (with_reducible refine Kd.C_alloc ?_ _) | (with_reducible refine Kd.C_drewN ?_ _) | (with_reducible refine Kd.C_drew ?_))); (case side4 => exact (Kd.R_reads' HO214.out).2.1); rintro e w16 ⟨rfl, hb⟩; refine ⟨_, rfl, ?_⟩; have n0_ := Aside0.mk (Kd.V_below (by (with_reducible repeat (first | apply Kd.V_alloc | apply Kd.V_drewN | apply Kd.V_drew)); exact HO211.out) hb); have n1_ := Aside0.mk (Kd.R_below (by (with_reducible repeat (first | apply Kd.R_alloc | apply Kd.R_drewN | apply Kd.R_drew)); exact HO214.out) hb); have n2_ := Aside0.mk (blk_below (g := gb208) (o := .cells #[.slice A0_0 l0_0.length c0_0, .slice A0_1 l0_1.length c0_1] 25 (0, 0)) (by (with_reducible repeat (first | refine blk_drewN ?_ _ | refine blk_drew ?_ | refine blk_alloc ?_ _)); exact BK208.out) hb); have n3_ := Aside0.mk (below_step (by repeat (first | (with_reducible first | exact HB.out | apply below_alloc | apply pw_below_drewN | apply below_drew1 | refine below_set ?_ GE208.out) | exact HB.out)) hb); clear HO211; clear HO214; clear BK208; clear HB; have HO211 := n0_; have HO214 := n1_; have BK208 := n2_; have HB := n3_; clear n0_ n1_ n2_ n3_; (try clear hb); (try clear hb2); (try clear hk); (try clear hi)))
        go_meet
        case rel => exact ⟨_, (true), (by first | rfl | (simp; done) | (simp [*]; done)), H', ⟨by first | omega | exact Nat.le_refl _⟩, ⟨by (with_reducible repeat (first | refine blk_drewN ?_ _ | refine blk_drew ?_ | refine blk_alloc ?_ _)); exact BK208.out⟩, ⟨by repeat (first | (with_reducible first | exact HB.out | apply below_alloc | apply pw_below_drewN | apply below_drew1 | refine below_set ?_ GE208.out) | exact HB.out)⟩⟩
      · rw [if_neg c11] at H
        have c11b0 : decide (2000 < (a2.size : Int)) = false := decide_eq_false c11
        have c11b1 : decide (2000 < a2.size) = false := decide_eq_false (by omega)
        clear c11
        (first | rw [c11b0] | (simp only [i64_w, i32_w]; rw [c11b0]) | skip)
        have H' := Aside0.mk H
        clear H
        have hcz17_0 : w7.cell? ⟨gb208, 0, none⟩ = some (.slice A0_0 l0_0.length c0_0) := (blk_cell BK208.out 0).trans rfl
        have hcz17_1 : w7.cell? ⟨gb208, 1, none⟩ = some (.slice A0_1 l0_1.length c0_1) := (blk_cell BK208.out 1).trans rfl
        have hfz17_0 := blk_frozen BK208.out 0
        have hfz17_1 := blk_frozen BK208.out 1
        go_wp2_with (first | ((with_reducible refine gate_callee (f := 16) rfl ?_); refine goesL_ (some 23) rfl rfl Try.func16 (by kernel_rfl) rfl #[.agg #[.slice A0_0 l0_0.length c0_0, .slice A0_1 l0_1.length c0_1]] rfl (by (try simp only [List.map_toArray, List.map_cons, List.map_nil]); first | done | rfl | (simp only [List.length_drop, List.length_take]; rfl)) ?_; (with_reducible refine (weirkeeperlaw04_Ref.calls k (fun k_ => k_ < w.heap.size) _ _ l0_0 _ _ l0_1 t209 t212 _ ?side1 ?side2 ?side3 A8.out).mono ?_); (case side1 => exact Kd.V_mk HC0_0.out (Kd.F_below (Kd.C_F Kd.heap_string HR0_0.out) (by repeat (first | (with_reducible first | exact HB.out | apply below_alloc | apply pw_below_drewN | apply below_drew1 | refine below_set ?_ GE208.out) | exact HB.out)))); (case side2 => repeat (first | exact (Kd.C_below HR0_1.out HB.out) | (with_reducible refine Kd.C_alloc ?_ _) | (with_reducible refine Kd.C_drewN ?_ _) | (with_reducible refine Kd.C_drew ?_))); (case side3 => exact HC0_1.out); rintro e w18 ⟨v210, v213, rfl, ho0, ho1, hb⟩; refine ⟨_, rfl, ?_⟩; have n0_ := Aside0.mk (Kd.V_lower (Kd.V_mono (ok' := fun k_ => some k_ ≠ (v213 : Value).ownBlock ∧ k_ ≠ gb208) ho0 (fun k_ hk_ => ⟨hk_.2, Or.elim hk_.1 (fun hs_ => fun e_ => Nat.not_le.2 hs_ (by rw [e_]; exact GW208.out)) (fun hn_ => (Kd.freshB (g := gb208) (o := .cells #[.slice A0_0 l0_0.length c0_0, .slice A0_1 l0_1.length c0_1] 25 (0, 0)) (by (with_reducible repeat (first | refine blk_drewN ?_ _ | refine blk_drew ?_ | refine blk_alloc ?_ _)); exact BK208.out) k_ hn_))⟩)) (below_size (by repeat (first | (with_reducible first | exact HB.out | apply below_alloc | apply pw_below_drewN | apply below_drew1 | refine below_set ?_ GE208.out) | exact HB.out)))); have n1_ := Aside0.mk (Kd.R_lower (Kd.R_mono (ok' := fun k_ => True) ho1 (fun _ hk_ => trivial)) (below_size (by repeat (first | (with_reducible first | exact HB.out | apply below_alloc | apply pw_below_drewN | apply below_drew1 | refine below_set ?_ GE208.out) | exact HB.out)))); have n2_ := Aside0.mk (blk_below (g := gb208) (o := .cells #[.slice A0_0 l0_0.length c0_0, .slice A0_1 l0_1.length c0_1] 25 (0, 0)) (by (with_reducible repeat (first | refine blk_drewN ?_ _ | refine blk_drew ?_ | refine blk_alloc ?_ _)); exact BK208.out) hb); have n3_ := Aside0.mk (below_step (by repeat (first | (with_reducible first | exact HB.out | apply below_alloc | apply pw_below_drewN | apply below_drew1 | refine below_set ?_ GE208.out) | exact HB.out)) hb); clear BK208; clear HB; have HO211 := n0_; have HO214 := n1_; have BK208 := n2_; have HB := n3_; clear n0_ n1_ n2_ n3_; (try clear hb); (try clear hb2); (try clear hk); (try clear hi); (try clear ho0); (try clear ho1); obtain ⟨Ao19, co19, eo19⟩ := Kd.V_slice HO211.out; subst eo19; obtain ⟨Ao20, co20, eo20⟩ := Kd.R_slice HO214.out; subst eo20) | ((with_reducible refine gate_callee (f := 15) rfl ?_); refine goesL_ (some 24) rfl rfl Try.func15 (by kernel_rfl) rfl #[.agg #[.slice Ao19 t209.length co19, .slice Ao20 t212.length co20]] rfl (by (try simp only [List.map_toArray, List.map_cons, List.map_nil]); first | done | rfl | (simp only [List.length_drop, List.length_take]; rfl)) ?_; (with_reducible refine (weirkeeperref04_Small.calls _ _ t209 _ _ t212 true _ ?side1 ?side2 ?side3 ?side4 A9.out).mono ?_); (case side1 => repeat (first | exact (Kd.V_reads' HO211.out).2.2 | (with_reducible refine Kd.C_alloc ?_ _) | (with_reducible refine Kd.C_drewN ?_ _) | (with_reducible refine Kd.C_drew ?_))); (case side2 => exact (Kd.V_reads' HO211.out).2.1); (case side3 => repeat (first | exact (Kd.R_reads' HO214.out).2.2 | (with_reducible refine Kd.C_alloc ?_ _) | (with_reducible refine Kd.C_drewN ?_ _) | (with_reducible refine Kd.C_drew ?_))); (case side4 => exact (Kd.R_reads' HO214.out).2.1); rintro e w21 ⟨rfl, hb⟩; refine ⟨_, rfl, ?_⟩; have n0_ := Aside0.mk (Kd.V_below (by (with_reducible repeat (first | apply Kd.V_alloc | apply Kd.V_drewN | apply Kd.V_drew)); exact HO211.out) hb); have n1_ := Aside0.mk (Kd.R_below (by (with_reducible repeat (first | apply Kd.R_alloc | apply Kd.R_drewN | apply Kd.R_drew)); exact HO214.out) hb); have n2_ := Aside0.mk (blk_below (g := gb208) (o := .cells #[.slice A0_0 l0_0.length c0_0, .slice A0_1 l0_1.length c0_1] 25 (0, 0)) (by (with_reducible repeat (first | refine blk_drewN ?_ _ | refine blk_drew ?_ | refine blk_alloc ?_ _)); exact BK208.out) hb); have n3_ := Aside0.mk (below_step (by repeat (first | (with_reducible first | exact HB.out | apply below_alloc | apply pw_below_drewN | apply below_drew1 | refine below_set ?_ GE208.out) | exact HB.out)) hb); clear HO211; clear HO214; clear BK208; clear HB; have HO211 := n0_; have HO214 := n1_; have BK208 := n2_; have HB := n3_; clear n0_ n1_ n2_ n3_; (try clear hb); (try clear hb2); (try clear hk); (try clear hi)))
        go_meet
        case rel => exact ⟨_, (decide ((l4.length : Int) > 30)), (by first | rfl | (simp; done) | (simp [*]; done)), H', ⟨by first | omega | exact Nat.le_refl _⟩, ⟨by (with_reducible repeat (first | refine blk_drewN ?_ _ | refine blk_drew ?_ | refine blk_alloc ?_ _)); exact BK208.out⟩, ⟨by repeat (first | (with_reducible first | exact HB.out | apply below_alloc | apply pw_below_drewN | apply below_drew1 | refine below_set ?_ GE208.out) | exact HB.out)⟩⟩
    · replace c10 := Bool.eq_false_iff.mpr c10
      subst c10
      have H1 : (weirkeeperlaw06_BlockBack.j0 k a1 a2 a3 l4 true l0_0 l0_1) = some true := by rw [if_neg (show ¬ (false = true) by decide)] at H; exact H
      clear H
      have H := H1
      clear H1
      have H' := Aside0.mk H
      clear H
      have hcz22_0 : w7.cell? ⟨gb208, 0, none⟩ = some (.slice A0_0 l0_0.length c0_0) := (blk_cell BK208.out 0).trans rfl
      have hcz22_1 : w7.cell? ⟨gb208, 1, none⟩ = some (.slice A0_1 l0_1.length c0_1) := (blk_cell BK208.out 1).trans rfl
      have hfz22_0 := blk_frozen BK208.out 0
      have hfz22_1 := blk_frozen BK208.out 1
      go_wp2_with (first | ((with_reducible refine gate_callee (f := 16) rfl ?_); refine goesL_ (some 23) rfl rfl Try.func16 (by kernel_rfl) rfl #[.agg #[.slice A0_0 l0_0.length c0_0, .slice A0_1 l0_1.length c0_1]] rfl (by (try simp only [List.map_toArray, List.map_cons, List.map_nil]); first | done | rfl | (simp only [List.length_drop, List.length_take]; rfl)) ?_; (with_reducible refine (weirkeeperlaw04_Ref.calls k (fun k_ => k_ < w.heap.size) _ _ l0_0 _ _ l0_1 t209 t212 _ ?side1 ?side2 ?side3 A8.out).mono ?_); (case side1 => exact Kd.V_mk HC0_0.out (Kd.F_below (Kd.C_F Kd.heap_string HR0_0.out) (by repeat (first | (with_reducible first | exact HB.out | apply below_alloc | apply pw_below_drewN | apply below_drew1 | refine below_set ?_ GE208.out) | exact HB.out)))); (case side2 => repeat (first | exact (Kd.C_below HR0_1.out HB.out) | (with_reducible refine Kd.C_alloc ?_ _) | (with_reducible refine Kd.C_drewN ?_ _) | (with_reducible refine Kd.C_drew ?_))); (case side3 => exact HC0_1.out); rintro e w23 ⟨v210, v213, rfl, ho0, ho1, hb⟩; refine ⟨_, rfl, ?_⟩; have n0_ := Aside0.mk (Kd.V_lower (Kd.V_mono (ok' := fun k_ => some k_ ≠ (v213 : Value).ownBlock ∧ k_ ≠ gb208) ho0 (fun k_ hk_ => ⟨hk_.2, Or.elim hk_.1 (fun hs_ => fun e_ => Nat.not_le.2 hs_ (by rw [e_]; exact GW208.out)) (fun hn_ => (Kd.freshB (g := gb208) (o := .cells #[.slice A0_0 l0_0.length c0_0, .slice A0_1 l0_1.length c0_1] 25 (0, 0)) (by (with_reducible repeat (first | refine blk_drewN ?_ _ | refine blk_drew ?_ | refine blk_alloc ?_ _)); exact BK208.out) k_ hn_))⟩)) (below_size (by repeat (first | (with_reducible first | exact HB.out | apply below_alloc | apply pw_below_drewN | apply below_drew1 | refine below_set ?_ GE208.out) | exact HB.out)))); have n1_ := Aside0.mk (Kd.R_lower (Kd.R_mono (ok' := fun k_ => True) ho1 (fun _ hk_ => trivial)) (below_size (by repeat (first | (with_reducible first | exact HB.out | apply below_alloc | apply pw_below_drewN | apply below_drew1 | refine below_set ?_ GE208.out) | exact HB.out)))); have n2_ := Aside0.mk (blk_below (g := gb208) (o := .cells #[.slice A0_0 l0_0.length c0_0, .slice A0_1 l0_1.length c0_1] 25 (0, 0)) (by (with_reducible repeat (first | refine blk_drewN ?_ _ | refine blk_drew ?_ | refine blk_alloc ?_ _)); exact BK208.out) hb); have n3_ := Aside0.mk (below_step (by repeat (first | (with_reducible first | exact HB.out | apply below_alloc | apply pw_below_drewN | apply below_drew1 | refine below_set ?_ GE208.out) | exact HB.out)) hb); clear BK208; clear HB; have HO211 := n0_; have HO214 := n1_; have BK208 := n2_; have HB := n3_; clear n0_ n1_ n2_ n3_; (try clear hb); (try clear hb2); (try clear hk); (try clear hi); (try clear ho0); (try clear ho1); obtain ⟨Ao24, co24, eo24⟩ := Kd.V_slice HO211.out; subst eo24; obtain ⟨Ao25, co25, eo25⟩ := Kd.R_slice HO214.out; subst eo25) | ((with_reducible refine gate_callee (f := 15) rfl ?_); refine goesL_ (some 24) rfl rfl Try.func15 (by kernel_rfl) rfl #[.agg #[.slice Ao24 t209.length co24, .slice Ao25 t212.length co25]] rfl (by (try simp only [List.map_toArray, List.map_cons, List.map_nil]); first | done | rfl | (simp only [List.length_drop, List.length_take]; rfl)) ?_; (with_reducible refine (weirkeeperref04_Small.calls _ _ t209 _ _ t212 false _ ?side1 ?side2 ?side3 ?side4 A9.out).mono ?_); (case side1 => repeat (first | exact (Kd.V_reads' HO211.out).2.2 | (with_reducible refine Kd.C_alloc ?_ _) | (with_reducible refine Kd.C_drewN ?_ _) | (with_reducible refine Kd.C_drew ?_))); (case side2 => exact (Kd.V_reads' HO211.out).2.1); (case side3 => repeat (first | exact (Kd.R_reads' HO214.out).2.2 | (with_reducible refine Kd.C_alloc ?_ _) | (with_reducible refine Kd.C_drewN ?_ _) | (with_reducible refine Kd.C_drew ?_))); (case side4 => exact (Kd.R_reads' HO214.out).2.1); rintro e w26 ⟨rfl, hb⟩; refine ⟨_, rfl, ?_⟩; have n0_ := Aside0.mk (Kd.V_below (by (with_reducible repeat (first | apply Kd.V_alloc | apply Kd.V_drewN | apply Kd.V_drew)); exact HO211.out) hb); have n1_ := Aside0.mk (Kd.R_below (by (with_reducible repeat (first | apply Kd.R_alloc | apply Kd.R_drewN | apply Kd.R_drew)); exact HO214.out) hb); have n2_ := Aside0.mk (blk_below (g := gb208) (o := .cells #[.slice A0_0 l0_0.length c0_0, .slice A0_1 l0_1.length c0_1] 25 (0, 0)) (by (with_reducible repeat (first | refine blk_drewN ?_ _ | refine blk_drew ?_ | refine blk_alloc ?_ _)); exact BK208.out) hb); have n3_ := Aside0.mk (below_step (by repeat (first | (with_reducible first | exact HB.out | apply below_alloc | apply pw_below_drewN | apply below_drew1 | refine below_set ?_ GE208.out) | exact HB.out)) hb); clear HO211; clear HO214; clear BK208; clear HB; have HO211 := n0_; have HO214 := n1_; have BK208 := n2_; have HB := n3_; clear n0_ n1_ n2_ n3_; (try clear hb); (try clear hb2); (try clear hk); (try clear hi)))
      go_meet
      case rel => exact ⟨_, (true), (by first | rfl | (simp; done) | (simp [*]; done)), H', ⟨by first | omega | exact Nat.le_refl _⟩, ⟨by (with_reducible repeat (first | refine blk_drewN ?_ _ | refine blk_drew ?_ | refine blk_alloc ?_ _)); exact BK208.out⟩, ⟨by repeat (first | (with_reducible first | exact HB.out | apply below_alloc | apply pw_below_drewN | apply below_drew1 | refine below_set ?_ GE208.out) | exact HB.out)⟩⟩
  case rest =>
    clear HC6
    try clear c1
    try clear p2
    try clear c3
    try clear c4
    try clear c10
    try clear c11
    try clear c11b0
    try clear c11b1
    try clear c15
    try clear c16
    try clear hcz12_0
    try clear hcz12_1
    try clear hcz17_0
    try clear hcz17_1
    try clear hcz22_0
    try clear hcz22_1
    try clear hfz12_0
    try clear hfz12_1
    try clear hfz17_0
    try clear hfz17_1
    try clear hfz22_0
    try clear hfz22_1
    obtain ⟨kq, x35_5, rfl, HA, HJ5, BK208, HB⟩ := hcut
    cases kq with
    | zero => exact absurd HA.out (by simp [weirkeeperlaw06_BlockBack.j0])
    | succ kj5 =>
      have H := HA.out
      clear HA
      simp only [weirkeeperlaw06_BlockBack.j0] at H
      by_cases c27 : x35_5 = true
      · subst c27
        have H1 : ((weirkeeperlaw06_awake.f kj5).bind fun t216 => (some t216)) = some true := by rw [if_pos rfl] at H; exact H
        clear H
        have H := H1
        clear H1
        replace H := Option.bind_eq_some_iff.mp H
        obtain ⟨t216, A280, H⟩ := H
        replace H : (some t216) = some true := H
        have A28 := Aside0.mk A280
        clear A280
        (have H9_ := Option.some.inj H; first | subst H9_ | (have h9_ := Aside0.mk H9_; clear H9_))
        go_wp2_with (first | ((with_reducible refine gate_callee (f := 17) rfl ?_); refine goesL_ (some 36) rfl rfl Try.func17 (by kernel_rfl) rfl #[] rfl (by (try simp only [List.map_toArray, List.map_cons, List.map_nil]); first | done | rfl | (simp only [List.length_drop, List.length_take]; rfl)) ?_; (with_reducible refine (weirkeeperlaw06_awake.calls kj5 _ A28.out).mono ?_); rintro e w29 ⟨rfl, hb⟩; refine ⟨_, rfl, ?_⟩; have n0_ := Aside0.mk (blk_below (g := gb208) (o := .cells #[.slice A0_0 l0_0.length c0_0, .slice A0_1 l0_1.length c0_1] 25 (0, 0)) (by (with_reducible repeat (first | refine blk_drewN ?_ _ | refine blk_drew ?_ | refine blk_alloc ?_ _)); exact BK208.out) hb); have n1_ := Aside0.mk (below_step (by repeat (first | (with_reducible first | exact HB.out | apply below_alloc | apply pw_below_drewN | apply below_drew1 | refine below_set ?_ GE208.out) | exact HB.out)) hb); clear BK208; clear HB; have BK208 := n0_; have HB := n1_; clear n0_ n1_; (try clear hb); (try clear hb2); (try clear hk); (try clear hi)))
        go_ret
        exact ⟨by first | rfl | (simp only [h9_.out]; done) | (have h8_ := h9_.out; simp [h8_]; done) | (simp [errW_none, errW_some] <;> rfl) | (simp [*, errW_none, errW_some] <;> rfl), by repeat (first | (with_reducible first | exact HB.out | apply below_alloc | apply pw_below_drewN | apply below_drew1 | refine below_set ?_ GE208.out) | exact HB.out)⟩
      · replace c27 := Bool.eq_false_iff.mpr c27
        subst c27
        have H1 : ((block_Write.f kj5 l0_0 l0_1 a1 a2).bind fun bt217 => (if bt217.2.2 = 0 then ((block_Need.f (a2.size : Int)).bind fun t239 => ((block_Read.f kj5 bt217.1 bt217.2.1 a1 t239).bind fun bt240 => ((disk_Flush.f bt217.1 bt217.2.1).bind fun bt242 => ((block_Read.f kj5 bt242.1 bt242.2 a1 t239).bind fun bt248 => (if bt240.1.toList = a2.toList then (if bt240.2 = 0 then (if bt248.1.toList = a2.toList then (weirkeeperlaw06_BlockBack.j1 kj5 a1 a2 a3 l4 t239 (bt248.2 != 0) bt217.1 bt217.2.1) else (weirkeeperlaw06_BlockBack.j1 kj5 a1 a2 a3 l4 t239 true bt217.1 bt217.2.1)) else (weirkeeperlaw06_BlockBack.j1 kj5 a1 a2 a3 l4 t239 true bt217.1 bt217.2.1)) else (weirkeeperlaw06_BlockBack.j1 kj5 a1 a2 a3 l4 t239 true bt217.1 bt217.2.1)))))) else ((weirkeeperlaw04_Ref.f kj5 bt217.1 bt217.2.1).bind fun bt225 => ((weirkeeperlaw04_Ref.f kj5 l0_0 l0_1).bind fun bt231 => ((weirkeeperref04_Same.f kj5 bt225.1 bt225.2 bt231.1 bt231.2).bind fun t237 => (if t237 = true then ((weirkeeperlaw06_awake.f kj5).bind fun t238 => (some t238)) else (some false))))))) = some true := by rw [if_neg (show ¬ (false = true) by decide)] at H; exact H
        clear H
        have H := H1
        clear H1
        replace H := Option.bind_eq_some_iff.mp H
        obtain ⟨⟨t217, t220, t223⟩, A300, H⟩ := H
        replace H : (if t223 = 0 then ((block_Need.f (a2.size : Int)).bind fun t239 => ((block_Read.f kj5 t217 t220 a1 t239).bind fun bt240 => ((disk_Flush.f t217 t220).bind fun bt242 => ((block_Read.f kj5 bt242.1 bt242.2 a1 t239).bind fun bt248 => (if bt240.1.toList = a2.toList then (if bt240.2 = 0 then (if bt248.1.toList = a2.toList then (weirkeeperlaw06_BlockBack.j1 kj5 a1 a2 a3 l4 t239 (bt248.2 != 0) t217 t220) else (weirkeeperlaw06_BlockBack.j1 kj5 a1 a2 a3 l4 t239 true t217 t220)) else (weirkeeperlaw06_BlockBack.j1 kj5 a1 a2 a3 l4 t239 true t217 t220)) else (weirkeeperlaw06_BlockBack.j1 kj5 a1 a2 a3 l4 t239 true t217 t220)))))) else ((weirkeeperlaw04_Ref.f kj5 t217 t220).bind fun bt225 => ((weirkeeperlaw04_Ref.f kj5 l0_0 l0_1).bind fun bt231 => ((weirkeeperref04_Same.f kj5 bt225.1 bt225.2 bt231.1 bt231.2).bind fun t237 => (if t237 = true then ((weirkeeperlaw06_awake.f kj5).bind fun t238 => (some t238)) else (some false)))))) = some true := H
        have A30 := Aside0.mk A300
        clear A300
        by_cases c31 : t223 = 0
        · rw [if_pos c31] at H
          have c31b0 : (t223 == 0) = true := beq_iff_eq.mpr c31
          have c31b1 : (t223 != 0) = false := bne_eq_false_iff_eq.mpr c31
          clear c31
          replace H := Option.bind_eq_some_iff.mp H
          obtain ⟨t239, A320, H⟩ := H
          replace H : ((block_Read.f kj5 t217 t220 a1 t239).bind fun bt240 => ((disk_Flush.f t217 t220).bind fun bt242 => ((block_Read.f kj5 bt242.1 bt242.2 a1 t239).bind fun bt248 => (if bt240.1.toList = a2.toList then (if bt240.2 = 0 then (if bt248.1.toList = a2.toList then (weirkeeperlaw06_BlockBack.j1 kj5 a1 a2 a3 l4 t239 (bt248.2 != 0) t217 t220) else (weirkeeperlaw06_BlockBack.j1 kj5 a1 a2 a3 l4 t239 true t217 t220)) else (weirkeeperlaw06_BlockBack.j1 kj5 a1 a2 a3 l4 t239 true t217 t220)) else (weirkeeperlaw06_BlockBack.j1 kj5 a1 a2 a3 l4 t239 true t217 t220))))) = some true := H
          have A32 := Aside0.mk A320
          clear A320
          replace H := Option.bind_eq_some_iff.mp H
          obtain ⟨⟨t240, t241⟩, A330, H⟩ := H
          replace H : ((disk_Flush.f t217 t220).bind fun bt242 => ((block_Read.f kj5 bt242.1 bt242.2 a1 t239).bind fun bt248 => (if t240.toList = a2.toList then (if t241 = 0 then (if bt248.1.toList = a2.toList then (weirkeeperlaw06_BlockBack.j1 kj5 a1 a2 a3 l4 t239 (bt248.2 != 0) t217 t220) else (weirkeeperlaw06_BlockBack.j1 kj5 a1 a2 a3 l4 t239 true t217 t220)) else (weirkeeperlaw06_BlockBack.j1 kj5 a1 a2 a3 l4 t239 true t217 t220)) else (weirkeeperlaw06_BlockBack.j1 kj5 a1 a2 a3 l4 t239 true t217 t220)))) = some true := H
          have A33 := Aside0.mk A330
          clear A330
          replace H := Option.bind_eq_some_iff.mp H
          obtain ⟨⟨t242, t245⟩, A340, H⟩ := H
          replace H : ((block_Read.f kj5 t242 t245 a1 t239).bind fun bt248 => (if t240.toList = a2.toList then (if t241 = 0 then (if bt248.1.toList = a2.toList then (weirkeeperlaw06_BlockBack.j1 kj5 a1 a2 a3 l4 t239 (bt248.2 != 0) t217 t220) else (weirkeeperlaw06_BlockBack.j1 kj5 a1 a2 a3 l4 t239 true t217 t220)) else (weirkeeperlaw06_BlockBack.j1 kj5 a1 a2 a3 l4 t239 true t217 t220)) else (weirkeeperlaw06_BlockBack.j1 kj5 a1 a2 a3 l4 t239 true t217 t220))) = some true := H
          have A34 := Aside0.mk A340
          clear A340
          replace H := Option.bind_eq_some_iff.mp H
          obtain ⟨⟨t248, t249⟩, A350, H⟩ := H
          replace H : (if t240.toList = a2.toList then (if t241 = 0 then (if t248.toList = a2.toList then (weirkeeperlaw06_BlockBack.j1 kj5 a1 a2 a3 l4 t239 (t249 != 0) t217 t220) else (weirkeeperlaw06_BlockBack.j1 kj5 a1 a2 a3 l4 t239 true t217 t220)) else (weirkeeperlaw06_BlockBack.j1 kj5 a1 a2 a3 l4 t239 true t217 t220)) else (weirkeeperlaw06_BlockBack.j1 kj5 a1 a2 a3 l4 t239 true t217 t220)) = some true := H
          have A35 := Aside0.mk A350
          clear A350
          have HC36 := Aside0.mk H
          clear H
          have hcz37_0 : wc.cell? ⟨gb208, 0, none⟩ = some (.slice A0_0 l0_0.length c0_0) := (blk_cell BK208.out 0).trans rfl
          have hcz37_1 : wc.cell? ⟨gb208, 1, none⟩ = some (.slice A0_1 l0_1.length c0_1) := (blk_cell BK208.out 1).trans rfl
          have hfz37_0 := blk_frozen BK208.out 0
          have hfz37_1 := blk_frozen BK208.out 1
          go_upto_region 9 with (first | ((with_reducible refine gate_callee (f := 18) rfl ?_); refine goesL_ (some 41) rfl rfl Try.func18 (by kernel_rfl) rfl #[.agg #[.slice A0_0 l0_0.length c0_0, .slice A0_1 l0_1.length c0_1], .int .i64 a1, .string a2] rfl (by (try simp only [List.map_toArray, List.map_cons, List.map_nil]); first | done | rfl | (simp only [List.length_drop, List.length_take]; rfl)) ?_; (with_reducible refine (block_Write.calls kj5 (fun k_ => k_ < w.heap.size) _ _ l0_0 (fun k_ => k_ < w.heap.size) _ _ l0_1 a1 a2 t217 t220 t223 _ ?side1 ?side2 A30.out).mono ?_); (case side1 => exact Kd.V_mk HC0_0.out (Kd.F_below (Kd.C_F Kd.heap_string HR0_0.out) (by repeat (first | (with_reducible first | exact HB.out | apply below_alloc | apply pw_below_drewN | apply below_drew1 | refine below_set ?_ GE208.out) | exact HB.out)))); (case side2 => exact Kd.V_mk HC0_1.out (Kd.F_below (Kd.C_F k76_heap HR0_1.out) (by repeat (first | (with_reducible first | exact HB.out | apply below_alloc | apply pw_below_drewN | apply below_drew1 | refine below_set ?_ GE208.out) | exact HB.out)))); rintro e w38 ⟨v218, v221, rfl, ho0, ho1, hb⟩; refine ⟨_, rfl, ?_⟩; have n0_ := Aside0.mk (Kd.V_lower (Kd.V_mono (ok' := fun k_ => k_ ≠ gb208) ho0 (fun k_ hk_ => Or.elim hk_ (fun hs_ => Or.elim hs_ (fun hs_ => fun e_ => Nat.not_le.2 hs_ (by rw [e_]; exact GW208.out)) (fun hs_ => fun e_ => Nat.not_le.2 hs_ (by rw [e_]; exact GW208.out))) (fun hn_ => (Kd.freshB (g := gb208) (o := .cells #[.slice A0_0 l0_0.length c0_0, .slice A0_1 l0_1.length c0_1] 25 (0, 0)) (by (with_reducible repeat (first | refine blk_drewN ?_ _ | refine blk_drew ?_ | refine blk_alloc ?_ _)); exact BK208.out) k_ hn_)))) (below_size (by repeat (first | (with_reducible first | exact HB.out | apply below_alloc | apply pw_below_drewN | apply below_drew1 | refine below_set ?_ GE208.out) | exact HB.out)))); have n1_ := Aside0.mk (Kd.V_lower (Kd.V_mono (ok' := fun k_ => k_ ≠ gb208) ho1 (fun k_ hk_ => Or.elim hk_ (fun hs_ => Or.elim hs_ (fun hs_ => fun e_ => Nat.not_le.2 hs_ (by rw [e_]; exact GW208.out)) (fun hs_ => fun e_ => Nat.not_le.2 hs_ (by rw [e_]; exact GW208.out))) (fun hn_ => (Kd.freshB (g := gb208) (o := .cells #[.slice A0_0 l0_0.length c0_0, .slice A0_1 l0_1.length c0_1] 25 (0, 0)) (by (with_reducible repeat (first | refine blk_drewN ?_ _ | refine blk_drew ?_ | refine blk_alloc ?_ _)); exact BK208.out) k_ hn_)))) (below_size (by repeat (first | (with_reducible first | exact HB.out | apply below_alloc | apply pw_below_drewN | apply below_drew1 | refine below_set ?_ GE208.out) | exact HB.out)))); have n2_ := Aside0.mk (blk_below (g := gb208) (o := .cells #[.slice A0_0 l0_0.length c0_0, .slice A0_1 l0_1.length c0_1] 25 (0, 0)) (by (with_reducible repeat (first | refine blk_drewN ?_ _ | refine blk_drew ?_ | refine blk_alloc ?_ _)); exact BK208.out) hb); have n3_ := Aside0.mk (below_step (by repeat (first | (with_reducible first | exact HB.out | apply below_alloc | apply pw_below_drewN | apply below_drew1 | refine below_set ?_ GE208.out) | exact HB.out)) hb); clear BK208; clear HB; have HO219 := n0_; have HO222 := n1_; have BK208 := n2_; have HB := n3_; clear n0_ n1_ n2_ n3_; (try clear hb); (try clear hb2); (try clear hk); (try clear hi); (try clear ho0); (try clear ho1)) | ((with_reducible refine gate_dst (N := 11) rfl ?_); (try (refine gate_guard (by rfl) ?_; dsimp only)); refine box_event ?hg (N := 11) ?hd (cs := #[.slice none 0 0, .slice none 0 0]) (t := 25) ?hr ?_; (case hd => rfl); (case hg => rfl); (case hr => first | (go_simp; done) | (go_simp; rfl)); intro gb224 hg w39 hbox hb; have n0_ := Aside0.mk (Kd.V_below (Kd.V_elderB (by (with_reducible repeat (first | apply Kd.V_alloc | apply Kd.V_drewN | apply Kd.V_drew)); exact HO219.out) gb224 (Nat.le_of_eq hg.symm)) hb); have n1_ := Aside0.mk (Kd.V_below (Kd.V_elderB (by (with_reducible repeat (first | apply Kd.V_alloc | apply Kd.V_drewN | apply Kd.V_drew)); exact HO222.out) gb224 (Nat.le_of_eq hg.symm)) hb); have n2_ := Aside0.mk (blk_below (g := gb208) (o := .cells #[.slice A0_0 l0_0.length c0_0, .slice A0_1 l0_1.length c0_1] 25 (0, 0)) (by (with_reducible repeat (first | refine blk_drewN ?_ _ | refine blk_drew ?_ | refine blk_alloc ?_ _)); exact BK208.out) hb); have n3_ := Aside0.mk (below_step (by repeat (first | (with_reducible first | exact HB.out | apply below_alloc | apply pw_below_drewN | apply below_drew1 | refine below_set ?_ GE208.out) | exact HB.out)) hb); have n4_ := Aside0.mk (hbox); have n5_ := Aside0.mk ((by rw [hg]; exact (below_size (by repeat (first | (with_reducible first | exact HB.out | apply below_alloc | apply pw_below_drewN | apply below_drew1 | refine below_set ?_ GE208.out) | exact HB.out))) : w.heap.size ≤ gb224)); have n6_ := Aside0.mk ((by rw [hg]; exact (below_size (by repeat (first | (with_reducible first | exact HB.out | apply below_alloc | apply pw_below_drewN | apply below_drew1 | refine below_set ?_ GE208.out) | exact HB.out))) : w.heap.size ≤ gb224)); have n7_ := Aside0.mk ((by rw [hg]; exact Nat.ne_of_lt (blk_lt (g := gb208) (o := .cells #[.slice A0_0 l0_0.length c0_0, .slice A0_1 l0_1.length c0_1] 25 (0, 0)) (by (with_reducible repeat (first | refine blk_drewN ?_ _ | refine blk_drew ?_ | refine blk_alloc ?_ _)); exact BK208.out)) : gb208 ≠ gb224)); have n8_ := Aside0.mk ((by rw [hg]; exact Nat.ne_of_gt (blk_lt (g := gb208) (o := .cells #[.slice A0_0 l0_0.length c0_0, .slice A0_1 l0_1.length c0_1] 25 (0, 0)) (by (with_reducible repeat (first | refine blk_drewN ?_ _ | refine blk_drew ?_ | refine blk_alloc ?_ _)); exact BK208.out)) : gb224 ≠ gb208)); clear HO219; clear HO222; clear BK208; clear HB; have HO219 := n0_; have HO222 := n1_; have BK208 := n2_; have HB := n3_; have BK224 := n4_; have GW224 := n5_; have GE224 := n6_; have NB208_224 := n7_; have NB224_208 := n8_; clear n0_ n1_ n2_ n3_ n4_ n5_ n6_ n7_ n8_; clear hb hbox hg; obtain ⟨Ao40, co40, eo40⟩ := Kd.V_slice HO219.out; subst eo40; have hnb41 := NB224_208.out; have hnc41 := NB208_224.out; have hcz42_0 : w39.cell? ⟨gb224, 0, none⟩ = some (.slice none 0 0) := (blk_cell BK224.out 0).trans rfl; have hcz42_1 : w39.cell? ⟨gb224, 1, none⟩ = some (.slice none 0 0) := (blk_cell BK224.out 1).trans rfl; have hfz42_0 := blk_frozen BK224.out 0; have hfz42_1 := blk_frozen BK224.out 1; obtain ⟨Ao43, co43, eo43⟩ := Kd.V_slice HO222.out; subst eo43) | ((with_reducible refine gate_callee (f := 20) rfl ?_); refine goesL_ (some 56) rfl rfl Try.func20 (by kernel_rfl) rfl #[.int .i64 (a2.size : Int)] rfl (by (try simp only [List.map_toArray, List.map_cons, List.map_nil]); first | done | rfl | (simp only [List.length_drop, List.length_take]; rfl)) ?_; (with_reducible refine (block_Need.calls (a2.size : Int) t239 _ A32.out).mono ?_); rintro e w' ⟨rfl, ⟨nd, rfl⟩⟩; refine ⟨_, rfl, ?_⟩) | ((with_reducible refine gate_callee (f := 21) rfl ?_); refine goesL_ (some 61) rfl rfl Try.func21 (by kernel_rfl) rfl #[.agg #[.slice Ao40 t217.length co40, .slice Ao43 t220.length co43], .int .i64 a1, .int .i64 t239] rfl (by (try simp only [List.map_toArray, List.map_cons, List.map_nil]); first | done | rfl | (simp only [List.length_drop, List.length_take]; rfl)) ?_; (with_reducible refine (block_Read.calls kj5 _ _ t217 _ _ t220 a1 t239 t240 t241 _ ?side1 ?side2 ?side3 ?side4 A33.out).mono ?_); (case side1 => refine (Kd.V_reads' (e := 9) (base := w.heap.size) (ok := fun k_ => (k_ ≠ gb208 ∧ k_ ≠ gb224)) (n := t217.length) (c := co40) ?_).2.2; exact (by (with_reducible repeat (first | apply Kd.V_alloc | apply Kd.V_drewN | apply Kd.V_drew)); exact (Kd.V_mono (Kd.V_far (p := ⟨gb224, 1, none⟩) (Kd.V_far (p := ⟨gb224, 0, none⟩) (Kd.V_mono HO219.out (fun k_ hk => (⟨hk, hk.2⟩ : _ ∧ k_ ≠ gb224))) (fun _ hk => hk.2) (.slice Ao40 t217.length co40)) (fun _ hk => hk.2) (.slice Ao43 t220.length co43)) (fun _ h_ => h_.1)))); (case side2 => exact (Kd.V_reads' HO219.out).2.1); (case side3 => refine (Kd.V_reads' (e := 76) (base := w.heap.size) (ok := fun k_ => (k_ ≠ gb208 ∧ k_ ≠ gb224)) (n := t220.length) (c := co43) ?_).2.2; exact (by (with_reducible repeat (first | apply Kd.V_alloc | apply Kd.V_drewN | apply Kd.V_drew)); exact (Kd.V_mono (Kd.V_far (p := ⟨gb224, 1, none⟩) (Kd.V_far (p := ⟨gb224, 0, none⟩) (Kd.V_mono HO222.out (fun k_ hk => (⟨hk, hk.2⟩ : _ ∧ k_ ≠ gb224))) (fun _ hk => hk.2) (.slice Ao40 t217.length co40)) (fun _ hk => hk.2) (.slice Ao43 t220.length co43)) (fun _ h_ => h_.1)))); (case side4 => exact (Kd.V_reads' HO222.out).2.1); rintro e w44 ⟨rfl, hb⟩; refine ⟨_, rfl, ?_⟩; have n0_ := Aside0.mk (Kd.V_below (by (with_reducible repeat (first | apply Kd.V_alloc | apply Kd.V_drewN | apply Kd.V_drew)); exact (Kd.V_mono (Kd.V_far (p := ⟨gb224, 1, none⟩) (Kd.V_far (p := ⟨gb224, 0, none⟩) (Kd.V_mono HO219.out (fun k_ hk => (⟨hk, hk.2⟩ : _ ∧ k_ ≠ gb224))) (fun _ hk => hk.2) (.slice Ao40 t217.length co40)) (fun _ hk => hk.2) (.slice Ao43 t220.length co43)) (fun _ h_ => h_.1))) hb); have n1_ := Aside0.mk (Kd.V_below (by (with_reducible repeat (first | apply Kd.V_alloc | apply Kd.V_drewN | apply Kd.V_drew)); exact (Kd.V_mono (Kd.V_far (p := ⟨gb224, 1, none⟩) (Kd.V_far (p := ⟨gb224, 0, none⟩) (Kd.V_mono HO222.out (fun k_ hk => (⟨hk, hk.2⟩ : _ ∧ k_ ≠ gb224))) (fun _ hk => hk.2) (.slice Ao40 t217.length co40)) (fun _ hk => hk.2) (.slice Ao43 t220.length co43)) (fun _ h_ => h_.1))) hb); have n2_ := Aside0.mk (blk_below (g := gb208) (o := .cells #[.slice A0_0 l0_0.length c0_0, .slice A0_1 l0_1.length c0_1] 25 (0, 0)) (by (with_reducible repeat (first | refine blk_drewN ?_ _ | refine blk_drew ?_ | refine blk_alloc ?_ _)); refine blk_far ?_ NB208_224.out _; (with_reducible repeat (first | refine blk_drewN ?_ _ | refine blk_drew ?_ | refine blk_alloc ?_ _)); refine blk_far ?_ NB208_224.out _; (with_reducible repeat (first | refine blk_drewN ?_ _ | refine blk_drew ?_ | refine blk_alloc ?_ _)); exact BK208.out) hb); have n3_ := Aside0.mk (blk_below (g := gb224) (o := .cells #[.slice Ao40 t217.length co40, .slice Ao43 t220.length co43] 25 (0, 0)) (by (with_reducible repeat (first | refine blk_drewN ?_ _ | refine blk_drew ?_ | refine blk_alloc ?_ _)); refine blk_put (cs := #[.slice Ao40 t217.length co40, .slice none 0 0]) ?_ 1 _ rfl; (with_reducible repeat (first | refine blk_drewN ?_ _ | refine blk_drew ?_ | refine blk_alloc ?_ _)); refine blk_put (cs := #[.slice none 0 0, .slice none 0 0]) ?_ 0 _ rfl; (with_reducible repeat (first | refine blk_drewN ?_ _ | refine blk_drew ?_ | refine blk_alloc ?_ _)); exact BK224.out) hb); have n4_ := Aside0.mk (below_step (by repeat (first | (with_reducible first | exact HB.out | apply below_alloc | apply pw_below_drewN | apply below_drew1 | refine below_set ?_ GE208.out | refine below_set ?_ GE224.out) | exact HB.out)) hb); clear HO219; clear HO222; clear BK208; clear BK224; clear HB; have HO219 := n0_; have HO222 := n1_; have BK208 := n2_; have BK224 := n3_; have HB := n4_; clear n0_ n1_ n2_ n3_ n4_; (try clear hb); (try clear hb2); (try clear hk); (try clear hi); have hcz45_0 : w44.cell? ⟨gb224, 0, none⟩ = some (.slice Ao40 t217.length co40) := (blk_cell BK224.out 0).trans rfl; have hcz45_1 : w44.cell? ⟨gb224, 1, none⟩ = some (.slice Ao43 t220.length co43) := (blk_cell BK224.out 1).trans rfl; have hfz45_0 := blk_frozen BK224.out 0; have hfz45_1 := blk_frozen BK224.out 1) | ((with_reducible refine gate_callee (f := 22) rfl ?_); refine goesL_ (some 66) rfl rfl Try.func22 (by kernel_rfl) rfl #[.agg #[.slice Ao40 t217.length co40, .slice Ao43 t220.length co43]] rfl (by (try simp only [List.map_toArray, List.map_cons, List.map_nil]); first | done | rfl | (simp only [List.length_drop, List.length_take]; rfl)) ?_; (with_reducible refine (disk_Flush.calls _ _ t217 _ _ t220 t242 t245 _ ?side1 ?side2 ?side3 ?side4 A34.out).mono ?_); (case side1 => repeat (first | exact (Kd.V_reads' HO219.out).2.2 | (with_reducible refine Kd.C_alloc ?_ _) | (with_reducible refine Kd.C_drewN ?_ _) | (with_reducible refine Kd.C_drew ?_))); (case side2 => exact (Kd.V_reads' HO219.out).2.1); (case side3 => repeat (first | exact (Kd.V_reads' HO222.out).2.2 | (with_reducible refine Kd.C_alloc ?_ _) | (with_reducible refine Kd.C_drewN ?_ _) | (with_reducible refine Kd.C_drew ?_))); (case side4 => exact (Kd.V_reads' HO222.out).2.1); rintro e w46 ⟨v243, v246, rfl, ho0, ho1, hb⟩; refine ⟨_, rfl, ?_⟩; have n0_ := Aside0.mk (Kd.V_mono (Kd.V_told (Kd.V_told (Kd.V_old (by (with_reducible repeat (first | apply Kd.V_alloc | apply Kd.V_drewN | apply Kd.V_drew)); exact HO219.out) hb) (Kd.R_base ho0)) (Kd.R_base ho1)) (fun _ h_ => h_.1)); have n1_ := Aside0.mk (Kd.V_mono (Kd.V_told (Kd.V_told (Kd.V_old (by (with_reducible repeat (first | apply Kd.V_alloc | apply Kd.V_drewN | apply Kd.V_drew)); exact HO222.out) hb) (Kd.R_base ho0)) (Kd.R_base ho1)) (fun _ h_ => h_.1)); have n2_ := Aside0.mk (Kd.R_lower ho0 (below_size (by repeat (first | (with_reducible first | exact HB.out | apply below_alloc | apply pw_below_drewN | apply below_drew1 | refine below_set ?_ GE208.out | refine below_set ?_ GE224.out) | exact HB.out)))); have n3_ := Aside0.mk (Kd.R_lower ho1 (below_size (by repeat (first | (with_reducible first | exact HB.out | apply below_alloc | apply pw_below_drewN | apply below_drew1 | refine below_set ?_ GE208.out | refine below_set ?_ GE224.out) | exact HB.out)))); have n4_ := Aside0.mk (blk_below (g := gb208) (o := .cells #[.slice A0_0 l0_0.length c0_0, .slice A0_1 l0_1.length c0_1] 25 (0, 0)) (by (with_reducible repeat (first | refine blk_drewN ?_ _ | refine blk_drew ?_ | refine blk_alloc ?_ _)); exact BK208.out) hb); have n5_ := Aside0.mk (blk_below (g := gb224) (o := .cells #[.slice Ao40 t217.length co40, .slice Ao43 t220.length co43] 25 (0, 0)) (by (with_reducible repeat (first | refine blk_drewN ?_ _ | refine blk_drew ?_ | refine blk_alloc ?_ _)); exact BK224.out) hb); have n6_ := Aside0.mk (below_step (by repeat (first | (with_reducible first | exact HB.out | apply below_alloc | apply pw_below_drewN | apply below_drew1 | refine below_set ?_ GE208.out | refine below_set ?_ GE224.out) | exact HB.out)) hb); clear HO219; clear HO222; clear BK208; clear BK224; clear HB; have HO219 := n0_; have HO222 := n1_; have HO244 := n2_; have HO247 := n3_; have BK208 := n4_; have BK224 := n5_; have HB := n6_; clear n0_ n1_ n2_ n3_ n4_ n5_ n6_; (try clear hb); (try clear hb2); (try clear hk); (try clear hi); (try clear ho0); (try clear ho1); obtain ⟨Ao47, co47, eo47⟩ := Kd.R_slice HO244.out; subst eo47; obtain ⟨Ao48, co48, eo48⟩ := Kd.R_slice HO247.out; subst eo48) | ((with_reducible refine gate_callee (f := 21) rfl ?_); refine goesL_ (some 69) rfl rfl Try.func21 (by kernel_rfl) rfl #[.agg #[.slice Ao47 t242.length co47, .slice Ao48 t245.length co48], .int .i64 a1, .int .i64 t239] rfl (by (try simp only [List.map_toArray, List.map_cons, List.map_nil]); first | done | rfl | (simp only [List.length_drop, List.length_take]; rfl)) ?_; (with_reducible refine (block_Read.calls kj5 _ _ t242 _ _ t245 a1 t239 t248 t249 _ ?side1 ?side2 ?side3 ?side4 A35.out).mono ?_); (case side1 => repeat (first | exact (Kd.R_reads' HO244.out).2.2 | (with_reducible refine Kd.C_alloc ?_ _) | (with_reducible refine Kd.C_drewN ?_ _) | (with_reducible refine Kd.C_drew ?_))); (case side2 => exact (Kd.R_reads' HO244.out).2.1); (case side3 => repeat (first | exact (Kd.R_reads' HO247.out).2.2 | (with_reducible refine Kd.C_alloc ?_ _) | (with_reducible refine Kd.C_drewN ?_ _) | (with_reducible refine Kd.C_drew ?_))); (case side4 => exact (Kd.R_reads' HO247.out).2.1); rintro e w49 ⟨rfl, hb⟩; refine ⟨_, rfl, ?_⟩; have n0_ := Aside0.mk (Kd.V_below (by (with_reducible repeat (first | apply Kd.V_alloc | apply Kd.V_drewN | apply Kd.V_drew)); exact HO219.out) hb); have n1_ := Aside0.mk (Kd.V_below (by (with_reducible repeat (first | apply Kd.V_alloc | apply Kd.V_drewN | apply Kd.V_drew)); exact HO222.out) hb); have n2_ := Aside0.mk (Kd.R_below (by (with_reducible repeat (first | apply Kd.R_alloc | apply Kd.R_drewN | apply Kd.R_drew)); exact HO244.out) hb); have n3_ := Aside0.mk (Kd.R_below (by (with_reducible repeat (first | apply Kd.R_alloc | apply Kd.R_drewN | apply Kd.R_drew)); exact HO247.out) hb); have n4_ := Aside0.mk (blk_below (g := gb208) (o := .cells #[.slice A0_0 l0_0.length c0_0, .slice A0_1 l0_1.length c0_1] 25 (0, 0)) (by (with_reducible repeat (first | refine blk_drewN ?_ _ | refine blk_drew ?_ | refine blk_alloc ?_ _)); exact BK208.out) hb); have n5_ := Aside0.mk (blk_below (g := gb224) (o := .cells #[.slice Ao40 t217.length co40, .slice Ao43 t220.length co43] 25 (0, 0)) (by (with_reducible repeat (first | refine blk_drewN ?_ _ | refine blk_drew ?_ | refine blk_alloc ?_ _)); exact BK224.out) hb); have n6_ := Aside0.mk (below_step (by repeat (first | (with_reducible first | exact HB.out | apply below_alloc | apply pw_below_drewN | apply below_drew1 | refine below_set ?_ GE208.out | refine below_set ?_ GE224.out) | exact HB.out)) hb); clear HO219; clear HO222; clear HO244; clear HO247; clear BK208; clear BK224; clear HB; have HO219 := n0_; have HO222 := n1_; have HO244 := n2_; have HO247 := n3_; have BK208 := n4_; have BK224 := n5_; have HB := n6_; clear n0_ n1_ n2_ n3_ n4_ n5_ n6_; (try clear hb); (try clear hb2); (try clear hk); (try clear hi)))
          (try simp only [Act.put, List.setIfInBounds_toArray, List.set_cons_zero, List.set_cons_succ])
          go_cut [87] (fun v87 wc => ∃ (kq : Nat) (x87_35 : Bool), v87 = .bool x87_35 ∧ Aside0 (weirkeeperlaw06_BlockBack.j1 kq a1 a2 a3 l4 t239 x87_35 t217 t220 = some true) ∧ Aside0 (kq ≤ kj5) ∧ Aside0 (Kd.V Kd.string 9 wc w.heap.size (fun k_ => k_ ≠ gb208 ∧ k_ ≠ gb224) (.slice Ao40 t217.length co40) t217) ∧ Aside0 (Kd.V k76 76 wc w.heap.size (fun k_ => k_ ≠ gb208 ∧ k_ ≠ gb224) (.slice Ao43 t220.length co43) t220) ∧ Aside0 (wc.heap[gb208]? = some (.cells #[(.slice A0_0 l0_0.length c0_0), (.slice A0_1 l0_1.length c0_1)] 25 (0, 0))) ∧ Aside0 (wc.heap[gb224]? = some (.cells #[(.slice Ao40 t217.length co40), (.slice Ao43 t220.length co43)] 25 (0, 0))) ∧ Aside0 (Below w.heap.size w wc))
          case first =>
            have H := HC36.out
            clear HC36
            by_cases c50 : t240.toList = a2.toList
            · rw [if_pos c50] at H
              have c50b0 : (t240.toList == a2.toList) = true := beq_iff_eq.mpr c50
              have c50b1 : (t240.toList != a2.toList) = false := bne_eq_false_iff_eq.mpr c50
              clear c50
              (first | rw [c50b0] | (simp only [i64_w, i32_w]; rw [c50b0]) | skip)
              by_cases c51 : t241 = 0
              · rw [if_pos c51] at H
                have c51b0 : (t241 == 0) = true := beq_iff_eq.mpr c51
                have c51b1 : (t241 != 0) = false := bne_eq_false_iff_eq.mpr c51
                clear c51
                by_cases c52 : t248.toList = a2.toList
                · rw [if_pos c52] at H
                  have c52b0 : (t248.toList == a2.toList) = true := beq_iff_eq.mpr c52
                  have c52b1 : (t248.toList != a2.toList) = false := bne_eq_false_iff_eq.mpr c52
                  clear c52
                  have H' := Aside0.mk H
                  clear H
                  go_wp2
                  go_meet
                  case rel => exact ⟨_, ((t249 != 0)), (by first | rfl | (simp; done) | (simp [*]; done)), H', ⟨by have := HJ5.out; first | omega | exact Nat.le_refl _⟩, ⟨by (with_reducible repeat (first | apply Kd.V_alloc | apply Kd.V_drewN | apply Kd.V_drew)); exact Kd.V_mono HO219.out (fun _ hk => ⟨hk.1.1.1, hk.1.1.2⟩)⟩, ⟨by (with_reducible repeat (first | apply Kd.V_alloc | apply Kd.V_drewN | apply Kd.V_drew)); exact Kd.V_mono HO222.out (fun _ hk => ⟨hk.1.1.1, hk.1.1.2⟩)⟩, ⟨by (with_reducible repeat (first | refine blk_drewN ?_ _ | refine blk_drew ?_ | refine blk_alloc ?_ _)); exact BK208.out⟩, ⟨by (with_reducible repeat (first | refine blk_drewN ?_ _ | refine blk_drew ?_ | refine blk_alloc ?_ _)); exact BK224.out⟩, ⟨by repeat (first | (with_reducible first | exact HB.out | apply below_alloc | apply pw_below_drewN | apply below_drew1 | refine below_set ?_ GE208.out | refine below_set ?_ GE224.out) | exact HB.out)⟩⟩
                · rw [if_neg c52] at H
                  have c52b0 : (t248.toList == a2.toList) = false := beq_eq_false_iff_ne.mpr c52
                  have c52b1 : (t248.toList != a2.toList) = true := bne_iff_ne.mpr c52
                  have H' := Aside0.mk H
                  clear H
                  go_wp2
                  go_meet
                  case rel => exact ⟨_, (true), (by first | rfl | (simp; done) | (simp [*]; done)), H', ⟨by have := HJ5.out; first | omega | exact Nat.le_refl _⟩, ⟨by (with_reducible repeat (first | apply Kd.V_alloc | apply Kd.V_drewN | apply Kd.V_drew)); exact Kd.V_mono HO219.out (fun _ hk => ⟨hk.1.1.1, hk.1.1.2⟩)⟩, ⟨by (with_reducible repeat (first | apply Kd.V_alloc | apply Kd.V_drewN | apply Kd.V_drew)); exact Kd.V_mono HO222.out (fun _ hk => ⟨hk.1.1.1, hk.1.1.2⟩)⟩, ⟨by (with_reducible repeat (first | refine blk_drewN ?_ _ | refine blk_drew ?_ | refine blk_alloc ?_ _)); exact BK208.out⟩, ⟨by (with_reducible repeat (first | refine blk_drewN ?_ _ | refine blk_drew ?_ | refine blk_alloc ?_ _)); exact BK224.out⟩, ⟨by repeat (first | (with_reducible first | exact HB.out | apply below_alloc | apply pw_below_drewN | apply below_drew1 | refine below_set ?_ GE208.out | refine below_set ?_ GE224.out) | exact HB.out)⟩⟩
              · rw [if_neg c51] at H
                have c51b0 : (t241 == 0) = false := beq_eq_false_iff_ne.mpr c51
                have c51b1 : (t241 != 0) = true := bne_iff_ne.mpr c51
                have H' := Aside0.mk H
                clear H
                go_wp2
                go_meet
                case rel => exact ⟨_, (true), (by first | rfl | (simp; done) | (simp [*]; done)), H', ⟨by have := HJ5.out; first | omega | exact Nat.le_refl _⟩, ⟨by (with_reducible repeat (first | apply Kd.V_alloc | apply Kd.V_drewN | apply Kd.V_drew)); exact Kd.V_mono HO219.out (fun _ hk => ⟨hk.1.1.1, hk.1.1.2⟩)⟩, ⟨by (with_reducible repeat (first | apply Kd.V_alloc | apply Kd.V_drewN | apply Kd.V_drew)); exact Kd.V_mono HO222.out (fun _ hk => ⟨hk.1.1.1, hk.1.1.2⟩)⟩, ⟨by (with_reducible repeat (first | refine blk_drewN ?_ _ | refine blk_drew ?_ | refine blk_alloc ?_ _)); exact BK208.out⟩, ⟨by (with_reducible repeat (first | refine blk_drewN ?_ _ | refine blk_drew ?_ | refine blk_alloc ?_ _)); exact BK224.out⟩, ⟨by repeat (first | (with_reducible first | exact HB.out | apply below_alloc | apply pw_below_drewN | apply below_drew1 | refine below_set ?_ GE208.out | refine below_set ?_ GE224.out) | exact HB.out)⟩⟩
            · rw [if_neg c50] at H
              have c50b0 : (t240.toList == a2.toList) = false := beq_eq_false_iff_ne.mpr c50
              have c50b1 : (t240.toList != a2.toList) = true := bne_iff_ne.mpr c50
              (first | rw [c50b0] | (simp only [i64_w, i32_w]; rw [c50b0]) | skip)
              have H' := Aside0.mk H
              clear H
              go_wp2
              go_meet
              case rel => exact ⟨_, (true), (by first | rfl | (simp; done) | (simp [*]; done)), H', ⟨by have := HJ5.out; first | omega | exact Nat.le_refl _⟩, ⟨by (with_reducible repeat (first | apply Kd.V_alloc | apply Kd.V_drewN | apply Kd.V_drew)); exact Kd.V_mono HO219.out (fun _ hk => ⟨hk.1.1.1, hk.1.1.2⟩)⟩, ⟨by (with_reducible repeat (first | apply Kd.V_alloc | apply Kd.V_drewN | apply Kd.V_drew)); exact Kd.V_mono HO222.out (fun _ hk => ⟨hk.1.1.1, hk.1.1.2⟩)⟩, ⟨by (with_reducible repeat (first | refine blk_drewN ?_ _ | refine blk_drew ?_ | refine blk_alloc ?_ _)); exact BK208.out⟩, ⟨by (with_reducible repeat (first | refine blk_drewN ?_ _ | refine blk_drew ?_ | refine blk_alloc ?_ _)); exact BK224.out⟩, ⟨by repeat (first | (with_reducible first | exact HB.out | apply below_alloc | apply pw_below_drewN | apply below_drew1 | refine below_set ?_ GE208.out | refine below_set ?_ GE224.out) | exact HB.out)⟩⟩
          case rest =>
            clear HC36
            try clear c1
            try clear c2
            try clear p2
            try clear c3
            try clear c4
            try clear c5
            try clear c10
            try clear c11
            try clear c11b0
            try clear c11b1
            try clear c15
            try clear c16
            try clear c17
            try clear c18
            try clear c20
            try clear c21
            try clear c22
            try clear c27
            try clear c31
            try clear c31b0
            try clear c31b1
            try clear c41
            try clear c50
            try clear c50b0
            try clear c50b1
            try clear c51
            try clear c51b0
            try clear c51b1
            try clear c52
            try clear c52b0
            try clear c52b1
            try clear hcz12_0
            try clear hcz12_1
            try clear hcz17_0
            try clear hcz17_1
            try clear hcz22_0
            try clear hcz22_1
            try clear hcz37_0
            try clear hcz37_1
            try clear hcz42_0
            try clear hcz42_1
            try clear hcz45_0
            try clear hcz45_1
            try clear hfz12_0
            try clear hfz12_1
            try clear hfz17_0
            try clear hfz17_1
            try clear hfz22_0
            try clear hfz22_1
            try clear hfz37_0
            try clear hfz37_1
            try clear hfz42_0
            try clear hfz42_1
            try clear hfz45_0
            try clear hfz45_1
            try clear p2
            obtain ⟨kq, x87_35, rfl, HA, HJ35, HO_225000, HO_225001, BK208, BK224, HB⟩ := hcut
            cases kq with
            | zero => exact absurd HA.out (by simp [weirkeeperlaw06_BlockBack.j1])
            | succ kj35 =>
              have H := HA.out
              clear HA
              simp only [weirkeeperlaw06_BlockBack.j1] at H
              by_cases c53 : x87_35 = true
              · subst c53
                have H1 : (some false) = some true := by rw [if_pos rfl] at H; exact H
                clear H
                have H := H1
                clear H1
                exact absurd H (by simp)
              · replace c53 := Bool.eq_false_iff.mpr c53
                subst c53
                have H1 : (if a3 < 0 then (weirkeeperlaw06_BlockBack.j2 kj35 a1 a2 a3 l4 t239 true t217 t220) else (if a3 > 100 then (weirkeeperlaw06_BlockBack.j2 kj35 a1 a2 a3 l4 t239 true t217 t220) else (if (wrap64 (a3 + (l4.length : Int))) > a1 then (weirkeeperlaw06_BlockBack.j2 kj35 a1 a2 a3 l4 t239 (decide (a3 < (wrap64 (a1 + t239)))) t217 t220) else (weirkeeperlaw06_BlockBack.j2 kj35 a1 a2 a3 l4 t239 false t217 t220)))) = some true := by rw [if_neg (show ¬ (false = true) by decide)] at H; exact H
                clear H
                have H := H1
                clear H1
                have HC54 := Aside0.mk H
                clear H
                go_upto_region 11 with (fail)
                go_cut [108] (fun v108 wc => ∃ (kq : Nat) (x108_53 : Bool), v108 = .bool x108_53 ∧ Aside0 (weirkeeperlaw06_BlockBack.j2 kq a1 a2 a3 l4 t239 x108_53 t217 t220 = some true) ∧ Aside0 (kq ≤ kj35) ∧ Aside0 (Kd.V Kd.string 9 wc w.heap.size (fun k_ => k_ ≠ gb208 ∧ k_ ≠ gb224) (.slice Ao40 t217.length co40) t217) ∧ Aside0 (Kd.V k76 76 wc w.heap.size (fun k_ => k_ ≠ gb208 ∧ k_ ≠ gb224) (.slice Ao43 t220.length co43) t220) ∧ Aside0 (wc.heap[gb208]? = some (.cells #[(.slice A0_0 l0_0.length c0_0), (.slice A0_1 l0_1.length c0_1)] 25 (0, 0))) ∧ Aside0 (wc.heap[gb224]? = some (.cells #[(.slice Ao40 t217.length co40), (.slice Ao43 t220.length co43)] 25 (0, 0))) ∧ Aside0 (Below w.heap.size w wc))
                case first =>
                  have H := HC54.out
                  clear HC54
                  by_cases c55 : a3 < 0
                  · rw [if_pos c55] at H
                    have c55b0 : decide (a3 < 0) = true := decide_eq_true c55
                    clear c55
                    (first | rw [c55b0] | (simp only [i64_w, i32_w]; rw [c55b0]) | skip)
                    have H' := Aside0.mk H
                    clear H
                    go_wp2
                    go_meet
                    case rel => exact ⟨_, (true), (by first | rfl | (simp; done) | (simp [*]; done)), H', ⟨by have := HJ5.out; have := HJ35.out; first | omega | exact Nat.le_refl _⟩, ⟨by (with_reducible repeat (first | apply Kd.V_alloc | apply Kd.V_drewN | apply Kd.V_drew)); exact HO_225000.out⟩, ⟨by (with_reducible repeat (first | apply Kd.V_alloc | apply Kd.V_drewN | apply Kd.V_drew)); exact HO_225001.out⟩, ⟨by (with_reducible repeat (first | refine blk_drewN ?_ _ | refine blk_drew ?_ | refine blk_alloc ?_ _)); exact BK208.out⟩, ⟨by (with_reducible repeat (first | refine blk_drewN ?_ _ | refine blk_drew ?_ | refine blk_alloc ?_ _)); exact BK224.out⟩, ⟨by repeat (first | (with_reducible first | exact HB.out | apply below_alloc | apply pw_below_drewN | apply below_drew1 | refine below_set ?_ GE208.out | refine below_set ?_ GE224.out) | exact HB.out)⟩⟩
                  · rw [if_neg c55] at H
                    have c55b0 : decide (a3 < 0) = false := decide_eq_false c55
                    clear c55
                    (first | rw [c55b0] | (simp only [i64_w, i32_w]; rw [c55b0]) | skip)
                    by_cases c56 : a3 > 100
                    · rw [if_pos c56] at H
                      have c56b0 : decide (100 < a3) = true := decide_eq_true c56
                      clear c56
                      have H' := Aside0.mk H
                      clear H
                      go_wp2
                      go_meet
                      case rel => exact ⟨_, (true), (by first | rfl | (simp; done) | (simp [*]; done)), H', ⟨by have := HJ5.out; have := HJ35.out; first | omega | exact Nat.le_refl _⟩, ⟨by (with_reducible repeat (first | apply Kd.V_alloc | apply Kd.V_drewN | apply Kd.V_drew)); exact HO_225000.out⟩, ⟨by (with_reducible repeat (first | apply Kd.V_alloc | apply Kd.V_drewN | apply Kd.V_drew)); exact HO_225001.out⟩, ⟨by (with_reducible repeat (first | refine blk_drewN ?_ _ | refine blk_drew ?_ | refine blk_alloc ?_ _)); exact BK208.out⟩, ⟨by (with_reducible repeat (first | refine blk_drewN ?_ _ | refine blk_drew ?_ | refine blk_alloc ?_ _)); exact BK224.out⟩, ⟨by repeat (first | (with_reducible first | exact HB.out | apply below_alloc | apply pw_below_drewN | apply below_drew1 | refine below_set ?_ GE208.out | refine below_set ?_ GE224.out) | exact HB.out)⟩⟩
                    · rw [if_neg c56] at H
                      have c56b0 : decide (100 < a3) = false := decide_eq_false c56
                      clear c56
                      by_cases c57 : (wrap64 (a3 + (l4.length : Int))) > a1
                      · rw [if_pos c57] at H
                        have c57b0 : decide (a1 < (wrap64 (a3 + (l4.length : Int)))) = true := decide_eq_true c57
                        clear c57
                        have H' := Aside0.mk H
                        clear H
                        go_wp2
                        go_meet
                        case rel => exact ⟨_, (decide (a3 < (wrap64 (a1 + t239)))), (by first | rfl | (simp; done) | (simp [*]; done)), H', ⟨by have := HJ5.out; have := HJ35.out; first | omega | exact Nat.le_refl _⟩, ⟨by (with_reducible repeat (first | apply Kd.V_alloc | apply Kd.V_drewN | apply Kd.V_drew)); exact HO_225000.out⟩, ⟨by (with_reducible repeat (first | apply Kd.V_alloc | apply Kd.V_drewN | apply Kd.V_drew)); exact HO_225001.out⟩, ⟨by (with_reducible repeat (first | refine blk_drewN ?_ _ | refine blk_drew ?_ | refine blk_alloc ?_ _)); exact BK208.out⟩, ⟨by (with_reducible repeat (first | refine blk_drewN ?_ _ | refine blk_drew ?_ | refine blk_alloc ?_ _)); exact BK224.out⟩, ⟨by repeat (first | (with_reducible first | exact HB.out | apply below_alloc | apply pw_below_drewN | apply below_drew1 | refine below_set ?_ GE208.out | refine below_set ?_ GE224.out) | exact HB.out)⟩⟩
                      · rw [if_neg c57] at H
                        have c57b0 : decide (a1 < (wrap64 (a3 + (l4.length : Int)))) = false := decide_eq_false c57
                        clear c57
                        have H' := Aside0.mk H
                        clear H
                        go_wp2
                        go_meet
                        case rel => exact ⟨_, (false), (by first | rfl | (simp; done) | (simp [*]; done)), H', ⟨by have := HJ5.out; have := HJ35.out; first | omega | exact Nat.le_refl _⟩, ⟨by (with_reducible repeat (first | apply Kd.V_alloc | apply Kd.V_drewN | apply Kd.V_drew)); exact HO_225000.out⟩, ⟨by (with_reducible repeat (first | apply Kd.V_alloc | apply Kd.V_drewN | apply Kd.V_drew)); exact HO_225001.out⟩, ⟨by (with_reducible repeat (first | refine blk_drewN ?_ _ | refine blk_drew ?_ | refine blk_alloc ?_ _)); exact BK208.out⟩, ⟨by (with_reducible repeat (first | refine blk_drewN ?_ _ | refine blk_drew ?_ | refine blk_alloc ?_ _)); exact BK224.out⟩, ⟨by repeat (first | (with_reducible first | exact HB.out | apply below_alloc | apply pw_below_drewN | apply below_drew1 | refine below_set ?_ GE208.out | refine below_set ?_ GE224.out) | exact HB.out)⟩⟩
                case rest =>
                  clear HC54
                  try clear c1
                  try clear c2
                  try clear p2
                  try clear c3
                  try clear c4
                  try clear c5
                  try clear p6
                  try clear c10
                  try clear c11
                  try clear c11b0
                  try clear c11b1
                  try clear c15
                  try clear c16
                  try clear c17
                  try clear c18
                  try clear c20
                  try clear c21
                  try clear c22
                  try clear c27
                  try clear c31
                  try clear c31b0
                  try clear c31b1
                  try clear c41
                  try clear c50
                  try clear c50b0
                  try clear c50b1
                  try clear c51
                  try clear c51b0
                  try clear c51b1
                  try clear c52
                  try clear c52b0
                  try clear c52b1
                  try clear c53
                  try clear c55
                  try clear c55b0
                  try clear c56
                  try clear c56b0
                  try clear c57
                  try clear c57b0
                  try clear hcz12_0
                  try clear hcz12_1
                  try clear hcz17_0
                  try clear hcz17_1
                  try clear hcz22_0
                  try clear hcz22_1
                  try clear hcz37_0
                  try clear hcz37_1
                  try clear hcz42_0
                  try clear hcz42_1
                  try clear hcz45_0
                  try clear hcz45_1
                  try clear hfz12_0
                  try clear hfz12_1
                  try clear hfz17_0
                  try clear hfz17_1
                  try clear hfz22_0
                  try clear hfz22_1
                  try clear hfz37_0
                  try clear hfz37_1
                  try clear hfz42_0
                  try clear hfz42_1
                  try clear hfz45_0
                  try clear hfz45_1
                  try clear p2
                  obtain ⟨kq, x108_53, rfl, HA, HJ53, HO_225000, HO_225001, BK208, BK224, HB⟩ := hcut
                  cases kq with
                  | zero => exact absurd HA.out (by simp [weirkeeperlaw06_BlockBack.j2])
                  | succ kj53 =>
                    have H := HA.out
                    clear HA
                    simp only [weirkeeperlaw06_BlockBack.j2] at H
                    by_cases c58 : x108_53 = true
                    · subst c58
                      have H1 : ((weirkeeperlaw06_awake.f kj53).bind fun t250 => (some t250)) = some true := by rw [if_pos rfl] at H; exact H
                      clear H
                      have H := H1
                      clear H1
                      replace H := Option.bind_eq_some_iff.mp H
                      obtain ⟨t250, A590, H⟩ := H
                      replace H : (some t250) = some true := H
                      have A59 := Aside0.mk A590
                      clear A590
                      (have H9_ := Option.some.inj H; first | subst H9_ | (have h9_ := Aside0.mk H9_; clear H9_))
                      go_wp2_with (first | ((with_reducible refine gate_callee (f := 17) rfl ?_); refine goesL_ (some 109) rfl rfl Try.func17 (by kernel_rfl) rfl #[] rfl (by (try simp only [List.map_toArray, List.map_cons, List.map_nil]); first | done | rfl | (simp only [List.length_drop, List.length_take]; rfl)) ?_; (with_reducible refine (weirkeeperlaw06_awake.calls kj53 _ A59.out).mono ?_); rintro e w60 ⟨rfl, hb⟩; refine ⟨_, rfl, ?_⟩; have n0_ := Aside0.mk (Kd.V_below (by (with_reducible repeat (first | apply Kd.V_alloc | apply Kd.V_drewN | apply Kd.V_drew)); exact HO_225000.out) hb); have n1_ := Aside0.mk (Kd.V_below (by (with_reducible repeat (first | apply Kd.V_alloc | apply Kd.V_drewN | apply Kd.V_drew)); exact HO_225001.out) hb); have n2_ := Aside0.mk (blk_below (g := gb208) (o := .cells #[.slice A0_0 l0_0.length c0_0, .slice A0_1 l0_1.length c0_1] 25 (0, 0)) (by (with_reducible repeat (first | refine blk_drewN ?_ _ | refine blk_drew ?_ | refine blk_alloc ?_ _)); exact BK208.out) hb); have n3_ := Aside0.mk (blk_below (g := gb224) (o := .cells #[.slice Ao40 t217.length co40, .slice Ao43 t220.length co43] 25 (0, 0)) (by (with_reducible repeat (first | refine blk_drewN ?_ _ | refine blk_drew ?_ | refine blk_alloc ?_ _)); exact BK224.out) hb); have n4_ := Aside0.mk (below_step (by repeat (first | (with_reducible first | exact HB.out | apply below_alloc | apply pw_below_drewN | apply below_drew1 | refine below_set ?_ GE208.out | refine below_set ?_ GE224.out) | exact HB.out)) hb); clear HO_225000; clear HO_225001; clear BK208; clear BK224; clear HB; have HO_225000 := n0_; have HO_225001 := n1_; have BK208 := n2_; have BK224 := n3_; have HB := n4_; clear n0_ n1_ n2_ n3_ n4_; (try clear hb); (try clear hb2); (try clear hk); (try clear hi)))
                      go_ret
                      exact ⟨by first | rfl | (simp only [h9_.out]; done) | (have h8_ := h9_.out; simp [h8_]; done) | (simp [errW_none, errW_some] <;> rfl) | (simp [*, errW_none, errW_some] <;> rfl), by repeat (first | (with_reducible first | exact HB.out | apply below_alloc | apply pw_below_drewN | apply below_drew1 | refine below_set ?_ GE208.out | refine below_set ?_ GE224.out) | exact HB.out)⟩
                    · replace c58 := Bool.eq_false_iff.mpr c58
                      subst c58
                      have H1 : ((disk_Put.f t217 t220 a3 l4).bind fun bt251 => ((block_Read.f kj53 bt251.1 bt251.2.1 a1 t239).bind fun bt259 => (if bt259.1.toList = a2.toList then (if bt259.2 = 0 then ((weirkeeperlaw06_awake.f kj53).bind fun t261 => (some t261)) else (some false)) else (some false)))) = some true := by rw [if_neg (show ¬ (false = true) by decide)] at H; exact H
                      clear H
                      have H := H1
                      clear H1
                      replace H := Option.bind_eq_some_iff.mp H
                      obtain ⟨⟨t251, t254, t257⟩, A610, H⟩ := H
                      replace H : ((block_Read.f kj53 t251 t254 a1 t239).bind fun bt259 => (if bt259.1.toList = a2.toList then (if bt259.2 = 0 then ((weirkeeperlaw06_awake.f kj53).bind fun t261 => (some t261)) else (some false)) else (some false))) = some true := H
                      have A61 := Aside0.mk A610
                      clear A610
                      replace H := Option.bind_eq_some_iff.mp H
                      obtain ⟨⟨t259, t260⟩, A620, H⟩ := H
                      replace H : (if t259.toList = a2.toList then (if t260 = 0 then ((weirkeeperlaw06_awake.f kj53).bind fun t261 => (some t261)) else (some false)) else (some false)) = some true := H
                      have A62 := Aside0.mk A620
                      clear A620
                      by_cases c63 : t259.toList = a2.toList
                      · rw [if_pos c63] at H
                        have c63b0 : (t259.toList == a2.toList) = true := beq_iff_eq.mpr c63
                        have c63b1 : (t259.toList != a2.toList) = false := bne_eq_false_iff_eq.mpr c63
                        clear c63
                        by_cases c64 : t260 = 0
                        · rw [if_pos c64] at H
                          have c64b0 : (t260 == 0) = true := beq_iff_eq.mpr c64
                          have c64b1 : (t260 != 0) = false := bne_eq_false_iff_eq.mpr c64
                          clear c64
                          replace H := Option.bind_eq_some_iff.mp H
                          obtain ⟨t261, A650, H⟩ := H
                          replace H : (some t261) = some true := H
                          have A65 := Aside0.mk A650
                          clear A650
                          (have H9_ := Option.some.inj H; first | subst H9_ | (have h9_ := Aside0.mk H9_; clear H9_))
                          have hnb66 := NB224_208.out
                          have hnc66 := NB208_224.out
                          have hcz67_0 : wc.cell? ⟨gb224, 0, none⟩ = some (.slice Ao40 t217.length co40) := (blk_cell BK224.out 0).trans rfl
                          have hcz67_1 : wc.cell? ⟨gb224, 1, none⟩ = some (.slice Ao43 t220.length co43) := (blk_cell BK224.out 1).trans rfl
                          have hfz67_0 := blk_frozen BK224.out 0
                          have hfz67_1 := blk_frozen BK224.out 1
                          go_wp2_with (first | ((with_reducible refine gate_callee (f := 23) rfl ?_); refine goesL_ (some 114) rfl rfl Try.func23 (by kernel_rfl) rfl #[.agg #[.slice Ao40 t217.length co40, .slice Ao43 t220.length co43], .int .i64 a3, .slice A4 l4.length c4] rfl (by (try simp only [List.map_toArray, List.map_cons, List.map_nil]); first | done | rfl | (simp only [List.length_drop, List.length_take]; rfl)) ?_; (with_reducible refine (disk_Put.calls _ _ t217 _ _ t220 a3 _ _ l4 t251 t254 t257 _ ?side1 ?side2 ?side3 ?side4 ?side5 ?side6 A61.out).mono ?_); (case side1 => repeat (first | exact (Kd.V_reads' HO_225000.out).2.2 | (with_reducible refine Kd.C_alloc ?_ _) | (with_reducible refine Kd.C_drewN ?_ _) | (with_reducible refine Kd.C_drew ?_))); (case side2 => exact (Kd.V_reads' HO_225000.out).2.1); (case side3 => repeat (first | exact (Kd.V_reads' HO_225001.out).2.2 | (with_reducible refine Kd.C_alloc ?_ _) | (with_reducible refine Kd.C_drewN ?_ _) | (with_reducible refine Kd.C_drew ?_))); (case side4 => exact (Kd.V_reads' HO_225001.out).2.1); (case side5 => repeat (first | exact (Kd.C_below HR4.out HB.out) | (with_reducible refine Kd.C_alloc ?_ _) | (with_reducible refine Kd.C_drewN ?_ _) | (with_reducible refine Kd.C_drew ?_))); (case side6 => exact HC4.out); rintro e w68 ⟨v252, v255, rfl, ho0, ho1, hb⟩; refine ⟨_, rfl, ?_⟩; have n0_ := Aside0.mk (Kd.V_mono (Kd.V_told (Kd.V_told (Kd.V_old (by (with_reducible repeat (first | apply Kd.V_alloc | apply Kd.V_drewN | apply Kd.V_drew)); exact HO_225000.out) hb) (Kd.R_base ho0)) (Kd.R_base ho1)) (fun _ h_ => h_.1)); have n1_ := Aside0.mk (Kd.V_mono (Kd.V_told (Kd.V_told (Kd.V_old (by (with_reducible repeat (first | apply Kd.V_alloc | apply Kd.V_drewN | apply Kd.V_drew)); exact HO_225001.out) hb) (Kd.R_base ho0)) (Kd.R_base ho1)) (fun _ h_ => h_.1)); have n2_ := Aside0.mk (Kd.R_lower ho0 (below_size (by repeat (first | (with_reducible first | exact HB.out | apply below_alloc | apply pw_below_drewN | apply below_drew1 | refine below_set ?_ GE208.out | refine below_set ?_ GE224.out) | exact HB.out)))); have n3_ := Aside0.mk (Kd.R_lower ho1 (below_size (by repeat (first | (with_reducible first | exact HB.out | apply below_alloc | apply pw_below_drewN | apply below_drew1 | refine below_set ?_ GE208.out | refine below_set ?_ GE224.out) | exact HB.out)))); have n4_ := Aside0.mk (blk_below (g := gb208) (o := .cells #[.slice A0_0 l0_0.length c0_0, .slice A0_1 l0_1.length c0_1] 25 (0, 0)) (by (with_reducible repeat (first | refine blk_drewN ?_ _ | refine blk_drew ?_ | refine blk_alloc ?_ _)); exact BK208.out) hb); have n5_ := Aside0.mk (blk_below (g := gb224) (o := .cells #[.slice Ao40 t217.length co40, .slice Ao43 t220.length co43] 25 (0, 0)) (by (with_reducible repeat (first | refine blk_drewN ?_ _ | refine blk_drew ?_ | refine blk_alloc ?_ _)); exact BK224.out) hb); have n6_ := Aside0.mk (below_step (by repeat (first | (with_reducible first | exact HB.out | apply below_alloc | apply pw_below_drewN | apply below_drew1 | refine below_set ?_ GE208.out | refine below_set ?_ GE224.out) | exact HB.out)) hb); clear HO_225000; clear HO_225001; clear BK208; clear BK224; clear HB; have HO_225000 := n0_; have HO_225001 := n1_; have HO253 := n2_; have HO256 := n3_; have BK208 := n4_; have BK224 := n5_; have HB := n6_; clear n0_ n1_ n2_ n3_ n4_ n5_ n6_; (try clear hb); (try clear hb2); (try clear hk); (try clear hi); (try clear ho0); (try clear ho1)) | ((with_reducible refine gate_dst (N := 18) rfl ?_); (try (refine gate_guard (by rfl) ?_; dsimp only)); refine box_event ?hg (N := 18) ?hd (cs := #[.slice none 0 0, .slice none 0 0]) (t := 25) ?hr ?_; (case hd => rfl); (case hg => rfl); (case hr => first | (go_simp; done) | (go_simp; rfl)); intro gb258 hg w69 hbox hb; have n0_ := Aside0.mk (Kd.V_below (Kd.V_elderB (by (with_reducible repeat (first | apply Kd.V_alloc | apply Kd.V_drewN | apply Kd.V_drew)); exact HO_225000.out) gb258 (Nat.le_of_eq hg.symm)) hb); have n1_ := Aside0.mk (Kd.V_below (Kd.V_elderB (by (with_reducible repeat (first | apply Kd.V_alloc | apply Kd.V_drewN | apply Kd.V_drew)); exact HO_225001.out) gb258 (Nat.le_of_eq hg.symm)) hb); have n2_ := Aside0.mk (Kd.R_below (by (with_reducible repeat (first | apply Kd.R_alloc | apply Kd.R_drewN | apply Kd.R_drew)); exact HO253.out) hb); have n3_ := Aside0.mk (Kd.R_below (by (with_reducible repeat (first | apply Kd.R_alloc | apply Kd.R_drewN | apply Kd.R_drew)); exact HO256.out) hb); have n4_ := Aside0.mk (blk_below (g := gb208) (o := .cells #[.slice A0_0 l0_0.length c0_0, .slice A0_1 l0_1.length c0_1] 25 (0, 0)) (by (with_reducible repeat (first | refine blk_drewN ?_ _ | refine blk_drew ?_ | refine blk_alloc ?_ _)); exact BK208.out) hb); have n5_ := Aside0.mk (blk_below (g := gb224) (o := .cells #[.slice Ao40 t217.length co40, .slice Ao43 t220.length co43] 25 (0, 0)) (by (with_reducible repeat (first | refine blk_drewN ?_ _ | refine blk_drew ?_ | refine blk_alloc ?_ _)); exact BK224.out) hb); have n6_ := Aside0.mk (below_step (by repeat (first | (with_reducible first | exact HB.out | apply below_alloc | apply pw_below_drewN | apply below_drew1 | refine below_set ?_ GE208.out | refine below_set ?_ GE224.out) | exact HB.out)) hb); have n7_ := Aside0.mk (hbox); have n8_ := Aside0.mk ((by rw [hg]; exact (below_size (by repeat (first | (with_reducible first | exact HB.out | apply below_alloc | apply pw_below_drewN | apply below_drew1 | refine below_set ?_ GE208.out | refine below_set ?_ GE224.out) | exact HB.out))) : w.heap.size ≤ gb258)); have n9_ := Aside0.mk ((by rw [hg]; exact (below_size (by repeat (first | (with_reducible first | exact HB.out | apply below_alloc | apply pw_below_drewN | apply below_drew1 | refine below_set ?_ GE208.out | refine below_set ?_ GE224.out) | exact HB.out))) : w.heap.size ≤ gb258)); have n10_ := Aside0.mk ((by rw [hg]; exact Nat.ne_of_lt (blk_lt (g := gb208) (o := .cells #[.slice A0_0 l0_0.length c0_0, .slice A0_1 l0_1.length c0_1] 25 (0, 0)) (by (with_reducible repeat (first | refine blk_drewN ?_ _ | refine blk_drew ?_ | refine blk_alloc ?_ _)); exact BK208.out)) : gb208 ≠ gb258)); have n11_ := Aside0.mk ((by rw [hg]; exact Nat.ne_of_gt (blk_lt (g := gb208) (o := .cells #[.slice A0_0 l0_0.length c0_0, .slice A0_1 l0_1.length c0_1] 25 (0, 0)) (by (with_reducible repeat (first | refine blk_drewN ?_ _ | refine blk_drew ?_ | refine blk_alloc ?_ _)); exact BK208.out)) : gb258 ≠ gb208)); have n12_ := Aside0.mk ((by rw [hg]; exact Nat.ne_of_lt (blk_lt (g := gb224) (o := .cells #[.slice Ao40 t217.length co40, .slice Ao43 t220.length co43] 25 (0, 0)) (by (with_reducible repeat (first | refine blk_drewN ?_ _ | refine blk_drew ?_ | refine blk_alloc ?_ _)); exact BK224.out)) : gb224 ≠ gb258)); have n13_ := Aside0.mk ((by rw [hg]; exact Nat.ne_of_gt (blk_lt (g := gb224) (o := .cells #[.slice Ao40 t217.length co40, .slice Ao43 t220.length co43] 25 (0, 0)) (by (with_reducible repeat (first | refine blk_drewN ?_ _ | refine blk_drew ?_ | refine blk_alloc ?_ _)); exact BK224.out)) : gb258 ≠ gb224)); clear HO_225000; clear HO_225001; clear HO253; clear HO256; clear BK208; clear BK224; clear HB; have HO_225000 := n0_; have HO_225001 := n1_; have HO253 := n2_; have HO256 := n3_; have BK208 := n4_; have BK224 := n5_; have HB := n6_; have BK258 := n7_; have GW258 := n8_; have GE258 := n9_; have NB208_258 := n10_; have NB258_208 := n11_; have NB224_258 := n12_; have NB258_224 := n13_; clear n0_ n1_ n2_ n3_ n4_ n5_ n6_ n7_ n8_ n9_ n10_ n11_ n12_ n13_; clear hb hbox hg; obtain ⟨Ao70, co70, eo70⟩ := Kd.R_slice HO253.out; subst eo70; have hnb71 := NB258_208.out; have hnc71 := NB208_258.out; have hnb72 := NB258_224.out; have hnc72 := NB224_258.out; have hcz73_0 : w69.cell? ⟨gb258, 0, none⟩ = some (.slice none 0 0) := (blk_cell BK258.out 0).trans rfl; have hcz73_1 : w69.cell? ⟨gb258, 1, none⟩ = some (.slice none 0 0) := (blk_cell BK258.out 1).trans rfl; have hfz73_0 := blk_frozen BK258.out 0; have hfz73_1 := blk_frozen BK258.out 1; obtain ⟨Ao74, co74, eo74⟩ := Kd.R_slice HO256.out; subst eo74) | ((with_reducible refine gate_callee (f := 21) rfl ?_); refine goesL_ (some 121) rfl rfl Try.func21 (by kernel_rfl) rfl #[.agg #[.slice Ao70 t251.length co70, .slice Ao74 t254.length co74], .int .i64 a1, .int .i64 t239] rfl (by (try simp only [List.map_toArray, List.map_cons, List.map_nil]); first | done | rfl | (simp only [List.length_drop, List.length_take]; rfl)) ?_; (with_reducible refine (block_Read.calls kj53 _ _ t251 _ _ t254 a1 t239 t259 t260 _ ?side1 ?side2 ?side3 ?side4 A62.out).mono ?_); (case side1 => refine (Kd.R_reads' (e := 9) (base := w.heap.size) (ok := fun k_ => True) (n := t251.length) (c := co70) ?_).2.2; exact (by (with_reducible repeat (first | apply Kd.R_alloc | apply Kd.R_drewN | apply Kd.R_drew)); exact (Kd.R_mono (Kd.R_far (p := ⟨gb258, 1, none⟩) (Kd.R_far (p := ⟨gb258, 0, none⟩) (Kd.R_types HO253.out BK258.out (by decide)) (fun _ hk => hk.2) (.slice Ao70 t251.length co70)) (fun _ hk => hk.2) (.slice Ao74 t254.length co74)) (fun _ h_ => h_.1)))); (case side2 => exact (Kd.R_reads' HO253.out).2.1); (case side3 => refine (Kd.R_reads' (e := 76) (base := w.heap.size) (ok := fun k_ => True) (n := t254.length) (c := co74) ?_).2.2; exact (by (with_reducible repeat (first | apply Kd.R_alloc | apply Kd.R_drewN | apply Kd.R_drew)); exact (Kd.R_mono (Kd.R_far (p := ⟨gb258, 1, none⟩) (Kd.R_far (p := ⟨gb258, 0, none⟩) (Kd.R_types HO256.out BK258.out (by decide)) (fun _ hk => hk.2) (.slice Ao70 t251.length co70)) (fun _ hk => hk.2) (.slice Ao74 t254.length co74)) (fun _ h_ => h_.1)))); (case side4 => exact (Kd.R_reads' HO256.out).2.1); rintro e w75 ⟨rfl, hb⟩; refine ⟨_, rfl, ?_⟩; have n0_ := Aside0.mk (Kd.V_below (by (with_reducible repeat (first | apply Kd.V_alloc | apply Kd.V_drewN | apply Kd.V_drew)); exact (Kd.V_mono (Kd.V_far (p := ⟨gb258, 1, none⟩) (Kd.V_far (p := ⟨gb258, 0, none⟩) (Kd.V_mono HO_225000.out (fun k_ hk => (⟨hk, hk.2⟩ : _ ∧ k_ ≠ gb258))) (fun _ hk => hk.2) (.slice Ao70 t251.length co70)) (fun _ hk => hk.2) (.slice Ao74 t254.length co74)) (fun _ h_ => h_.1))) hb); have n1_ := Aside0.mk (Kd.V_below (by (with_reducible repeat (first | apply Kd.V_alloc | apply Kd.V_drewN | apply Kd.V_drew)); exact (Kd.V_mono (Kd.V_far (p := ⟨gb258, 1, none⟩) (Kd.V_far (p := ⟨gb258, 0, none⟩) (Kd.V_mono HO_225001.out (fun k_ hk => (⟨hk, hk.2⟩ : _ ∧ k_ ≠ gb258))) (fun _ hk => hk.2) (.slice Ao70 t251.length co70)) (fun _ hk => hk.2) (.slice Ao74 t254.length co74)) (fun _ h_ => h_.1))) hb); have n2_ := Aside0.mk (Kd.R_below (by (with_reducible repeat (first | apply Kd.R_alloc | apply Kd.R_drewN | apply Kd.R_drew)); exact (Kd.R_mono (Kd.R_far (p := ⟨gb258, 1, none⟩) (Kd.R_far (p := ⟨gb258, 0, none⟩) (Kd.R_types HO253.out BK258.out (by decide)) (fun _ hk => hk.2) (.slice Ao70 t251.length co70)) (fun _ hk => hk.2) (.slice Ao74 t254.length co74)) (fun _ h_ => h_.1))) hb); have n3_ := Aside0.mk (Kd.R_below (by (with_reducible repeat (first | apply Kd.R_alloc | apply Kd.R_drewN | apply Kd.R_drew)); exact (Kd.R_mono (Kd.R_far (p := ⟨gb258, 1, none⟩) (Kd.R_far (p := ⟨gb258, 0, none⟩) (Kd.R_types HO256.out BK258.out (by decide)) (fun _ hk => hk.2) (.slice Ao70 t251.length co70)) (fun _ hk => hk.2) (.slice Ao74 t254.length co74)) (fun _ h_ => h_.1))) hb); have n4_ := Aside0.mk (blk_below (g := gb208) (o := .cells #[.slice A0_0 l0_0.length c0_0, .slice A0_1 l0_1.length c0_1] 25 (0, 0)) (by (with_reducible repeat (first | refine blk_drewN ?_ _ | refine blk_drew ?_ | refine blk_alloc ?_ _)); refine blk_far ?_ NB208_258.out _; (with_reducible repeat (first | refine blk_drewN ?_ _ | refine blk_drew ?_ | refine blk_alloc ?_ _)); refine blk_far ?_ NB208_258.out _; (with_reducible repeat (first | refine blk_drewN ?_ _ | refine blk_drew ?_ | refine blk_alloc ?_ _)); exact BK208.out) hb); have n5_ := Aside0.mk (blk_below (g := gb224) (o := .cells #[.slice Ao40 t217.length co40, .slice Ao43 t220.length co43] 25 (0, 0)) (by (with_reducible repeat (first | refine blk_drewN ?_ _ | refine blk_drew ?_ | refine blk_alloc ?_ _)); refine blk_far ?_ NB224_258.out _; (with_reducible repeat (first | refine blk_drewN ?_ _ | refine blk_drew ?_ | refine blk_alloc ?_ _)); refine blk_far ?_ NB224_258.out _; (with_reducible repeat (first | refine blk_drewN ?_ _ | refine blk_drew ?_ | refine blk_alloc ?_ _)); exact BK224.out) hb); have n6_ := Aside0.mk (blk_below (g := gb258) (o := .cells #[.slice Ao70 t251.length co70, .slice Ao74 t254.length co74] 25 (0, 0)) (by (with_reducible repeat (first | refine blk_drewN ?_ _ | refine blk_drew ?_ | refine blk_alloc ?_ _)); refine blk_put (cs := #[.slice Ao70 t251.length co70, .slice none 0 0]) ?_ 1 _ rfl; (with_reducible repeat (first | refine blk_drewN ?_ _ | refine blk_drew ?_ | refine blk_alloc ?_ _)); refine blk_put (cs := #[.slice none 0 0, .slice none 0 0]) ?_ 0 _ rfl; (with_reducible repeat (first | refine blk_drewN ?_ _ | refine blk_drew ?_ | refine blk_alloc ?_ _)); exact BK258.out) hb); have n7_ := Aside0.mk (below_step (by repeat (first | (with_reducible first | exact HB.out | apply below_alloc | apply pw_below_drewN | apply below_drew1 | refine below_set ?_ GE208.out | refine below_set ?_ GE224.out | refine below_set ?_ GE258.out) | exact HB.out)) hb); clear HO_225000; clear HO_225001; clear HO253; clear HO256; clear BK208; clear BK224; clear BK258; clear HB; have HO_225000 := n0_; have HO_225001 := n1_; have HO253 := n2_; have HO256 := n3_; have BK208 := n4_; have BK224 := n5_; have BK258 := n6_; have HB := n7_; clear n0_ n1_ n2_ n3_ n4_ n5_ n6_ n7_; (try clear hb); (try clear hb2); (try clear hk); (try clear hi)) | (go_at_call 17; (with_reducible refine (weirkeeperlaw06_awake.calls kj53 _ A65.out).mono ?_); rintro e w76 ⟨rfl, hb⟩; have n0_ := Aside0.mk (Kd.V_below (by (with_reducible repeat (first | apply Kd.V_alloc | apply Kd.V_drewN | apply Kd.V_drew)); exact HO_225000.out) hb); have n1_ := Aside0.mk (Kd.V_below (by (with_reducible repeat (first | apply Kd.V_alloc | apply Kd.V_drewN | apply Kd.V_drew)); exact HO_225001.out) hb); have n2_ := Aside0.mk (Kd.R_below (by (with_reducible repeat (first | apply Kd.R_alloc | apply Kd.R_drewN | apply Kd.R_drew)); exact HO253.out) hb); have n3_ := Aside0.mk (Kd.R_below (by (with_reducible repeat (first | apply Kd.R_alloc | apply Kd.R_drewN | apply Kd.R_drew)); exact HO256.out) hb); have n4_ := Aside0.mk (blk_below (g := gb208) (o := .cells #[.slice A0_0 l0_0.length c0_0, .slice A0_1 l0_1.length c0_1] 25 (0, 0)) (by (with_reducible repeat (first | refine blk_drewN ?_ _ | refine blk_drew ?_ | refine blk_alloc ?_ _)); exact BK208.out) hb); have n5_ := Aside0.mk (blk_below (g := gb224) (o := .cells #[.slice Ao40 t217.length co40, .slice Ao43 t220.length co43] 25 (0, 0)) (by (with_reducible repeat (first | refine blk_drewN ?_ _ | refine blk_drew ?_ | refine blk_alloc ?_ _)); exact BK224.out) hb); have n6_ := Aside0.mk (blk_below (g := gb258) (o := .cells #[.slice Ao70 t251.length co70, .slice Ao74 t254.length co74] 25 (0, 0)) (by (with_reducible repeat (first | refine blk_drewN ?_ _ | refine blk_drew ?_ | refine blk_alloc ?_ _)); exact BK258.out) hb); have n7_ := Aside0.mk (below_step (by repeat (first | (with_reducible first | exact HB.out | apply below_alloc | apply pw_below_drewN | apply below_drew1 | refine below_set ?_ GE208.out | refine below_set ?_ GE224.out | refine below_set ?_ GE258.out) | exact HB.out)) hb); clear HO_225000; clear HO_225001; clear HO253; clear HO256; clear BK208; clear BK224; clear BK258; clear HB; have HO_225000 := n0_; have HO_225001 := n1_; have HO253 := n2_; have HO256 := n3_; have BK208 := n4_; have BK224 := n5_; have BK258 := n6_; have HB := n7_; clear n0_ n1_ n2_ n3_ n4_ n5_ n6_ n7_; (try clear hb); (try clear hb2); (try clear hk); (try clear hi)))
                          go_ret
                          exact ⟨by first | rfl | (simp only [h9_.out]; done) | (have h8_ := h9_.out; simp [h8_]; done) | (simp [errW_none, errW_some] <;> rfl) | (simp [*, errW_none, errW_some] <;> rfl), by repeat (first | (with_reducible first | exact HB.out | apply below_alloc | apply pw_below_drewN | apply below_drew1 | refine below_set ?_ GE208.out | refine below_set ?_ GE224.out | refine below_set ?_ GE258.out) | exact HB.out)⟩
                        · rw [if_neg c64] at H
                          have c64b0 : (t260 == 0) = false := beq_eq_false_iff_ne.mpr c64
                          have c64b1 : (t260 != 0) = true := bne_iff_ne.mpr c64
                          exact absurd H (by simp)
                      · rw [if_neg c63] at H
                        have c63b0 : (t259.toList == a2.toList) = false := beq_eq_false_iff_ne.mpr c63
                        have c63b1 : (t259.toList != a2.toList) = true := bne_iff_ne.mpr c63
                        exact absurd H (by simp)
        · rw [if_neg c31] at H
          have c31b0 : (t223 == 0) = false := beq_eq_false_iff_ne.mpr c31
          have c31b1 : (t223 != 0) = true := bne_iff_ne.mpr c31
          replace H := Option.bind_eq_some_iff.mp H
          obtain ⟨⟨t225, t228⟩, A770, H⟩ := H
          replace H : ((weirkeeperlaw04_Ref.f kj5 l0_0 l0_1).bind fun bt231 => ((weirkeeperref04_Same.f kj5 t225 t228 bt231.1 bt231.2).bind fun t237 => (if t237 = true then ((weirkeeperlaw06_awake.f kj5).bind fun t238 => (some t238)) else (some false)))) = some true := H
          have A77 := Aside0.mk A770
          clear A770
          replace H := Option.bind_eq_some_iff.mp H
          obtain ⟨⟨t231, t234⟩, A780, H⟩ := H
          replace H : ((weirkeeperref04_Same.f kj5 t225 t228 t231 t234).bind fun t237 => (if t237 = true then ((weirkeeperlaw06_awake.f kj5).bind fun t238 => (some t238)) else (some false))) = some true := H
          have A78 := Aside0.mk A780
          clear A780
          replace H := Option.bind_eq_some_iff.mp H
          obtain ⟨t237, A790, H⟩ := H
          replace H : (if t237 = true then ((weirkeeperlaw06_awake.f kj5).bind fun t238 => (some t238)) else (some false)) = some true := H
          have A79 := Aside0.mk A790
          clear A790
          by_cases c80 : t237 = true
          · subst c80
            have H1 : ((weirkeeperlaw06_awake.f kj5).bind fun t238 => (some t238)) = some true := by rw [if_pos rfl] at H; exact H
            clear H
            have H := H1
            clear H1
            replace H := Option.bind_eq_some_iff.mp H
            obtain ⟨t238, A810, H⟩ := H
            replace H : (some t238) = some true := H
            have A81 := Aside0.mk A810
            clear A810
            (have H9_ := Option.some.inj H; first | subst H9_ | (have h9_ := Aside0.mk H9_; clear H9_))
            have hcz82_0 : wc.cell? ⟨gb208, 0, none⟩ = some (.slice A0_0 l0_0.length c0_0) := (blk_cell BK208.out 0).trans rfl
            have hcz82_1 : wc.cell? ⟨gb208, 1, none⟩ = some (.slice A0_1 l0_1.length c0_1) := (blk_cell BK208.out 1).trans rfl
            have hfz82_0 := blk_frozen BK208.out 0
            have hfz82_1 := blk_frozen BK208.out 1
            try go_wp2_with (first | ((with_reducible refine gate_callee (f := 18) rfl ?_); refine goesL_ (some 41) rfl rfl Try.func18 (by kernel_rfl) rfl #[.agg #[.slice A0_0 l0_0.length c0_0, .slice A0_1 l0_1.length c0_1], .int .i64 a1, .string a2] rfl (by (try simp only [List.map_toArray, List.map_cons, List.map_nil]); first | done | rfl | (simp only [List.length_drop, List.length_take]; rfl)) ?_; (with_reducible refine (block_Write.calls kj5 (fun k_ => k_ < w.heap.size) _ _ l0_0 (fun k_ => k_ < w.heap.size) _ _ l0_1 a1 a2 t217 t220 t223 _ ?side1 ?side2 A30.out).mono ?_); (case side1 => exact Kd.V_mk HC0_0.out (Kd.F_below (Kd.C_F Kd.heap_string HR0_0.out) (by repeat (first | (with_reducible first | exact HB.out | apply below_alloc | apply pw_below_drewN | apply below_drew1 | refine below_set ?_ GE208.out) | exact HB.out)))); (case side2 => exact Kd.V_mk HC0_1.out (Kd.F_below (Kd.C_F k76_heap HR0_1.out) (by repeat (first | (with_reducible first | exact HB.out | apply below_alloc | apply pw_below_drewN | apply below_drew1 | refine below_set ?_ GE208.out) | exact HB.out)))); rintro e w83 ⟨v218, v221, rfl, ho0, ho1, hb⟩; refine ⟨_, rfl, ?_⟩; have n0_ := Aside0.mk (Kd.V_lower (Kd.V_mono (ok' := fun k_ => k_ ≠ gb208) ho0 (fun k_ hk_ => Or.elim hk_ (fun hs_ => Or.elim hs_ (fun hs_ => fun e_ => Nat.not_le.2 hs_ (by rw [e_]; exact GW208.out)) (fun hs_ => fun e_ => Nat.not_le.2 hs_ (by rw [e_]; exact GW208.out))) (fun hn_ => (Kd.freshB (g := gb208) (o := .cells #[.slice A0_0 l0_0.length c0_0, .slice A0_1 l0_1.length c0_1] 25 (0, 0)) (by (with_reducible repeat (first | refine blk_drewN ?_ _ | refine blk_drew ?_ | refine blk_alloc ?_ _)); exact BK208.out) k_ hn_)))) (below_size (by repeat (first | (with_reducible first | exact HB.out | apply below_alloc | apply pw_below_drewN | apply below_drew1 | refine below_set ?_ GE208.out) | exact HB.out)))); have n1_ := Aside0.mk (Kd.V_lower (Kd.V_mono (ok' := fun k_ => k_ ≠ gb208) ho1 (fun k_ hk_ => Or.elim hk_ (fun hs_ => Or.elim hs_ (fun hs_ => fun e_ => Nat.not_le.2 hs_ (by rw [e_]; exact GW208.out)) (fun hs_ => fun e_ => Nat.not_le.2 hs_ (by rw [e_]; exact GW208.out))) (fun hn_ => (Kd.freshB (g := gb208) (o := .cells #[.slice A0_0 l0_0.length c0_0, .slice A0_1 l0_1.length c0_1] 25 (0, 0)) (by (with_reducible repeat (first | refine blk_drewN ?_ _ | refine blk_drew ?_ | refine blk_alloc ?_ _)); exact BK208.out) k_ hn_)))) (below_size (by repeat (first | (with_reducible first | exact HB.out | apply below_alloc | apply pw_below_drewN | apply below_drew1 | refine below_set ?_ GE208.out) | exact HB.out)))); have n2_ := Aside0.mk (blk_below (g := gb208) (o := .cells #[.slice A0_0 l0_0.length c0_0, .slice A0_1 l0_1.length c0_1] 25 (0, 0)) (by (with_reducible repeat (first | refine blk_drewN ?_ _ | refine blk_drew ?_ | refine blk_alloc ?_ _)); exact BK208.out) hb); have n3_ := Aside0.mk (below_step (by repeat (first | (with_reducible first | exact HB.out | apply below_alloc | apply pw_below_drewN | apply below_drew1 | refine below_set ?_ GE208.out) | exact HB.out)) hb); clear BK208; clear HB; have HO219 := n0_; have HO222 := n1_; have BK208 := n2_; have HB := n3_; clear n0_ n1_ n2_ n3_; (try clear hb); (try clear hb2); (try clear hk); (try clear hi); (try clear ho0); (try clear ho1)) | ((with_reducible refine gate_dst (N := 11) rfl ?_); (try (refine gate_guard (by rfl) ?_; dsimp only)); refine box_event ?hg (N := 11) ?hd (cs := #[.slice none 0 0, .slice none 0 0]) (t := 25) ?hr ?_; (case hd => rfl); (case hg => rfl); (case hr => first | (go_simp; done) | (go_simp; rfl)); intro gb224 hg w84 hbox hb; have n0_ := Aside0.mk (Kd.V_below (Kd.V_elderB (by (with_reducible repeat (first | apply Kd.V_alloc | apply Kd.V_drewN | apply Kd.V_drew)); exact HO219.out) gb224 (Nat.le_of_eq hg.symm)) hb); have n1_ := Aside0.mk (Kd.V_below (Kd.V_elderB (by (with_reducible repeat (first | apply Kd.V_alloc | apply Kd.V_drewN | apply Kd.V_drew)); exact HO222.out) gb224 (Nat.le_of_eq hg.symm)) hb); have n2_ := Aside0.mk (blk_below (g := gb208) (o := .cells #[.slice A0_0 l0_0.length c0_0, .slice A0_1 l0_1.length c0_1] 25 (0, 0)) (by (with_reducible repeat (first | refine blk_drewN ?_ _ | refine blk_drew ?_ | refine blk_alloc ?_ _)); exact BK208.out) hb); have n3_ := Aside0.mk (below_step (by repeat (first | (with_reducible first | exact HB.out | apply below_alloc | apply pw_below_drewN | apply below_drew1 | refine below_set ?_ GE208.out) | exact HB.out)) hb); have n4_ := Aside0.mk (hbox); have n5_ := Aside0.mk ((by rw [hg]; exact (below_size (by repeat (first | (with_reducible first | exact HB.out | apply below_alloc | apply pw_below_drewN | apply below_drew1 | refine below_set ?_ GE208.out) | exact HB.out))) : w.heap.size ≤ gb224)); have n6_ := Aside0.mk ((by rw [hg]; exact (below_size (by repeat (first | (with_reducible first | exact HB.out | apply below_alloc | apply pw_below_drewN | apply below_drew1 | refine below_set ?_ GE208.out) | exact HB.out))) : w.heap.size ≤ gb224)); have n7_ := Aside0.mk ((by rw [hg]; exact Nat.ne_of_lt (blk_lt (g := gb208) (o := .cells #[.slice A0_0 l0_0.length c0_0, .slice A0_1 l0_1.length c0_1] 25 (0, 0)) (by (with_reducible repeat (first | refine blk_drewN ?_ _ | refine blk_drew ?_ | refine blk_alloc ?_ _)); exact BK208.out)) : gb208 ≠ gb224)); have n8_ := Aside0.mk ((by rw [hg]; exact Nat.ne_of_gt (blk_lt (g := gb208) (o := .cells #[.slice A0_0 l0_0.length c0_0, .slice A0_1 l0_1.length c0_1] 25 (0, 0)) (by (with_reducible repeat (first | refine blk_drewN ?_ _ | refine blk_drew ?_ | refine blk_alloc ?_ _)); exact BK208.out)) : gb224 ≠ gb208)); clear HO219; clear HO222; clear BK208; clear HB; have HO219 := n0_; have HO222 := n1_; have BK208 := n2_; have HB := n3_; have BK224 := n4_; have GW224 := n5_; have GE224 := n6_; have NB208_224 := n7_; have NB224_208 := n8_; clear n0_ n1_ n2_ n3_ n4_ n5_ n6_ n7_ n8_; clear hb hbox hg; obtain ⟨Ao85, co85, eo85⟩ := Kd.V_slice HO219.out; subst eo85; have hnb86 := NB224_208.out; have hnc86 := NB208_224.out; have hcz87_0 : w84.cell? ⟨gb224, 0, none⟩ = some (.slice none 0 0) := (blk_cell BK224.out 0).trans rfl; have hcz87_1 : w84.cell? ⟨gb224, 1, none⟩ = some (.slice none 0 0) := (blk_cell BK224.out 1).trans rfl; have hfz87_0 := blk_frozen BK224.out 0; have hfz87_1 := blk_frozen BK224.out 1; obtain ⟨Ao88, co88, eo88⟩ := Kd.V_slice HO222.out; subst eo88))
            have n0_ : Aside0 (Kd.V Kd.string 9 ((w84.setCell ⟨gb224, 0, none⟩ (.slice Ao85 t217.length co85)).setCell ⟨gb224, 1, none⟩ (.slice Ao88 t220.length co88)) w.heap.size (fun k_ => k_ ≠ gb208 ∧ k_ ≠ gb224) (.slice Ao85 t217.length co85) t217) := ⟨by (with_reducible repeat (first | apply Kd.V_alloc | apply Kd.V_drewN | apply Kd.V_drew)); exact Kd.V_mono (Kd.V_far (p := ⟨gb224, 1, none⟩) (Kd.V_far (p := ⟨gb224, 0, none⟩) (Kd.V_mono HO219.out (fun k_ hk => (⟨hk, hk.2⟩ : _ ∧ k_ ≠ gb224))) (fun _ hk => hk.2) (.slice Ao85 t217.length co85)) (fun _ hk => hk.2) (.slice Ao88 t220.length co88)) (fun _ hk => ⟨hk.1.1, hk.1.2⟩)⟩
            have n1_ : Aside0 (Kd.V k76 76 ((w84.setCell ⟨gb224, 0, none⟩ (.slice Ao85 t217.length co85)).setCell ⟨gb224, 1, none⟩ (.slice Ao88 t220.length co88)) w.heap.size (fun k_ => k_ ≠ gb208 ∧ k_ ≠ gb224) (.slice Ao88 t220.length co88) t220) := ⟨by (with_reducible repeat (first | apply Kd.V_alloc | apply Kd.V_drewN | apply Kd.V_drew)); exact Kd.V_mono (Kd.V_far (p := ⟨gb224, 1, none⟩) (Kd.V_far (p := ⟨gb224, 0, none⟩) (Kd.V_mono HO222.out (fun k_ hk => (⟨hk, hk.2⟩ : _ ∧ k_ ≠ gb224))) (fun _ hk => hk.2) (.slice Ao85 t217.length co85)) (fun _ hk => hk.2) (.slice Ao88 t220.length co88)) (fun _ hk => ⟨hk.1.1, hk.1.2⟩)⟩
            have n2_ : Aside0 (((w84.setCell ⟨gb224, 0, none⟩ (.slice Ao85 t217.length co85)).setCell ⟨gb224, 1, none⟩ (.slice Ao88 t220.length co88)).heap[gb208]? = some (.cells #[.slice A0_0 l0_0.length c0_0, .slice A0_1 l0_1.length c0_1] 25 (0, 0))) := ⟨by (with_reducible repeat (first | refine blk_drewN ?_ _ | refine blk_drew ?_ | refine blk_alloc ?_ _)); refine blk_far ?_ NB208_224.out _; (with_reducible repeat (first | refine blk_drewN ?_ _ | refine blk_drew ?_ | refine blk_alloc ?_ _)); refine blk_far ?_ NB208_224.out _; (with_reducible repeat (first | refine blk_drewN ?_ _ | refine blk_drew ?_ | refine blk_alloc ?_ _)); exact BK208.out⟩
            have n3_ : Aside0 (((w84.setCell ⟨gb224, 0, none⟩ (.slice Ao85 t217.length co85)).setCell ⟨gb224, 1, none⟩ (.slice Ao88 t220.length co88)).heap[gb224]? = some (.cells #[.slice Ao85 t217.length co85, .slice Ao88 t220.length co88] 25 (0, 0))) := ⟨by (with_reducible repeat (first | refine blk_drewN ?_ _ | refine blk_drew ?_ | refine blk_alloc ?_ _)); refine blk_put (cs := #[.slice Ao85 t217.length co85, .slice none 0 0]) ?_ 1 _ rfl; (with_reducible repeat (first | refine blk_drewN ?_ _ | refine blk_drew ?_ | refine blk_alloc ?_ _)); refine blk_put (cs := #[.slice none 0 0, .slice none 0 0]) ?_ 0 _ rfl; (with_reducible repeat (first | refine blk_drewN ?_ _ | refine blk_drew ?_ | refine blk_alloc ?_ _)); exact BK224.out⟩
            have n4_ : Aside0 (Below w.heap.size w ((w84.setCell ⟨gb224, 0, none⟩ (.slice Ao85 t217.length co85)).setCell ⟨gb224, 1, none⟩ (.slice Ao88 t220.length co88))) := ⟨by repeat (first | (with_reducible first | exact HB.out | apply below_alloc | apply pw_below_drewN | apply below_drew1 | refine below_set ?_ GE208.out | refine below_set ?_ GE224.out) | exact HB.out)⟩
            (try clear HO219)
            (try clear HO222)
            (try clear BK208)
            (try clear BK224)
            (try clear HB)
            generalize ((w84.setCell ⟨gb224, 0, none⟩ (.slice Ao85 t217.length co85)).setCell ⟨gb224, 1, none⟩ (.slice Ao88 t220.length co88)) = w89 at n0_ n1_ n2_ n3_ n4_ ⊢
            have HO219 := n0_
            have HO222 := n1_
            have BK208 := n2_
            have BK224 := n3_
            have HB := n4_
            clear n0_ n1_ n2_ n3_ n4_
            have n0_ := Aside0.mk (Kd.V_drew HO219.out)
            have n1_ := Aside0.mk (Kd.V_drew HO222.out)
            have n2_ := Aside0.mk (blk_drew BK208.out)
            have n3_ := Aside0.mk (blk_drew BK224.out)
            have n4_ := Aside0.mk (below_drew1 HB.out)
            clear HO219
            clear HO222
            clear BK208
            clear BK224
            clear HB
            have HO219 := n0_
            have HO222 := n1_
            have BK208 := n2_
            have BK224 := n3_
            have HB := n4_
            clear n0_ n1_ n2_ n3_ n4_
            refine start_ (n := 9) (S := fun w' => w'.cell? ⟨gb224, 0, none⟩ = some (.slice Ao85 t217.length co85) ∧ w'.cell? ⟨gb224, 1, none⟩ = some (.slice Ao88 t220.length co88) ∧ w'.cell? ⟨gb208, 0, none⟩ = some (.slice A0_0 l0_0.length c0_0) ∧ w'.cell? ⟨gb208, 1, none⟩ = some (.slice A0_1 l0_1.length c0_1)) (ds := []) #[false, false, false, false, false, false, false, false, false] (by kernel_rfl) rfl rfl ⟨(blk_cell BK224.out 0).trans rfl, (blk_cell BK224.out 1).trans rfl, (blk_cell BK208.out 0).trans rfl, (blk_cell BK208.out 1).trans rfl⟩ (fun hHeld => ?_); refine with_tabW weirkeeperlaw06_BlockBack.tab5 weirkeeperlaw06_BlockBack.bits5 (fun HT_ HW_ => ?_)
            generalize w89.drew = w90 at HO219 HO222 BK208 BK224 HB hHeld ⊢
            refine take_ (i := 0) (N := some 46) (v := ?_) (a' := ?_) #[true, false, false, false, false, false, false, false, false] rfl rfl (take_ofW HT_.out HW_.out (by kernel_rfl)) (fun _ _ _ h => h) (Or.inl ⟨by rfl, ?_⟩) hHeld ?_ ?_
            rotate_left
            · rintro w' ⟨s0, s1, s2, s3⟩
              go_simp
              with_reducible rfl
            rotate_left
            · simp only [Act.put, List.setIfInBounds_toArray, List.set_cons_zero, List.set_cons_succ, i64_w, i32_w]
              rfl
            refine take_ (i := 2) (N := some 48) (v := ?_) (a' := ?_) #[true, false, true, false, false, false, false, false, false] rfl rfl (take_ofW HT_.out HW_.out (by kernel_rfl)) (fun _ _ _ h => h) (Or.inl ⟨by rfl, ?_⟩) hHeld ?_ ?_
            rotate_left
            · rintro w' ⟨s0, s1, s2, s3⟩
              go_simp
              with_reducible rfl
            rotate_left
            · simp only [Act.put, List.setIfInBounds_toArray, List.set_cons_zero, List.set_cons_succ, i64_w, i32_w]
              rfl
            refine one_ (i := 1) (N := some 47) #[true, true, true, false, false, false, false, false, false] rfl rfl (one_of HT_.out (by kernel_rfl)) (by decide) (fun K hK => ?_)
            refine goes_ Try.func16 (by kernel_rfl) rfl #[.agg #[.slice Ao85 t217.length co85, .slice Ao88 t220.length co88]] (by rfl) rfl rfl (by (try simp only [List.map_toArray, List.map_cons, List.map_nil]); first | done | rfl | (simp only [List.length_drop, List.length_take]; rfl)) ?_
            with_reducible refine (weirkeeperlaw04_Ref.calls kj5 (fun k_ => (k_ ≠ gb208 ∧ k_ ≠ gb224)) _ _ t217 _ _ t220 t225 t228 _ ?side1 ?side2 ?side3 A77.out).mono ?_
            (case side1 => exact HO219.out)
            (case side2 => repeat (first | exact (Kd.V_reads' HO222.out).2.2 | (with_reducible refine Kd.C_alloc ?_ _) | (with_reducible refine Kd.C_drewN ?_ _) | (with_reducible refine Kd.C_drew ?_)))
            (case side3 => exact (Kd.V_reads' HO222.out).2.1)
            rintro e w91 ⟨v226, v229, rfl, ho0, ho1, hb⟩
            refine ⟨_, rfl, ?_⟩
            have n0_ := Aside0.mk (Kd.V_elder' (by (with_reducible repeat (first | apply Kd.V_alloc | apply Kd.V_drewN | apply Kd.V_drew)); exact HO219.out) (Kd.R_base ho1) hb)
            have n1_ := Aside0.mk (Kd.V_elder' (by (with_reducible repeat (first | apply Kd.V_alloc | apply Kd.V_drewN | apply Kd.V_drew)); exact HO222.out) (Kd.R_base ho1) hb)
            have n2_ := Aside0.mk (Kd.V_lower (Kd.V_mono (ok' := fun k_ => some k_ ≠ (v229 : Value).ownBlock ∧ k_ ≠ gb208 ∧ k_ ≠ gb224) ho0 (fun k_ hk_ => ⟨hk_.2, Or.elim hk_.1 (fun hs_ => hs_.1) (fun hn_ => (Kd.freshB (g := gb208) (o := .cells #[.slice A0_0 l0_0.length c0_0, .slice A0_1 l0_1.length c0_1] 25 (0, 0)) (by (with_reducible repeat (first | refine blk_drewN ?_ _ | refine blk_drew ?_ | refine blk_alloc ?_ _)); exact BK208.out) k_ hn_)), Or.elim hk_.1 (fun hs_ => hs_.2) (fun hn_ => (Kd.freshB (g := gb224) (o := .cells #[.slice Ao85 t217.length co85, .slice Ao88 t220.length co88] 25 (0, 0)) (by (with_reducible repeat (first | refine blk_drewN ?_ _ | refine blk_drew ?_ | refine blk_alloc ?_ _)); exact BK224.out) k_ hn_))⟩)) (below_size (by repeat (first | (with_reducible first | exact HB.out | apply below_alloc | apply pw_below_drewN | apply below_drew1 | refine below_set ?_ GE208.out | refine below_set ?_ GE224.out) | exact HB.out))))
            have n3_ := Aside0.mk (Kd.R_lower (Kd.R_mono (ok' := fun k_ => True) ho1 (fun _ hk_ => trivial)) (below_size (by repeat (first | (with_reducible first | exact HB.out | apply below_alloc | apply pw_below_drewN | apply below_drew1 | refine below_set ?_ GE208.out | refine below_set ?_ GE224.out) | exact HB.out))))
            have n4_ := Aside0.mk (blk_below (g := gb208) (o := .cells #[.slice A0_0 l0_0.length c0_0, .slice A0_1 l0_1.length c0_1] 25 (0, 0)) (by (with_reducible repeat (first | refine blk_drewN ?_ _ | refine blk_drew ?_ | refine blk_alloc ?_ _)); exact BK208.out) hb)
            have n5_ := Aside0.mk (blk_below (g := gb224) (o := .cells #[.slice Ao85 t217.length co85, .slice Ao88 t220.length co88] 25 (0, 0)) (by (with_reducible repeat (first | refine blk_drewN ?_ _ | refine blk_drew ?_ | refine blk_alloc ?_ _)); exact BK224.out) hb)
            have n6_ := Aside0.mk (below_step (by repeat (first | (with_reducible first | exact HB.out | apply below_alloc | apply pw_below_drewN | apply below_drew1 | refine below_set ?_ GE208.out | refine below_set ?_ GE224.out) | exact HB.out)) hb)
            clear HO219
            clear HO222
            clear BK208
            clear BK224
            clear HB
            have HO219 := n0_
            have HO222 := n1_
            have HO227 := n2_
            have HO230 := n3_
            have BK208 := n4_
            have BK224 := n5_
            have HB := n6_
            clear n0_ n1_ n2_ n3_ n4_ n5_ n6_
            (try clear hb)
            (try clear hb2)
            (try clear hk)
            (try clear hi)
            (try clear ho0)
            (try clear ho1)
            refine hK.out _ _ ⟨(blk_cell BK224.out 0).trans rfl, (blk_cell BK224.out 1).trans rfl, (blk_cell BK208.out 0).trans rfl, (blk_cell BK208.out 1).trans rfl⟩ (fun hHeld => ?_)
            clear hK K
            refine norm_ (a' := ?_) ?_ ?_
            rotate_left
            · show Act.put _ (some 47) _ = _
              simp only [Act.put, List.setIfInBounds_toArray, List.set_cons_zero, List.set_cons_succ, i64_w, i32_w]
              rfl
            refine one_ (i := 3) (N := some 49) #[true, true, true, true, false, false, false, false, false] rfl rfl (one_of HT_.out (by kernel_rfl)) (by decide) (fun K hK => ?_)
            refine goes_ Try.func16 (by kernel_rfl) rfl #[.agg #[.slice A0_0 l0_0.length c0_0, .slice A0_1 l0_1.length c0_1]] (by rfl) rfl rfl (by (try simp only [List.map_toArray, List.map_cons, List.map_nil]); first | done | rfl | (simp only [List.length_drop, List.length_take]; rfl)) ?_
            with_reducible refine (weirkeeperlaw04_Ref.calls kj5 (fun k_ => k_ < w.heap.size) _ _ l0_0 _ _ l0_1 t231 t234 _ ?side1 ?side2 ?side3 A78.out).mono ?_
            (case side1 => exact Kd.V_mk HC0_0.out (Kd.F_below (Kd.C_F Kd.heap_string HR0_0.out) (by repeat (first | (with_reducible first | exact HB.out | apply below_alloc | apply pw_below_drewN | apply below_drew1 | refine below_set ?_ GE208.out | refine below_set ?_ GE224.out) | exact HB.out))))
            (case side2 => repeat (first | exact (Kd.C_below HR0_1.out HB.out) | (with_reducible refine Kd.C_alloc ?_ _) | (with_reducible refine Kd.C_drewN ?_ _) | (with_reducible refine Kd.C_drew ?_)))
            (case side3 => exact HC0_1.out)
            rintro e w92 ⟨v232, v235, rfl, ho0, ho1, hb⟩
            refine ⟨_, rfl, ?_⟩
            have n0_ := Aside0.mk (Kd.V_elder' (by (with_reducible repeat (first | apply Kd.V_alloc | apply Kd.V_drewN | apply Kd.V_drew)); exact HO219.out) (Kd.R_base ho1) hb)
            have n1_ := Aside0.mk (Kd.V_elder' (by (with_reducible repeat (first | apply Kd.V_alloc | apply Kd.V_drewN | apply Kd.V_drew)); exact HO222.out) (Kd.R_base ho1) hb)
            have n2_ := Aside0.mk (Kd.V_elder' (by (with_reducible repeat (first | apply Kd.V_alloc | apply Kd.V_drewN | apply Kd.V_drew)); exact HO227.out) (Kd.R_base ho1) hb)
            have n3_ := Aside0.mk (Kd.R_elder' (by (with_reducible repeat (first | apply Kd.R_alloc | apply Kd.R_drewN | apply Kd.R_drew)); exact HO230.out) (Kd.R_base ho1) hb)
            have n4_ := Aside0.mk (Kd.V_lower (Kd.V_mono (ok' := fun k_ => some k_ ≠ (v235 : Value).ownBlock ∧ some k_ ≠ (v229 : Value).ownBlock ∧ k_ ≠ gb208 ∧ k_ ≠ gb224) ho0 (fun k_ hk_ => ⟨hk_.2, Or.elim hk_.1 (fun hs_ => fun e_ => Nat.not_le.2 hs_ (Kd.R_base HO230.out k_ e_.symm)) (fun hn_ => (Kd.fresh' (Kd.R_lt (by (with_reducible repeat (first | apply Kd.R_alloc | apply Kd.R_drewN | apply Kd.R_drew)); exact HO230.out)) k_ hn_)), Or.elim hk_.1 (fun hs_ => fun e_ => Nat.not_le.2 hs_ (by rw [e_]; exact GW208.out)) (fun hn_ => (Kd.freshB (g := gb208) (o := .cells #[.slice A0_0 l0_0.length c0_0, .slice A0_1 l0_1.length c0_1] 25 (0, 0)) (by (with_reducible repeat (first | refine blk_drewN ?_ _ | refine blk_drew ?_ | refine blk_alloc ?_ _)); exact BK208.out) k_ hn_)), Or.elim hk_.1 (fun hs_ => fun e_ => Nat.not_le.2 hs_ (by rw [e_]; exact GW224.out)) (fun hn_ => (Kd.freshB (g := gb224) (o := .cells #[.slice Ao85 t217.length co85, .slice Ao88 t220.length co88] 25 (0, 0)) (by (with_reducible repeat (first | refine blk_drewN ?_ _ | refine blk_drew ?_ | refine blk_alloc ?_ _)); exact BK224.out) k_ hn_))⟩)) (below_size (by repeat (first | (with_reducible first | exact HB.out | apply below_alloc | apply pw_below_drewN | apply below_drew1 | refine below_set ?_ GE208.out | refine below_set ?_ GE224.out) | exact HB.out))))
            have n5_ := Aside0.mk (Kd.R_lower (Kd.R_new' (Kd.R_mono (ok' := fun k_ => True) ho1 (fun _ hk_ => trivial)) (Kd.R_lt (by (with_reducible repeat (first | apply Kd.R_alloc | apply Kd.R_drewN | apply Kd.R_drew)); exact HO230.out))) (below_size (by repeat (first | (with_reducible first | exact HB.out | apply below_alloc | apply pw_below_drewN | apply below_drew1 | refine below_set ?_ GE208.out | refine below_set ?_ GE224.out) | exact HB.out))))
            have n6_ := Aside0.mk (blk_below (g := gb208) (o := .cells #[.slice A0_0 l0_0.length c0_0, .slice A0_1 l0_1.length c0_1] 25 (0, 0)) (by (with_reducible repeat (first | refine blk_drewN ?_ _ | refine blk_drew ?_ | refine blk_alloc ?_ _)); exact BK208.out) hb)
            have n7_ := Aside0.mk (blk_below (g := gb224) (o := .cells #[.slice Ao85 t217.length co85, .slice Ao88 t220.length co88] 25 (0, 0)) (by (with_reducible repeat (first | refine blk_drewN ?_ _ | refine blk_drew ?_ | refine blk_alloc ?_ _)); exact BK224.out) hb)
            have n8_ := Aside0.mk (below_step (by repeat (first | (with_reducible first | exact HB.out | apply below_alloc | apply pw_below_drewN | apply below_drew1 | refine below_set ?_ GE208.out | refine below_set ?_ GE224.out) | exact HB.out)) hb)
            clear HO219
            clear HO222
            clear HO227
            clear HO230
            clear BK208
            clear BK224
            clear HB
            have HO219 := n0_
            have HO222 := n1_
            have HO227 := n2_
            have HO230 := n3_
            have HO233 := n4_
            have HO236 := n5_
            have BK208 := n6_
            have BK224 := n7_
            have HB := n8_
            clear n0_ n1_ n2_ n3_ n4_ n5_ n6_ n7_ n8_
            (try clear hb)
            (try clear hb2)
            (try clear hk)
            (try clear hi)
            (try clear ho0)
            (try clear ho1)
            obtain ⟨Ao93, co93, eo93⟩ := Kd.V_slice HO227.out
            (first | subst eo93 | (injection eo93 with f1_ f2_ f3_; have f4_ := f1_.symm; have f5_ := f3_.symm; clear f1_ f2_ f3_; subst f4_; subst f5_))
            obtain ⟨Ao94, co94, eo94⟩ := Kd.R_slice HO230.out
            (first | subst eo94 | (injection eo94 with f1_ f2_ f3_; have f4_ := f1_.symm; have f5_ := f3_.symm; clear f1_ f2_ f3_; subst f4_; subst f5_))
            obtain ⟨Ao95, co95, eo95⟩ := Kd.V_slice HO233.out
            (first | subst eo95 | (injection eo95 with f1_ f2_ f3_; have f4_ := f1_.symm; have f5_ := f3_.symm; clear f1_ f2_ f3_; subst f4_; subst f5_))
            obtain ⟨Ao96, co96, eo96⟩ := Kd.R_slice HO236.out
            (first | subst eo96 | (injection eo96 with f1_ f2_ f3_; have f4_ := f1_.symm; have f5_ := f3_.symm; clear f1_ f2_ f3_; subst f4_; subst f5_))
            refine hK.out _ _ ⟨(blk_cell BK224.out 0).trans rfl, (blk_cell BK224.out 1).trans rfl, (blk_cell BK208.out 0).trans rfl, (blk_cell BK208.out 1).trans rfl⟩ (fun hHeld => ?_)
            clear hK K
            refine norm_ (a' := ?_) ?_ ?_
            rotate_left
            · show Act.put _ (some 49) _ = _
              simp only [Act.put, List.setIfInBounds_toArray, List.set_cons_zero, List.set_cons_succ, i64_w, i32_w]
              rfl
            refine one_ (i := 4) (N := some 50) #[true, true, true, true, true, false, false, false, false] rfl rfl (one_of HT_.out (by kernel_rfl)) (by decide) (fun K hK => ?_)
            refine goes_ Try.func19 (by kernel_rfl) rfl #[.agg #[.slice Ao93 t225.length co93, .slice Ao94 t228.length co94], .agg #[.slice Ao95 t231.length co95, .slice Ao96 t234.length co96]] (by rfl) rfl rfl (by (try simp only [List.map_toArray, List.map_cons, List.map_nil]); first | done | rfl | (simp only [List.length_drop, List.length_take]; rfl)) ?_
            with_reducible refine (weirkeeperref04_Same.calls kj5 _ _ t225 _ _ t228 _ _ t231 _ _ t234 true _ ?side1 ?side2 ?side3 ?side4 ?side5 ?side6 ?side7 ?side8 A79.out).mono ?_
            (case side1 => repeat (first | exact (Kd.V_reads' HO227.out).2.2 | (with_reducible refine Kd.C_alloc ?_ _) | (with_reducible refine Kd.C_drewN ?_ _) | (with_reducible refine Kd.C_drew ?_)))
            (case side2 => exact (Kd.V_reads' HO227.out).2.1)
            (case side3 => repeat (first | exact (Kd.R_reads' HO230.out).2.2 | (with_reducible refine Kd.C_alloc ?_ _) | (with_reducible refine Kd.C_drewN ?_ _) | (with_reducible refine Kd.C_drew ?_)))
            (case side4 => exact (Kd.R_reads' HO230.out).2.1)
            (case side5 => repeat (first | exact (Kd.V_reads' HO233.out).2.2 | (with_reducible refine Kd.C_alloc ?_ _) | (with_reducible refine Kd.C_drewN ?_ _) | (with_reducible refine Kd.C_drew ?_)))
            (case side6 => exact (Kd.V_reads' HO233.out).2.1)
            (case side7 => repeat (first | exact (Kd.R_reads' HO236.out).2.2 | (with_reducible refine Kd.C_alloc ?_ _) | (with_reducible refine Kd.C_drewN ?_ _) | (with_reducible refine Kd.C_drew ?_)))
            (case side8 => exact (Kd.R_reads' HO236.out).2.1)
            rintro e w97 ⟨rfl, hb⟩
            refine ⟨_, rfl, ?_⟩
            have n0_ := Aside0.mk (Kd.V_below (by (with_reducible repeat (first | apply Kd.V_alloc | apply Kd.V_drewN | apply Kd.V_drew)); exact HO219.out) hb)
            have n1_ := Aside0.mk (Kd.V_below (by (with_reducible repeat (first | apply Kd.V_alloc | apply Kd.V_drewN | apply Kd.V_drew)); exact HO222.out) hb)
            have n2_ := Aside0.mk (Kd.V_below (by (with_reducible repeat (first | apply Kd.V_alloc | apply Kd.V_drewN | apply Kd.V_drew)); exact HO227.out) hb)
            have n3_ := Aside0.mk (Kd.R_below (by (with_reducible repeat (first | apply Kd.R_alloc | apply Kd.R_drewN | apply Kd.R_drew)); exact HO230.out) hb)
            have n4_ := Aside0.mk (Kd.V_below (by (with_reducible repeat (first | apply Kd.V_alloc | apply Kd.V_drewN | apply Kd.V_drew)); exact HO233.out) hb)
            have n5_ := Aside0.mk (Kd.R_below (by (with_reducible repeat (first | apply Kd.R_alloc | apply Kd.R_drewN | apply Kd.R_drew)); exact HO236.out) hb)
            have n6_ := Aside0.mk (blk_below (g := gb208) (o := .cells #[.slice A0_0 l0_0.length c0_0, .slice A0_1 l0_1.length c0_1] 25 (0, 0)) (by (with_reducible repeat (first | refine blk_drewN ?_ _ | refine blk_drew ?_ | refine blk_alloc ?_ _)); exact BK208.out) hb)
            have n7_ := Aside0.mk (blk_below (g := gb224) (o := .cells #[.slice Ao85 t217.length co85, .slice Ao88 t220.length co88] 25 (0, 0)) (by (with_reducible repeat (first | refine blk_drewN ?_ _ | refine blk_drew ?_ | refine blk_alloc ?_ _)); exact BK224.out) hb)
            have n8_ := Aside0.mk (below_step (by repeat (first | (with_reducible first | exact HB.out | apply below_alloc | apply pw_below_drewN | apply below_drew1 | refine below_set ?_ GE208.out | refine below_set ?_ GE224.out) | exact HB.out)) hb)
            clear HO219
            clear HO222
            clear HO227
            clear HO230
            clear HO233
            clear HO236
            clear BK208
            clear BK224
            clear HB
            have HO219 := n0_
            have HO222 := n1_
            have HO227 := n2_
            have HO230 := n3_
            have HO233 := n4_
            have HO236 := n5_
            have BK208 := n6_
            have BK224 := n7_
            have HB := n8_
            clear n0_ n1_ n2_ n3_ n4_ n5_ n6_ n7_ n8_
            (try clear hb)
            (try clear hb2)
            (try clear hk)
            (try clear hi)
            refine hK.out _ _ ⟨(blk_cell BK224.out 0).trans rfl, (blk_cell BK224.out 1).trans rfl, (blk_cell BK208.out 0).trans rfl, (blk_cell BK208.out 1).trans rfl⟩ (fun hHeld => ?_)
            clear hK K
            refine norm_ (a' := ?_) ?_ ?_
            rotate_left
            · show Act.put _ (some 50) _ = _
              simp only [Act.put, List.setIfInBounds_toArray, List.set_cons_zero, List.set_cons_succ, i64_w, i32_w]
              rfl
            refine pure_ (i := 5) (N := some 51) (v := ?_) (a' := ?_) #[true, true, true, true, true, true, false, false, false] rfl rfl (any_of HT_.out (by kernel_rfl)) (fun _ _ _ h => h) (Or.inl ⟨by rfl, ?_⟩) ?_ ?_
            rotate_left
            · intro w'
              go_simp
              with_reducible rfl
            rotate_left
            · simp only [Act.put, List.setIfInBounds_toArray, List.set_cons_zero, List.set_cons_succ, i64_w, i32_w]
              rfl
            refine one_ (i := 6) (N := some 52) #[true, true, true, true, true, true, true, false, false] rfl rfl (one_of HT_.out (by kernel_rfl)) (by decide) (fun K hK => ?_)
            refine goes_ Try.func17 (by kernel_rfl) rfl #[] (by rfl) rfl rfl (by (try simp only [List.map_toArray, List.map_cons, List.map_nil]); first | done | rfl | (simp only [List.length_drop, List.length_take]; rfl)) ?_
            with_reducible refine (weirkeeperlaw06_awake.calls kj5 _ A81.out).mono ?_
            rintro e w98 ⟨rfl, hb⟩
            refine ⟨_, rfl, ?_⟩
            have n0_ := Aside0.mk (Kd.V_below (by (with_reducible repeat (first | apply Kd.V_alloc | apply Kd.V_drewN | apply Kd.V_drew)); exact HO219.out) hb)
            have n1_ := Aside0.mk (Kd.V_below (by (with_reducible repeat (first | apply Kd.V_alloc | apply Kd.V_drewN | apply Kd.V_drew)); exact HO222.out) hb)
            have n2_ := Aside0.mk (Kd.V_below (by (with_reducible repeat (first | apply Kd.V_alloc | apply Kd.V_drewN | apply Kd.V_drew)); exact HO227.out) hb)
            have n3_ := Aside0.mk (Kd.R_below (by (with_reducible repeat (first | apply Kd.R_alloc | apply Kd.R_drewN | apply Kd.R_drew)); exact HO230.out) hb)
            have n4_ := Aside0.mk (Kd.V_below (by (with_reducible repeat (first | apply Kd.V_alloc | apply Kd.V_drewN | apply Kd.V_drew)); exact HO233.out) hb)
            have n5_ := Aside0.mk (Kd.R_below (by (with_reducible repeat (first | apply Kd.R_alloc | apply Kd.R_drewN | apply Kd.R_drew)); exact HO236.out) hb)
            have n6_ := Aside0.mk (blk_below (g := gb208) (o := .cells #[.slice A0_0 l0_0.length c0_0, .slice A0_1 l0_1.length c0_1] 25 (0, 0)) (by (with_reducible repeat (first | refine blk_drewN ?_ _ | refine blk_drew ?_ | refine blk_alloc ?_ _)); exact BK208.out) hb)
            have n7_ := Aside0.mk (blk_below (g := gb224) (o := .cells #[.slice Ao85 t217.length co85, .slice Ao88 t220.length co88] 25 (0, 0)) (by (with_reducible repeat (first | refine blk_drewN ?_ _ | refine blk_drew ?_ | refine blk_alloc ?_ _)); exact BK224.out) hb)
            have n8_ := Aside0.mk (below_step (by repeat (first | (with_reducible first | exact HB.out | apply below_alloc | apply pw_below_drewN | apply below_drew1 | refine below_set ?_ GE208.out | refine below_set ?_ GE224.out) | exact HB.out)) hb)
            clear HO219
            clear HO222
            clear HO227
            clear HO230
            clear HO233
            clear HO236
            clear BK208
            clear BK224
            clear HB
            have HO219 := n0_
            have HO222 := n1_
            have HO227 := n2_
            have HO230 := n3_
            have HO233 := n4_
            have HO236 := n5_
            have BK208 := n6_
            have BK224 := n7_
            have HB := n8_
            clear n0_ n1_ n2_ n3_ n4_ n5_ n6_ n7_ n8_
            (try clear hb)
            (try clear hb2)
            (try clear hk)
            (try clear hi)
            refine hK.out _ _ ⟨(blk_cell BK224.out 0).trans rfl, (blk_cell BK224.out 1).trans rfl, (blk_cell BK208.out 0).trans rfl, (blk_cell BK208.out 1).trans rfl⟩ (fun hHeld => ?_)
            clear hK K
            refine norm_ (a' := ?_) ?_ ?_
            rotate_left
            · show Act.put _ (some 52) _ = _
              simp only [Act.put, List.setIfInBounds_toArray, List.set_cons_zero, List.set_cons_succ, i64_w, i32_w]
              rfl
            refine pure_ (i := 7) (N := some 53) (v := ?_) (a' := ?_) #[true, true, true, true, true, true, true, true, false] rfl rfl (any_of HT_.out (by kernel_rfl)) (fun _ _ _ h => h) (Or.inl ⟨by rfl, ?_⟩) ?_ ?_
            rotate_left
            · intro w'
              go_simp
              with_reducible rfl
            rotate_left
            · simp only [Act.put, List.setIfInBounds_toArray, List.set_cons_zero, List.set_cons_succ, i64_w, i32_w]
              rfl
            refine pure_ (i := 8) (N := some 10) (v := ?_) (a' := ?_) #[true, true, true, true, true, true, true, true, true] rfl rfl (any_of HT_.out (by kernel_rfl)) (fun _ _ _ h => h) (Or.inl ⟨by rfl, ?_⟩) ?_ ?_
            rotate_left
            · intro w'
              go_simp
              with_reducible rfl
            rotate_left
            · simp only [Act.put, List.setIfInBounds_toArray, List.set_cons_zero, List.set_cons_succ, i64_w, i32_w]
              rfl
            refine done_ (done_of HT_.out (by kernel_rfl)) ?_
            try go_wp2
            go_ret
            exact ⟨by first | rfl | (simp only [h9_.out]; done) | (have h8_ := h9_.out; simp [h8_]; done) | (simp [errW_none, errW_some] <;> rfl) | (simp [*, errW_none, errW_some] <;> rfl), by repeat (first | (with_reducible first | exact HB.out | apply below_alloc | apply pw_below_drewN | apply below_drew1 | refine below_set ?_ GE208.out | refine below_set ?_ GE224.out) | exact HB.out)⟩
          · replace c80 := Bool.eq_false_iff.mpr c80
            subst c80
            have H1 : (some false) = some true := by rw [if_neg (show ¬ (false = true) by decide)] at H; exact H
            clear H
            have H := H1
            clear H1
            exact absurd H (by simp)

end Go.Proofs.Ytpkapldkmleppaa.F
