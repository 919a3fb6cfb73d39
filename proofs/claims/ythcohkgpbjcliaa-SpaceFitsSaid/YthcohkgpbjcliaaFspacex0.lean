/- Contracts of Go functions of the seat Ythcohkgpbjcliaa: what a call comes to; no condition but those that each theorem names. -/
import Derived.Test.YthcohkgpbjcliaaFPre
import Derived.Test.YthcohkgpbjcliaaFShelfS
import Derived.Test.YthcohkgpbjcliaaFLem
import Derived.RangeFuncNested
import Derived.RangeFuncWrites
import Derived.RangeFuncBox
import Derived.RangeFuncLeaves
import Derived.RangeFuncCalls
import Derived.TacticsInMore
import Derived.OwnWalkIn
import Derived.LoopNIn
import Derived.LoopIn
namespace Go.Proofs.Ythcohkgpbjcliaa.F
open Go.RowKit Go.Proofs.YthcohkgpbjcliaaW.PrintWords Go.Proofs.YthcohkgpbjcliaaW.PrintLast Go.Proofs.YthcohkgpbjcliaaW.PrintMore
attribute [local go_sem] max2_int min2_int max_two min_two max_three min_three max_four min_four   -- for this text's walks alone
set_option linter.unusedVariables false
set_option linter.unusedSimpArgs false

/-! ### space_sorted: function 83 -/

section
open Go.Sort hiding Below
open Go.Shelf
attribute [local go_sem] Oper.semAt_some
def cmpI (a b : Int) : Int := if a < b then -1 else if b < a then 1 else 0
theorem isNaN_int (a : Int) (w : World) : Calls Try.prog 114 #[.int .i64 a] w fun e w' => e = .returned (.bool false) ∧ w' = w := by
  go_enter Try.func114, Try.ntmps114
  go_wp2
  go_ret
  exact ⟨rfl, rfl⟩
set_option maxHeartbeats 1000000 in
theorem compare_int (a b : Int) (w : World) : Calls Try.prog 104 #[.int .i64 a, .int .i64 b] w fun e w' => e = .returned (.int .i64 (cmpI a b)) ∧ w' = w := by
  unfold cmpI
  by_cases h1 : a < b
  · rw [if_pos h1]
    go_enter Try.func104, Try.ntmps104
    go_wp2_with (go_at_call 114; refine (isNaN_int _ _).mono ?_; rintro e w' ⟨rfl, rfl⟩)
    go_ret
    exact ⟨rfl, rfl⟩
  · rw [if_neg h1]
    by_cases h2 : b < a
    · rw [if_pos h2]
      go_enter Try.func104, Try.ntmps104
      go_wp2_with (go_at_call 114; refine (isNaN_int _ _).mono ?_; rintro e w' ⟨rfl, rfl⟩)
      go_ret
      exact ⟨rfl, rfl⟩
    · rw [if_neg h2]
      go_enter Try.func104, Try.ntmps104
      go_wp2_with (go_at_call 114; refine (isNaN_int _ _).mono ?_; rintro e w' ⟨rfl, rfl⟩)
      go_ret
      exact ⟨rfl, rfl⟩
set_option maxHeartbeats 1000000 in
theorem sorted_1 (x0 x1 y0 y1 : Int) (w : World) : Calls Try.prog 103 #[.agg #[.int .i64 x0, .int .i64 x1], .agg #[.int .i64 y0, .int .i64 y1]] w fun e w' => e = .returned (.int .i64 (cmpI x0 y0)) ∧ ∃ o1 o2, w' = (w.alloc o1).alloc o2 := by
  have hcon := fun W' => compare_int x0 y0 W'
  generalize cmpI x0 y0 = r at hcon ⊢
  go_enter Try.func103, Try.ntmps103
  go_wp2_with (go_at_call 104; refine (hcon _).mono ?_; rintro e w' ⟨rfl, rfl⟩)
  go_ret
  exact ⟨rfl, _, _, rfl⟩
theorem values (a : Option Addr) (len cap : Nat) (w : World) :
    Calls Try.prog 102 #[.slice a len cap] w fun e w' => e = .returned (.func (.func 113) #[] #[.pointer (some ⟨w.heap.size, 0, none⟩)]) ∧ w' = w.alloc (.cells #[.slice a len cap] 62) := by
  go_enter Try.func102, Try.ntmps102
  go_wp2
  go_ret
  exact ⟨rfl, rfl⟩

def enc66 (x : S66) : Value := .agg #[.int .i64 x.f0, .int .i64 x.f1]
set_option maxRecDepth 100000 in
set_option maxHeartbeats 2000000 in
theorem values1_in (F : Fence) (n : Nat) (hF : F.fn 113) (hro : F.round = none) (hn : 1 ≤ n) (l Bs n₀ b off len cap : Nat) (f : Nat → S66) (hlen : len ≤ 9223372036854775807) (hb : b < n₀) (J Jx : List S66 → World → Prop)
    (hY : ∀ pre x W, J pre W → pre.length < len → YieldAt F (n - 1) Try.prog l #[enc66 x] W fun e W' =>
      (e = .returned (.bool true) ∧ J (pre ++ [x]) W' ∧ Below n₀ W W') ∨ (e = .returned (.bool false) ∧ Jx (pre ++ [x]) W'))
    (W : World) (hJ : AbidesFrom W.heap.size J) (hn0 : n₀ ≤ W.heap.size) (hBs : W.cell? ⟨Bs, 0, none⟩ = some (.slice (some ⟨b, off, none⟩) len cap)) 
    (hc : ∀ j, j < len → W.cell? ⟨b, off + j * 2, none⟩ = some (.int .i64 (f j).f0) ∧ W.cell? ⟨b, off + j * 2 + 1, none⟩ = some (.int .i64 (f j).f1)) (h0 : J [] W) :
    CallsIn F n Try.prog 113 #[.func (.yield l) #[] #[], .pointer (some ⟨Bs, 0, none⟩)] W fun e W' => (∃ v, e = .returned v) ∧
      ((∃ ys, ys = (List.range len).map f ∧ J ys W') ∨ (∃ pre, (∃ k, k ≤ len ∧ pre = (List.range k).map f) ∧ Jx pre W')) := by
  refine callsIn_of_wp Try.func113 rfl hF ?_ hro
  simp only [Try.ntmps113, List.size_toArray, List.length_cons, List.length_nil, Nat.reduceAdd, Nat.reduceSub, Array.replicate_succ, Array.replicate_zero, List.push_toArray, List.append_toArray, List.nil_append, List.cons_append]
  gi_wp2
  have HY := Aside0.mk hY
  have HC := Aside0.mk hc
  have HJ := Aside0.mk hJ
  clear hY hc hJ
  gi_loopw [7] (fun i wr => ∃ k : Nat, k ≤ len ∧ i = .int .i64 k ∧ J ((List.range k).map f) wr ∧ Below n₀ W wr)
    (fun i _ => len - (intOf i).toNat)
  case atStart => exact ⟨0, Nat.zero_le _, rfl, h0, Below.refl _ _⟩
  case round =>
    obtain ⟨k, hk, rfl, hJs, hnx⟩ := hrel
    by_cases hlt : k < len
    · have hc1 := (hnx.cell (p := ⟨b, off + k * 2, none⟩) hb).trans (HC.out k hlt).1
      have hc2 := (hnx.cell (p := ⟨b, off + k * 2 + 1, none⟩) hb).trans (HC.out k hlt).2
      have hJa : J ((List.range k).map f) (wr.alloc (.cells #[.int .i64 (f k).f0, .int .i64 (f k).f1] 66)) := HJ.out _ _ _ _ hJs (World.grownBy_alloc wr _ none) (fun r e => by cases e)
      have hnx2 : Below n₀ W (wr.alloc (.cells #[.int .i64 (f k).f0, .int .i64 (f k).f1] 66)) := hnx.alloc (Nat.le_trans hn0 (by have := hnx.size; omega)) _
      obtain ⟨fn, tmps, assign, body, hy, hR⟩ := HY.out _ (f k) _ hJa (by simpa using hlt)
      clear hnx hJs hJa
      unfold enc66 at hy
      have hlt2 : (k : Int) < len := by omega
      have HX := Aside0.mk hnx2
      clear hnx2
      gi_wp2
      refine hR.mono ?_
      rintro e W3 (⟨rfl, hJ3, hk3⟩ | ⟨rfl, hJx3⟩)
      · gi_wp2
        go_roundw
        case rel => exact ⟨k + 1, by omega, by simp, by rw [List.range_succ, List.map_append]; exact hJ3, HX.out.trans hk3⟩
        case measure => simp [intOf]; omega
      · gi_wp2
        refine bodyPost_ret (results_none rfl _ _ _) rfl ?_
        exact ⟨⟨_, rfl⟩, .inr ⟨_, ⟨k + 1, by omega, by rw [List.range_succ, List.map_append]; rfl⟩, hJx3⟩⟩
    · obtain rfl : k = len := by omega
      gi_wp2
      go_end0
      exact ⟨⟨_, rfl⟩, .inl ⟨_, rfl, hJs⟩⟩

set_option maxRecDepth 100000 in
set_option maxHeartbeats 1000000 in
theorem values1_nil_in (F : Fence) (n : Nat) (hF : F.fn 113) (hro : F.round = none) (l Bs : Nat) (A : Option Addr) (cap : Nat) (J : List S66 → World → Prop) (W : World) (hBs : W.cell? ⟨Bs, 0, none⟩ = some (.slice A 0 cap)) (h0 : J [] W) :
    CallsIn F n Try.prog 113 #[.func (.yield l) #[] #[], .pointer (some ⟨Bs, 0, none⟩)] W fun e W' => (∃ v, e = .returned v) ∧ J [] W' := by
  refine callsIn_of_wp Try.func113 rfl hF ?_ hro
  simp only [Try.ntmps113, List.size_toArray, List.length_cons, List.length_nil, Nat.reduceAdd, Nat.reduceSub, Array.replicate_succ, Array.replicate_zero, List.push_toArray, List.append_toArray, List.nil_append, List.cons_append]
  gi_wp2
  gi_loopw [7] (fun i wr => i = .int .i64 0 ∧ J [] wr) (fun _ _ => 0)
  case atStart => exact ⟨rfl, h0⟩
  case round =>
    obtain ⟨rfl, hJs⟩ := hrel
    gi_wp2
    go_end0
    exact ⟨⟨_, rfl⟩, hJs⟩
theorem values_in (F : Fence) (n : Nat) (hF : F.fn 102) (hro : F.round = none) (a : Option Addr) (len cap : Nat) (w : World) :
    CallsIn F n Try.prog 102 #[.slice a len cap] w fun e w' => e = .returned (.func (.func 113) #[] #[.pointer (some ⟨w.heap.size, 0, none⟩)]) ∧ w' = w.alloc (.cells #[.slice a len cap] 62) := by
  refine callsIn_of_wp Try.func102 rfl hF ?_ hro
  simp only [Try.ntmps102, List.size_toArray, List.length_cons, List.length_nil, Nat.reduceAdd, Nat.reduceSub, Array.replicate_succ, Array.replicate_zero, List.push_toArray, List.append_toArray, List.nil_append, List.cons_append]
  gi_wp2
  go_ret
  exact ⟨rfl, rfl⟩
instance : Inhabited S66 := ⟨z66⟩
theorem upto_all (l : List S66) : (List.range l.length).map (fun j => l.getD j z66) = l := by
  apply List.ext_getElem
  · simp
  · intro i h1 h2
    simp [h2]
theorem upto_pre (l : List S66) (k : Nat) (hk : k ≤ l.length) : (List.range k).map (fun j => l.getD j z66) <+: l := by
  have : (List.range k).map (fun j => l.getD j z66) = l.take k := by
    apply List.ext_getElem
    · simp [hk]
    · intro i h1 h2
      have h3 : i < l.length := by simp at h1; omega
      simp [h3]
  rw [this]
  exact List.take_prefix _ _
/-- Where the cells of a row of extents lie. -/
theorem cells_66 {w : World} {A : Option Addr} {l : List S66} (h : Kd.C k66 w A l.length l) (hn : 0 < l.length) :
    ∃ b o, A = some ⟨b, o, none⟩ ∧ b < w.heap.size ∧ ∀ j, j < l.length → w.cell? ⟨b, o + j * 2, none⟩ = some (.int .i64 (l.getD j z66).f0) ∧ w.cell? ⟨b, o + j * 2 + 1, none⟩ = some (.int .i64 (l.getD j z66).f1) := by
  obtain ⟨b, o, e, hb, hc⟩ := cells_row h (by decide) hn
  refine ⟨b, o, e, hb, fun j hj => ?_⟩
  obtain ⟨c, c1, c2, c3⟩ := hc j (l.getD j z66) (by simp [hj])
  obtain rfl := k66_open c2
  have e0 := c3 0 _ rfl
  have e1 := c3 1 _ rfl
  exact ⟨e0, by rw [Nat.add_assoc]; exact e1⟩
theorem values_stops (F : Fence) (n : Nat) (hF : F.fn 113) (hro : F.round = none) (hn : 1 ≤ n) (Bs : Nat) (A : Option Addr) (cap : Nat) (l0 : List S66) (w0 w : World) (hr : Kd.C k66 w0 A l0.length l0) (hw : Below w0.heap.size w0 w)
    (hBs : Bs < w.heap.size) (hc : w.cell? ⟨Bs, 0, none⟩ = some (.slice A l0.length cap)) :
    SeqStopsK F n Try.prog 113 #[.pointer (some ⟨Bs, 0, none⟩)] (fun x => #[enc66 x]) (Below w0.heap.size) (fun ys => ys = l0) (fun pre => pre <+: l0) l0.length w := fun l J Jx W hW hJ hJx hY h0 => by
  have hc' := (hW.cell (p := ⟨Bs, 0, none⟩) hBs).trans hc
  by_cases hl : 0 < l0.length
  · obtain ⟨b, o, rfl, hb, hcs⟩ := cells_66 hr hl
    have hWw := hw.trans (hW.mono hw.size)
    refine (values1_in F n hF hro hn l Bs w0.heap.size b o l0.length cap (fun j => l0.getD j z66) (Kd.C_max hr) hb J Jx hY W hJ hWw.size hc' (fun j hj => ⟨(hWw.cell (p := ⟨b, o + j * 2, none⟩) hb).trans (hcs j hj).1, (hWw.cell (p := ⟨b, o + j * 2 + 1, none⟩) hb).trans (hcs j hj).2⟩) h0).mono ?_
    rintro e W' ⟨he, ⟨ys, rfl, hj⟩ | ⟨pre, ⟨k, hk, rfl⟩, hj⟩⟩
    · exact ⟨he, .inl ⟨_, upto_all l0, hj⟩⟩
    · exact ⟨he, .inr ⟨_, upto_pre l0 k hk, hj⟩⟩
  · obtain rfl : l0 = [] := List.length_eq_zero_iff.1 (by omega)
    exact (values1_nil_in F n hF hro l Bs A cap J W hc' h0).mono fun e W' ⟨he, hj⟩ => ⟨he, .inl ⟨_, rfl, hj⟩⟩
def cells66 (l : List S66) : List Value := l.flatMap fun x => [.int .i64 x.f0, .int .i64 x.f1]
set_option maxRecDepth 100000 in
set_option maxHeartbeats 2000000 in
theorem appendSeq_in (F : Fence) (n : Nat) (hF : F.fn 116) (hG : F.fn 113) (hro : F.round = none) (hn : 3 ≤ n) (Bs : Nat) (A : Option Addr) (cap : Nat) (l0 : List S66) (w0 w : World) (hr : Kd.C k66 w0 A l0.length l0) (hw : Below w0.heap.size w0 w)
    (hBs : Bs < w.heap.size) (hc : w.cell? ⟨Bs, 0, none⟩ = some (.slice A l0.length cap)) (hlen : l0.length < 8796093022208) :
    CallsIn F n Try.prog 116 #[.slice none 0 0, .func (.func 113) #[] #[.pointer (some ⟨Bs, 0, none⟩)]] w fun e w' => ∃ v, e = .returned v ∧ w'.ownsRow w0.heap.size 66 2 v l0.length (cells66 l0) ∧ Below w0.heap.size w w' := by
  have HH := Aside0.mk hw.size
  refine callsIn_of_wp_marks Try.func116 rfl hF ?_ hro
  simp only [Try.ntmps116, List.size_toArray, List.length_cons, List.length_nil, Nat.reduceAdd, Nat.reduceSub, Array.replicate_succ, Array.replicate_zero, List.push_toArray, List.append_toArray, List.nil_append, List.cons_append]
  gi_wp2
  have bS := Boxed.new w 62 (.slice none 0 0)
  have hb1 : Below w0.heap.size w (w.alloc (.cells #[.slice none 0 0] 62)) := (Below.refl _ w).alloc hw.size _
  have hb0 : Below w0.heap.size w0 (w.alloc (.cells #[.slice none 0 0] 62)) := hw.trans hb1
  have hcc : (w.alloc (.cells #[.slice none 0 0] 62)).cell? ⟨Bs, 0, none⟩ = some (.slice A l0.length cap) := ((((Below.refl w.heap.size w).alloc (Nat.le_refl _) _).cell (p := ⟨Bs, 0, none⟩) hBs)).trans hc
  refine wpIn_rangeFunc_ownH hro (by omega) (gf := 113) (lb := #[.pointer (some ⟨Bs, 0, none⟩)]) rfl hG (enters_of Try.func113 (by kernel_rfl) rfl)
    (values_stops F (n - 1) hG hro (by omega) Bs A cap l0 w0 _ hr hb0 (by simp; omega) hcc) (belowK_t) (belowK_b (by simp; have := HH.out; omega)) (Below.refl _ _) (fun _ => rfl)
    (fun pre W => (∃ v, Boxed W w.heap.size 62 v ∧ W.ownsRow w0.heap.size 66 2 v pre.length (cells66 pre) ∧ True) ∧ Below w0.heap.size w W)
    (fun _ _ _ => False)
    (OwnFrom.and (Own.from (holdsRow_own w0.heap.size w.heap.size 62 66 2 List.length cells66 (fun _ _ => True)) _) (ownFrom_below HH.out (by simp; have := HH.out; omega)))
    (fun _ _ _ _ _ hs _ _ => hs)
    ⟨⟨_, bS, ⟨rfl, .inl ⟨rfl, rfl⟩⟩, trivial⟩, hb1⟩
    (fun x a' W => ∃ bk, w.heap.size < bk ∧ W.cell? ⟨bk, 0, none⟩ = some (.int .i64 x.f0) ∧ W.cell? ⟨bk, 1, none⟩ = some (.int .i64 x.f1) ∧ a' = { tmps := #[.slice none 0 0, .func (.func 113) #[] #[.pointer (some ⟨Bs, 0, none⟩)], .pointer (some ⟨w.heap.size, 0, none⟩), undef, .slice none 0 0, .pointer (some ⟨bk, 0, none⟩), .func (.func 113) #[] #[.pointer (some ⟨Bs, 0, none⟩)], enc66 x, undef, undef, undef, undef, undef], defers := [] })
    ?hAx ?assign ?body ?done ?stop
  case hAx =>
    exact fun x a' => Own.from (fun s X Y row ⟨bk, h1, h2, h3, h4⟩ hg hr => ⟨bk, h1, cell_kept h2 hg hr, cell_kept h3 hg hr, h4⟩) _
  case assign =>
    rintro l pre x W K ⟨⟨v, hv, hrow, -⟩, hB⟩ hK
    unfold enc66
    gi_wp2
    have hlt := hv.lt
    exact hK _ _ ((KeepsOthers.alloc _ _).from _) ((Below.refl _ _).alloc (by have := HH.out; omega) _) ⟨⟨v, hv.alloc _, hrow.alloc _, trivial⟩, hB.alloc (by have := HH.out; omega) _⟩ ⟨W.heap.size, hlt, by simp, by simp, rfl⟩
  case body =>
    rintro l pre x a' W hl hlp ⟨⟨v, hv, hrow, -⟩, hB⟩ ⟨bk, hbk, hc1, hc2, rfl⟩ hpre
    obtain ⟨i0, hi, hz0, hz1, hz2⟩ := info_parts info66
    have hcb := hv.cell
    have hfb := hv.frozen
    have hlt := hv.lt
    have hw0 := HH.out
    have HV := Aside0.mk hv
    have HB := Aside0.mk hB
    clear hv hB
    gi_wp2_with (gi_at_builtin; refine wpListIn_append_own _ rfl _ _ 62 rfl w0.heap.size 66 i0 (.agg #[.int .i64 0, .int .i64 0]) 2 16 Try.underlying62 hi hz0 hz1 hz2 rfl (by decide) _ _ _ rfl (hrow.alloc _) ⟨W.heap.size, 0, none⟩ 1 1 [.int .i64 x.f0, .int .i64 x.f1] rfl rfl ?a1 ?a2 (by unfold maxLen; omega) (by omega) (by simp; omega) ?_; (case a1 => intro j u hu; match j, hu with | 0, hu => (cases hu; simp [Addr.add]) | 1, hu => (cases hu; simp [Addr.add])); (case a2 => intro u hu; simp at hu; rcases hu with rfl | rfl <;> rfl); intro v' w3 hown' hg3 hnil3; obtain ⟨g', cap', rfl⟩ := ownsRow_succ hown'; have HA := Aside0.mk (Boxed.appended HV.out (by decide) hrow (by omega) hw0 hown' hg3); have hcb3 := HA.out.1.cell; have hfb3 := HA.out.1.frozen; clear hown' hg3 hnil3)
    obtain ⟨-, h2, h3, h4, h5⟩ := HA.out
    exact ⟨h4.from _, h5, ⟨⟨_, h2, by simpa [cells66] using h3, trivial⟩, HB.out.trans h5⟩⟩
  case done =>
    rintro D ys W hD rfl ⟨⟨v, hv, hrow, -⟩, hB⟩ hK
    have hcb := hv.cell
    gi_wp2
    refine ⟨by simp, .inl ⟨_, _, rfl, run_takeDeferred hK, ?_⟩⟩
    exact ⟨_, results_tmp rfl _ _ _, v, rfl, ownsRow_putObj hrow _ hK rfl, hB.trans (belowK_b (w := w) HH.out W D _ _ (by simp at hD; omega) hK rfl rfl)⟩
  case stop =>
    rintro D c pre W _ _ h _
    exact h.elim

set_option maxHeartbeats 1000000 in
theorem collect_in (F : Fence) (n : Nat) (hE : F.fn 111) (hF : F.fn 116) (hG : F.fn 113) (hro : F.round = none) (hn : 4 ≤ n) (Bs : Nat) (A : Option Addr) (cap : Nat) (l0 : List S66) (w0 w : World) (hr : Kd.C k66 w0 A l0.length l0) (hw : Below w0.heap.size w0 w)
    (hBs : Bs < w.heap.size) (hc : w.cell? ⟨Bs, 0, none⟩ = some (.slice A l0.length cap)) (hlen : l0.length < 8796093022208) :
    CallsIn F n Try.prog 111 #[.func (.func 113) #[] #[.pointer (some ⟨Bs, 0, none⟩)]] w fun e w' => ∃ v, e = .returned v ∧ w'.ownsRow w0.heap.size 66 2 v l0.length (cells66 l0) ∧ Below w0.heap.size w w' := by
  have h1 : 1 ≤ n := by omega
  have hcon := appendSeq_in F (n - 1) hF hG hro (by omega) Bs A cap l0 w0 w hr hw hBs hc hlen
  refine callsIn_of_wp Try.func111 rfl hE ?_ hro
  simp only [Try.ntmps111, List.size_toArray, List.length_cons, List.length_nil, Nat.reduceAdd, Nat.reduceSub, Array.replicate_succ, Array.replicate_zero, List.push_toArray, List.append_toArray, List.nil_append, List.cons_append]
  clear hr hw hc
  gi_wp2_with (gi_at_call 116; refine hcon.mono ?_; rintro e w' ⟨v, rfl, hrow, hb⟩)
  go_ret
  exact ⟨v, rfl, hrow, hb⟩
/-- slices.Collect of slices.Values: a row of the call's own with just these. -/
theorem collect_calls (Bs : Nat) (A : Option Addr) (cap : Nat) (l0 : List S66) (w0 w : World) (hr : Kd.C k66 w0 A l0.length l0) (hw : Below w0.heap.size w0 w)
    (hBs : Bs < w.heap.size) (hc : w.cell? ⟨Bs, 0, none⟩ = some (.slice A l0.length cap)) (hlen : l0.length < 8796093022208) :
    Calls Try.prog 111 #[.func (.func 113) #[] #[.pointer (some ⟨Bs, 0, none⟩)]] w fun e w' => ∃ v, e = .returned v ∧ w'.ownsRow w0.heap.size 66 2 v l0.length (cells66 l0) ∧ Below w0.heap.size w w' :=
  callsIn_wide.1 (collect_in Fence.wide 4 trivial trivial trivial rfl (Nat.le_refl _) Bs A cap l0 w0 w hr hw hBs hc hlen)
def enc2 (x : S66) : List Value := [.int .i64 x.f0, .int .i64 x.f1]
theorem cells66_get : ∀ (l : List S66) (t : Nat), t < l.length * 2 → (cells66 l)[t]? = some (enc2 l[t / 2]!)[t % 2]!
  | [], t, h => absurd h (by simp)
  | x :: l, 0, _ => rfl
  | x :: l, 1, _ => rfl
  | x :: l, t + 2, h => by
    have ih := cells66_get l t (by simp at h; omega)
    have e : cells66 (x :: l) = .int .i64 x.f0 :: .int .i64 x.f1 :: cells66 l := rfl
    rw [e, List.getElem?_cons_succ, List.getElem?_cons_succ, ih, show (t + 2) / 2 = t / 2 + 1 by omega, show (t + 2) % 2 = t % 2 by omega]
    rfl
theorem holds66 {w : World} {base : Nat} {g cap : Nat} {l : List S66} (h : w.ownsRow base 66 2 (.slice (some ⟨g, 0, none⟩) l.length cap) l.length (cells66 l)) : HoldsK enc2 2 w g 0 l.toArray := by
  intro j hj
  have hj2 : j < l.length * 2 := by simpa using hj
  have hl0 : 0 < l.length := by omega
  obtain ⟨_, h2⟩ := h
  rcases h2 with ⟨e, _⟩ | ⟨g', cap', cur, e, hb, hg, h3, h4, h5, h6⟩
  · cases e
  · obtain ⟨rfl, rfl⟩ : g = g' ∧ cap = cap' := by injection e with e1 e2 e3; injection e1 with e1; injection e1 with e1; exact ⟨e1, e3⟩
    rw [Nat.zero_add]
    have hc : cur[j]? = some ((flatK enc2 2 l.toArray)[j]!) := by
      have := cells66_get l j hj2
      rw [← h6, List.getElem?_take_of_lt hj2, Array.getElem?_toList] at this
      rw [this, get_flatK _ _ _ _ (by simpa using hj2)]
      simp
    constructor
    · simp [World.cell?, hg, hc]
    · simp [World.frozen?, hg]
theorem reps66 (base : Nat) (ok : Nat → Prop) (w : World) (l : List S66) : Reps (k66.M w base ok) 2 l (flatK enc2 2 l.toArray).toList := by
  refine ⟨by simp, fun j p hj => ?_⟩
  obtain ⟨hjl, rfl⟩ := List.getElem?_eq_some_iff.1 hj
  have e : (((flatK enc2 2 l.toArray).toList.drop (j * 2)).take 2) = [.int .i64 l[j].f0, .int .i64 l[j].f1] := by
    have g0 := get_flatK enc2 2 l.toArray (j * 2) (by simp; omega)
    have g1 := get_flatK enc2 2 l.toArray (j * 2 + 1) (by simp; omega)
    rw [getElem!_pos _ _ (by simp; omega), show j * 2 / 2 = j by omega, show j * 2 % 2 = 0 by omega] at g0
    rw [getElem!_pos _ _ (by simp; omega), show (j * 2 + 1) / 2 = j by omega, show (j * 2 + 1) % 2 = 1 by omega] at g1
    apply List.ext_getElem?
    intro i
    rw [List.getElem?_take]
    by_cases hi : i < 2
    · rw [if_pos hi, List.getElem?_drop, Array.getElem?_toList]
      match i, hi with
      | 0, _ => rw [Nat.add_zero, Array.getElem?_eq_getElem (by simp; omega), g0]; simp [enc2, hjl]
      | 1, _ => rw [Array.getElem?_eq_getElem (by simp; omega), g1]; simp [enc2, hjl]
    · rw [if_neg hi]
      simp; omega
  rw [e]
  exact k66_mkM _ _ _ _
theorem row_sorted {w : World} {base g cap m : Nat} {l : List S66} {d : Array S66} {os : Array Obj} (h : w.ownsRow base 66 2 (.slice (some ⟨g, 0, none⟩) l.length cap) l.length (cells66 l)) (hd : d.size = l.length) :
    Kd.R k66 66 (sortWorldK enc2 2 w g 0 m d os) base (fun _ => True) (.slice (some ⟨g, 0, none⟩) l.length cap) d.toList := by
  obtain ⟨h1, h2⟩ := h
  have hlt : g < w.heap.size ∨ l.length = 0 := by
    rcases h2 with ⟨e, h0⟩ | ⟨g', cap', cur, e, hb, hg, _⟩
    · exact .inr h0
    · obtain rfl : g = g' := by injection e with e1 e2 e3; injection e1 with e1; injection e1 with e1
      exact .inl (Array.getElem?_eq_some_iff.1 hg).1
  refine ⟨fun _ _ => trivial, (flatK enc2 2 d).toList, ⟨by rw [show k66.sz = 2 from rfl]; simp, ?_⟩, ?_⟩
  · rcases h2 with ⟨e, h0⟩ | ⟨g', cap', cur, e, hb, hg, h3, h4, h5, h6⟩
    · cases e
    · obtain ⟨rfl, rfl⟩ : g = g' ∧ cap = cap' := by injection e with e1 e2 e3; injection e1 with e1; injection e1 with e1; exact ⟨e1, e3⟩
      have hgl := (Array.getElem?_eq_some_iff.1 hg).1
      refine .inr ⟨g, cap, putCells id 0 (flatK enc2 2 d) cur, by simp [hd], hb, ?_, by simpa [hd] using h3, h4, by rw [show k66.sz = 2 from rfl]; simp [putCells, h5], ?_⟩
      · have := heap_grow_old (putRowK enc2 2 (Sort.ahead w m) g 0 d) os (k := g) (by rw [size_putRowK]; exact hgl)
        show (grow (putRowK enc2 2 (Sort.ahead w m) g 0 d) os).heap[g]? = _
        rw [this]
        show (w.heap.modify g _)[g]? = _
        rw [Array.getElem?_modify, if_pos rfl, hg]
        rfl
      · apply List.ext_getElem?
        intro t
        rw [List.getElem?_take, show k66.sz = 2 from rfl]
        by_cases ht : t < d.toList.length * 2
        · rw [if_pos ht]
          have ht2 : t < d.size * 2 := by simpa using ht
          have htc : t < cur.size := by rw [h5]; have : d.size * 2 ≤ cap * 2 := Nat.mul_le_mul_right _ (by omega); omega
          rw [Array.getElem?_toList, Array.getElem?_toList]
          simp only [putCells, Array.getElem?_mapIdx, Array.getElem?_eq_getElem htc, Option.map_some, Nat.zero_le, true_and, Nat.zero_add, size_flatK, ht2, if_true, Nat.sub_zero, id]
          rw [Array.getElem?_eq_getElem (by simpa using ht2), getElem!_pos _ _ (by simpa using ht2)]
        · rw [if_neg ht]
          simp at ht
          simp; omega
  · have := reps66 base (fun k => True ∧ some k ≠ (Value.slice (some ⟨g, 0, none⟩) l.length cap).ownBlock) (sortWorldK enc2 2 w g 0 m d os) d.toList
    rw [show d.toList.toArray = d by simp] at this
    exact this
theorem below_sorted {w : World} {B g m : Nat} {d : Array S66} {os : Array Obj} (hg : B ≤ g) (hB : B ≤ w.heap.size) : Below B w (sortWorldK enc2 2 w g 0 m d os) := by
  refine ⟨rfl, rfl, rfl, ?_, fun k hk => ?_⟩
  · show _ ≤ (grow (putRowK enc2 2 (Sort.ahead w m) g 0 d) os).heap.size
    rw [size_grow, size_putRowK]
    exact Nat.le_add_right _ _
  · show (grow (putRowK enc2 2 (Sort.ahead w m) g 0 d) os).heap[k]? = _
    have hk2 : k < w.heap.size := Nat.lt_of_lt_of_le hk hB
    rw [heap_grow_old _ _ (by rw [size_putRowK]; exact hk2)]
    show (w.heap.modify g _)[k]? = _
    rw [Array.getElem?_modify, if_neg (by omega)]

def cmpE (x y : S66) : Int := cmpI x.f0 y.f0
theorem ltE (x y : S66) : ltOf cmpE x y = decide (x.f0 < y.f0) := by
  unfold ltOf cmpE cmpI
  by_cases h1 : x.f0 < y.f0
  · simp [h1]
  · by_cases h2 : y.f0 < x.f0 <;> simp [h1, h2]
theorem swoE : SWO (ltOf cmpE) where
  irrefl x := by rw [ltE]; simp
  trans x y z h1 h2 := by rw [ltE] at *; simp at *; omega
  ntrans x y z h1 h2 := by rw [ltE] at *; simp at *; omega
theorem cmpLaysE (blk off size : Nat) (w : World) : CmpLays Try.prog 103 #[] enc2 2 cmpE blk off size w :=
  fun _ _ _ _ x y => (sorted_1 x.f0 x.f1 y.f0 y.f1 _).mono fun e w' ⟨he, o1, o2, hw⟩ => ⟨he, 0, #[o1] ++ #[o2], by rw [hw, alloc_eq_grow, alloc_eq_grow, grow_grow]; rfl⟩
/-- The extents by places, as slices.SortFunc lays them. -/
def sortE (l : List S66) : List S66 := (pdq (ltOf cmpE) l.toArray 0 l.length (Lib.bitLen l.length) true true).toList
theorem sortE_perm (l : List S66) : PermIn 0 l.length l.toArray (sortE l).toArray ∧ SortedIn (ltOf cmpE) 0 l.length (sortE l).toArray := by
  have := pdq_sorts (ltOf cmpE) swoE l.toArray 0 l.length (Lib.bitLen l.length) true true (Nat.zero_le _) (by simp) (Or.inl rfl)
  unfold sortE
  simpa using this
theorem sortE_length (l : List S66) : (sortE l).length = l.length := by
  have := (sortE_perm l).1.1
  simpa using this
def space_sorted.f (l2 : List S66) : Option (List S66) := if l2.length < 8796093022208 then some (sortE l2) else none
set_option maxHeartbeats 1000000 in
theorem sortFunc_E (base : Nat) (v : Value) (l : List S66) (w : World) (h : w.ownsRow base 66 2 v l.length (cells66 l)) (hb : base ≤ w.heap.size) (hl : l.length < 8796093022208) :
    Calls Try.prog 112 #[v, .func (.func 103) #[] #[]] w fun e w' => e = .returned (.tuple #[]) ∧ Kd.R k66 66 w' base (fun _ => True) v (sortE l) ∧ Below base w w' := by
  rcases Nat.eq_zero_or_pos l.length with h0 | h0
  · obtain rfl : l = [] := List.length_eq_zero_iff.1 h0
    have e : sortE [] = [] := List.length_eq_zero_iff.1 (sortE_length [])
    rw [e]
    obtain ⟨A, c, rfl⟩ : ∃ A c, v = .slice A 0 c := by
      rcases h.2 with ⟨rfl, _⟩ | ⟨g, cap, cur, rfl, _⟩
      · exact ⟨_, _, rfl⟩
      · exact ⟨_, _, rfl⟩
    refine (AnyF.slices_SortFunc_none (L := { laysSort with }) A c _ w).mono ?_
    rintro e w' ⟨he, rfl⟩
    exact ⟨he, ⟨fun _ _ => trivial, [], h, Reps.none _ _⟩, Below.refl _ _⟩
  · obtain ⟨g, cap, rfl, hbg, -⟩ := h.form h0
    have hg : g < w.heap.size := own_lt h g (by simp [Value.ownBlock])
    have := AnyQ.slices_SortFunc_eq laysSort 2 Try.isAgg66 Try.sizeOf66 enc2 (fun _ => rfl) (fun x v hv => by simp [enc2] at hv; rcases hv with rfl | rfl <;> rfl) cmpE swoE 103 #[] g 0 cap l.toArray w
      (enters_of Try.func103 (by kernel_rfl) rfl) (cmpLaysE _ _ _ _) (holds66 h) hg (by simp; omega)
    rw [List.size_toArray] at this
    refine this.mono ?_
    rintro e w' ⟨he, n, os, rfl⟩
    exact ⟨he, row_sorted h (by have := sortE_length l; simpa [sortE] using this), below_sorted hbg hb⟩
theorem sortedFunc_E (Bs : Nat) (A : Option Addr) (cap : Nat) (l0 : List S66) (w0 w : World) (hr : Kd.C k66 w0 A l0.length l0) (hw : Below w0.heap.size w0 w)
    (hBs : Bs < w.heap.size) (hc : w.cell? ⟨Bs, 0, none⟩ = some (.slice A l0.length cap)) (hlen : l0.length < 8796093022208) :
    Calls Try.prog 101 #[.func (.func 113) #[] #[.pointer (some ⟨Bs, 0, none⟩)], .func (.func 103) #[] #[]] w fun e w' => ∃ v, e = .returned v ∧ Kd.R k66 66 w' w0.heap.size (fun _ => True) v (sortE l0) ∧ Below w0.heap.size w w' := by
  have hcon := collect_calls Bs A cap l0 w0 w hr hw hBs hc hlen
  have HW := Aside0.mk hw.size
  have HL := Aside0.mk hlen
  clear hr hw hBs hc hlen
  go_enter Try.func101, Try.ntmps101
  go_wp2_with (first
    | (go_at_call 111; refine hcon.mono ?_; rintro e w1 ⟨v, rfl, hrow, hb⟩; have HR := Aside0.mk hrow; have HB := Aside0.mk hb; clear hrow hb)
    | (go_at_call 112; refine (sortFunc_E w0.heap.size _ l0 _ HR.out (Nat.le_trans HW.out HB.out.size) HL.out).mono ?_; rintro e w2 ⟨rfl, hR, hb⟩; have HR2 := Aside0.mk hR; have HB2 := Aside0.mk hb; clear hR hb))
  go_ret
  exact ⟨v, rfl, HR2.out, HB.out.trans HB2.out⟩
theorem space_sorted.calls (A0 : Option Addr) (c0 : Nat) (l0 : List S66) (r : List S66) (w : World) (hr0 : Kd.C k66 w A0 l0.length l0) (hc0 : l0.length ≤ c0) (h : space_sorted.f l0 = some r) :
    Calls Try.prog 83 #[.slice A0 l0.length c0] w fun e w' => ∃ v : Value, e = .returned v ∧ Kd.R k66 66 w' w.heap.size (fun _ => True) v r ∧ Below w.heap.size w w' := by
  unfold space_sorted.f at h
  by_cases hl : l0.length < 8796093022208
  · rw [if_pos hl] at h
    obtain rfl := Option.some.inj h
    clear h
    have hcon := sortedFunc_E w.heap.size A0 c0 l0 w (w.alloc (.cells #[.slice A0 l0.length c0] 62)) hr0 (below_alloc (Below.refl _ _) _) (by simp) (by simp) hl
    clear hr0 hc0 hl
    go_enter Try.func83, Try.ntmps83
    go_wp2_with (first
      | (go_at_call 102; refine (values _ _ _ _).mono ?_; rintro e w' ⟨rfl, rfl⟩)
      | (go_at_call 101; refine hcon.mono ?_; rintro e w' ⟨v, rfl, hR, hb⟩; have HR := Aside0.mk hR; have HB := Aside0.mk hb; clear hR hb))
    go_ret
    exact ⟨v, rfl, HR.out, (below_alloc (Below.refl _ _) _).trans HB.out⟩
  · rw [if_neg hl] at h
    exact absurd h (by simp)
end


/-! ### space_Extent_end: function 84 -/
def space_Extent_end.f (a0_0 : Int) (a0_1 : Int) : Option (Int) := some (wrap64 (a0_0 + a0_1))
set_option maxHeartbeats 8000000 in
set_option maxRecDepth 100000 in
theorem space_Extent_end.calls (a0_0 : Int) (a0_1 : Int) (r : Int) (w : World) (h : space_Extent_end.f a0_0 a0_1 = some r) :
    Calls Try.prog 84 #[.agg #[.int .i64 a0_0, .int .i64 a0_1]] w fun e w' => e = .returned (.int .i64 r) ∧ Below w.heap.size w w' := by
  have hu66 := Try.underlying66
  have HB := Aside0.mk (Below.refl w.heap.size w)
  have H : (some (wrap64 (a0_0 + a0_1))) = some r := h
  clear h
  obtain rfl := Option.some.inj H
  go_enter Try.func84, Try.ntmps84
  go_wp2_with (first | ((with_reducible refine gate_dst (N := 1) rfl ?_); refine box_event ?hg (N := 1) ?hd (cs := #[.int .i64 a0_0, .int .i64 a0_1]) (t := 66) ?hr ?_; (case hd => rfl); (case hg => rfl); (case hr => first | (go_simp; done) | (go_simp; rfl)); intro gb566 hg w2 hbox hb; have n0_ := Aside0.mk (below_step (by repeat (first | (with_reducible first | exact HB.out | apply below_alloc | apply pw_below_drewN | apply below_drew1) | exact HB.out)) hb); have n1_ := Aside0.mk (hbox); have n2_ := Aside0.mk ((by rw [hg]; exact (below_size (by repeat (first | (with_reducible first | exact HB.out | apply below_alloc | apply pw_below_drewN | apply below_drew1) | exact HB.out))) : w.heap.size ≤ gb566)); have n3_ := Aside0.mk ((by rw [hg]; exact (below_size (by repeat (first | (with_reducible first | exact HB.out | apply below_alloc | apply pw_below_drewN | apply below_drew1) | exact HB.out))) : w.heap.size ≤ gb566)); clear HB; have HB := n0_; have BK566 := n1_; have GW566 := n2_; have GE566 := n3_; clear n0_ n1_ n2_ n3_; clear hb hbox hg; have hcz3_0 : w2.cell? ⟨gb566, 0, none⟩ = some (.int .i64 a0_0) := (blk_cell BK566.out 0).trans rfl; have hcz3_1 : w2.cell? ⟨gb566, 1, none⟩ = some (.int .i64 a0_1) := (blk_cell BK566.out 1).trans rfl; have hfz3_0 := blk_frozen BK566.out 0; have hfz3_1 := blk_frozen BK566.out 1))
  go_ret
  exact ⟨by first | rfl | (simp [errW_none, errW_some] <;> rfl) | (simp [*, errW_none, errW_some] <;> rfl), by repeat (first | (with_reducible first | exact HB.out | apply below_alloc | apply pw_below_drewN | apply below_drew1 | refine below_set ?_ GE566.out) | exact HB.out)⟩

/-! ### space_gaps: function 55 -/
def space_gaps.l0 : Nat → Int → List (S66) → List (S66) → Int → Int → Option ((List (S66)) × Bool)
  | 0, _, _, _, _, _ => none
  | k + 1, x0, x8, x16, x17, x18 => if x18 < x17 then (if 0 ≤ x18 then (if x18 < (x16.length : Int) then (if ((rd_T66 x16 x18).f0) < x0 then (some (([] : List (S66)), false)) else (if ((rd_T66 x16 x18).f0) > x0 then (if x8.length < 8796093022208 then ((space_Extent_end.f ((rd_T66 x16 x18).f0) ((rd_T66 x16 x18).f1)).bind fun t578 => (space_gaps.l0 k t578 (x8 ++ [(⟨x0, wrap64 (((rd_T66 x16 x18).f0) - x0)⟩ : S66)]) x16 x17 (wrap64 (x18 + 1)))) else (none)) else ((space_Extent_end.f ((rd_T66 x16 x18).f0) ((rd_T66 x16 x18).f1)).bind fun t579 => (space_gaps.l0 k t579 x8 x16 x17 (wrap64 (x18 + 1)))))) else (none)) else (none)) else (some (x8, true))
def space_gaps.f (k : Nat) (a0 : Int) (a1 : Int) (l2 : List (S66)) : Option ((List (S66)) × Bool) := (space_sorted.f l2).bind fun t567 => (if t567.length < 8796093022208 then ((some (t567 ++ [(⟨a1, 0⟩ : S66)] : List (S66))).bind fun y570 => (space_gaps.l0 k a0 ([] : List (S66)) y570 (y570.length : Int) 0)) else (none))
theorem space_gaps.mono_l : ∀ k, (∀ y0 y1 y2 y3 y4, LeO (space_gaps.l0 k y0 y1 y2 y3 y4) (space_gaps.l0 (k + 1) y0 y1 y2 y3 y4))
  | 0 => fun _ _ _ _ _ r h => by simp [space_gaps.l0] at h
  | k + 1 => by
    have ih0 := space_gaps.mono_l k
    · intro y0 y1 y2 y3 y4
      unfold space_gaps.l0
      repeat' first
      | (with_reducible exact ih0 _ _ _ _ _)
      | (with_reducible exact LeO.refl _)
      | (with_reducible exact LeO.none _)
      | (with_reducible refine LeO.ite ?_ ?_)
      | (with_reducible refine LeO.bind ?_ (fun _ => ?_))
      | exact ih0 _ _ _ _ _
      | exact LeO.none _
      | refine LeO.ite ?_ ?_
      | refine LeO.bind ?_ (fun _ => ?_)
theorem space_gaps.mono : ∀ a0 a1 a2 k, LeO (space_gaps.f k a0 a1 a2) (space_gaps.f (k + 1) a0 a1 a2) := by
  intro a0 a1 a2 k
  have ih0 := space_gaps.mono_l k
  unfold space_gaps.f
  repeat' first
      | (with_reducible exact ih0 _ _ _ _ _)
      | (with_reducible exact LeO.refl _)
      | (with_reducible exact LeO.none _)
      | (with_reducible refine LeO.ite ?_ ?_)
      | (with_reducible refine LeO.bind ?_ (fun _ => ?_))
      | exact ih0 _ _ _ _ _
      | exact LeO.none _
      | refine LeO.ite ?_ ?_
      | refine LeO.bind ?_ (fun _ => ?_)
set_option maxHeartbeats 8000000 in
set_option maxRecDepth 100000 in
theorem space_gaps.calls (k : Nat) (a0 : Int) (a1 : Int) (A2 : Option Addr) (c2 : Nat) (l2 : List (S66)) (r1 : List (S66)) (r2 : Bool) (w : World) (hr2 : Kd.C k66 w A2 l2.length l2) (hc2 : l2.length ≤ c2) (h : space_gaps.f k a0 a1 l2 = some (r1, r2)) :
    Calls Try.prog 55 #[.int .i64 a0, .int .i64 a1, .slice A2 l2.length c2] w fun e w' => ∃ v0_ : Value, e = .returned (.tuple #[v0_, .bool r2]) ∧ Kd.R k66 66 w' w.heap.size (fun _ => True) v0_ r1 ∧ Below w.heap.size w w' := by
  have hu66 := Try.underlying66
  have HR2 := Aside0.mk hr2
  have HC2 := Aside0.mk hc2
  clear hr2 hc2
  have HB := Aside0.mk (Below.refl w.heap.size w)
  have H : ((space_sorted.f l2).bind fun t567 => (if t567.length < 8796093022208 then ((some (t567 ++ [(⟨a1, 0⟩ : S66)] : List (S66))).bind fun y570 => (space_gaps.l0 k a0 ([] : List (S66)) y570 (y570.length : Int) 0)) else (none))) = some (r1, r2) := h
  clear h
  replace H := Option.bind_eq_some_iff.mp H
  obtain ⟨t567, A40, H⟩ := H
  replace H : (if t567.length < 8796093022208 then ((some (t567 ++ [(⟨a1, 0⟩ : S66)] : List (S66))).bind fun y570 => (space_gaps.l0 k a0 ([] : List (S66)) y570 (y570.length : Int) 0)) else (none)) = some (r1, r2) := H
  have A4 := Aside0.mk A40
  clear A40
  by_cases c5 : t567.length < 8796093022208
  · rw [if_pos c5] at H
    have LMc5 := Aside0.mk c5
    clear c5
    obtain ⟨y570, hy570⟩ : ∃ y_ : List (S66), y_ = (t567 ++ [(⟨a1, 0⟩ : S66)]) := ⟨_, rfl⟩
    replace H : (space_gaps.l0 k a0 ([] : List (S66)) y570 (y570.length : Int) 0) = some (r1, r2) := by first | (rw [hy570]; with_reducible exact H) | (have H2_ := (Option.bind_some _ _).symm.trans H; rw [hy570]; with_reducible exact H2_) | (have H2_ := (Option.bind_some _ _).symm.trans H; with_reducible exact H2_) | with_reducible exact H | (rw [hy570]; exact H) | exact H
    have Ny570 := Aside0.mk hy570
    clear hy570
    have H' := Aside0.mk H
    clear H
    go_enter Try.func55, Try.ntmps55
    go_wp2_with (first | ((with_reducible refine gate_callee (f := 83) rfl ?_); refine goesL_ (some 12) rfl rfl Try.func83 (by kernel_rfl) rfl #[.slice A2 l2.length c2] rfl (by (try simp only [List.map_toArray, List.map_cons, List.map_nil]); first | done | rfl | (simp only [List.length_drop, List.length_take]; rfl)) ?_; (with_reducible refine (space_sorted.calls _ _ l2 t567 _ ?side1 ?side2 A4.out).mono ?_); (case side1 => repeat (first | exact HR2.out | (with_reducible refine Kd.C_alloc ?_ _) | (with_reducible refine Kd.C_drewN ?_ _) | (with_reducible refine Kd.C_drew ?_))); (case side2 => exact HC2.out); rintro e w6 ⟨v568, rfl, ho0, hb⟩; refine ⟨_, rfl, ?_⟩; have n0_ := Aside0.mk (Kd.R_lower ho0 (below_size (by repeat (first | (with_reducible first | exact HB.out | apply below_alloc | apply pw_below_drewN | apply below_drew1) | exact HB.out)))); have n1_ := Aside0.mk (below_step (by repeat (first | (with_reducible first | exact HB.out | apply below_alloc | apply pw_below_drewN | apply below_drew1) | exact HB.out)) hb); clear HB; have HO569 := n0_; have HB := n1_; clear n0_ n1_; (try clear hb); (try clear hb2); (try clear hk); (try clear hi); (try clear ho0)) | ((with_reducible refine gate_builtin (b := .append) (xs := #[.tmp 12, .tmp 15]) rfl ?_); at_builtin; refine Kd.R_append k66 (w0 := w) w.heap.size rfl (.tmp 12) (.tmp 15) 62 66 (.agg #[(.int .i64 0), (.int .i64 0)]) 16 rfl Try.underlying62 info66 rfl (by decide) (by omega) v568 t567 (⟨a1, 0⟩ : S66) [.int .i64 a1, .int .i64 0] (fun _ => True) (fun _ => False) rfl rfl ?aP (fun _ hk => hk.elim) ?aF ?aO ?aB ?aS ?aL ?_; (case aP => exact k66_mkM _ _ _ (⟨a1, 0⟩ : S66)); (case aB => exact (by repeat (first | (with_reducible first | exact HB.out | apply below_alloc | apply pw_below_drewN | apply below_drew1) | exact HB.out))); (case aF => exact (fun _ _ => trivial)); (case aO => exact (by (with_reducible repeat (first | apply Kd.R_alloc | apply Kd.R_drewN | apply Kd.R_drew)); exact HO569.out)); (case aS => exact (below_size (by repeat (first | (with_reducible first | exact HB.out | apply below_alloc | apply pw_below_drewN | apply below_drew1) | exact HB.out)))); (case aL => have := LMc5.out; omega); intro v571 w7 ho hb hg hat; rw [← Ny570.out] at ho; have n0_ := Aside0.mk (hb); have n1_ := Aside0.mk (ho); clear HB; clear HO569; have HB := n0_; have HO572 := n1_; clear n0_ n1_; clear ho hb hg hat; obtain ⟨Ao8, co8, eo8⟩ := Kd.R_slice HO572.out; subst eo8))
    go_loopg [0, 8, 18] k (fun kq v0 v8 v18 w' => ∃ (x0_1 : Int) (x8_1 : List (S66)) (x18_1 : Int), v0 = .int .i64 x0_1 ∧ v18 = .int .i64 x18_1 ∧ Aside0 (space_gaps.l0 kq x0_1 x8_1 y570 (y570.length : Int) x18_1 = some (r1, r2)) ∧ Aside0 (kq ≤ k) ∧ Aside0 (Kd.R k66 66 w' w.heap.size (fun k_ => some k_ ≠ ((.slice Ao8 y570.length co8) : Value).ownBlock) v8 x8_1) ∧ Aside0 (Kd.R k66 66 w' w.heap.size (fun k_ => some k_ ≠ (v8 : Value).ownBlock) (.slice Ao8 y570.length co8) y570) ∧ Aside0 (Below w.heap.size w w'))
    case atStart => exact ⟨(a0), (([] : List (S66))), (0), (by first | rfl | (simp; done) | (simp [*]; done)), (by first | rfl | (simp; done) | (simp [*]; done)), H', ⟨Nat.le_refl _⟩, ⟨by first | exact Kd.R_nil _ _ _ _ _ | exact Kd.N_nil _ _ _ _ _ | exact Kd.V_nil _ _ _ _ _ | exact Kd.Q_nil _ _ _ _ _ | exact Kd.S_nil _ _ _ _ _⟩, ⟨by (with_reducible repeat (first | apply Kd.R_alloc | apply Kd.R_drewN | apply Kd.R_drew)); exact Kd.R_mono HO572.out (fun _ hk => (by simp [Value.ownBlock]))⟩, ⟨by repeat (first | (with_reducible first | exact HB.out | apply below_alloc | apply pw_below_drewN | apply below_drew1) | exact HB.out)⟩⟩
    case round =>
      clear H'
      try clear c2
      try clear p2
      try clear c5
      try clear c8
      obtain ⟨x0_1, x8_1, x18_1, rfl, rfl, HA, HK1, HO_8, HO_16, HB⟩ := hrel
      cases gk with
      | zero => exact absurd HA.out (by simp [space_gaps.l0])
      | succ k1 =>
        have H := HA.out
        clear HA
        simp only [space_gaps.l0] at H
        by_cases c9 : x18_1 < (y570.length : Int)
        · rw [if_pos c9] at H
          have c9b0 : decide (x18_1 < (y570.length : Int)) = true := decide_eq_true c9
          clear c9
          by_cases c10 : 0 ≤ x18_1
          · rw [if_pos c10] at H
            have c10b0 : decide (0 ≤ x18_1) = true := decide_eq_true c10
            clear c10
            by_cases c11 : x18_1 < (y570.length : Int)
            · rw [if_pos c11] at H
              have c11b0 : decide (x18_1 < (y570.length : Int)) = true := decide_eq_true c11
              clear c11
              by_cases c12 : ((rd_T66 y570 x18_1).f0) < x0_1
              · rw [if_pos c12] at H
                have c12b0 : decide (((rd_T66 y570 x18_1).f0) < x0_1) = true := decide_eq_true c12
                clear c12
                simp only [Option.some.injEq, Prod.mk.injEq] at H
                obtain ⟨rfl, rfl⟩ := H
                have p573 : 0 ≤ (x18_1 : Int) := of_decide_eq_true (by first | (with_reducible assumption) | assumption)
                have q573 : x18_1 < (y570.length : Int) := of_decide_eq_true (by first | (with_reducible assumption) | assumption)
                obtain ⟨ad573, e573, hx573_0, hx573_1⟩ := at_T66 (Kd.R_reads' HO_16.out).2.2 x18_1 p573 q573
                cases e573
                replace p573 := eq_true p573
                replace q573 := eq_true q573
                go_wp2_with (first | ((with_reducible refine gate_dst (N := 10) rfl ?_); refine box_event ?hg (N := 10) ?hd (cs := #[.int .i64 0, .int .i64 0]) (t := 66) ?hr ?_; (case hd => rfl); (case hg => rfl); (case hr => first | (go_simp; done) | (go_simp; rfl)); intro gb574 hg w13 hbox hb; have n0_ := Aside0.mk (Kd.R_below (Kd.R_elderB (by (with_reducible repeat (first | apply Kd.R_alloc | apply Kd.R_drewN | apply Kd.R_drew)); exact HO_8.out) gb574 (Nat.le_of_eq hg.symm)) hb); have n1_ := Aside0.mk (Kd.R_below (Kd.R_elderB (by (with_reducible repeat (first | apply Kd.R_alloc | apply Kd.R_drewN | apply Kd.R_drew)); exact HO_16.out) gb574 (Nat.le_of_eq hg.symm)) hb); have n2_ := Aside0.mk (below_step (by repeat (first | (with_reducible first | exact HB.out | apply below_alloc | apply pw_below_drewN | apply below_drew1) | exact HB.out)) hb); have n3_ := Aside0.mk (hbox); have n4_ := Aside0.mk ((by rw [hg]; exact (below_size (by repeat (first | (with_reducible first | exact HB.out | apply below_alloc | apply pw_below_drewN | apply below_drew1) | exact HB.out))) : w.heap.size ≤ gb574)); have n5_ := Aside0.mk ((by rw [hg]; exact (below_size (by repeat (first | (with_reducible first | exact HB.out | apply below_alloc | apply pw_below_drewN | apply below_drew1) | exact HB.out))) : w.heap.size ≤ gb574)); clear HO_8; clear HO_16; clear HB; have HO_8 := n0_; have HO_16 := n1_; have HB := n2_; have BK574 := n3_; have GW574 := n4_; have GE574 := n5_; clear n0_ n1_ n2_ n3_ n4_ n5_; clear hb hbox hg; have hcz14_0 : w13.cell? ⟨gb574, 0, none⟩ = some (.int .i64 0) := (blk_cell BK574.out 0).trans rfl; have hcz14_1 : w13.cell? ⟨gb574, 1, none⟩ = some (.int .i64 0) := (blk_cell BK574.out 1).trans rfl; have hfz14_0 := blk_frozen BK574.out 0; have hfz14_1 := blk_frozen BK574.out 1))
                go_ret2
                exact ⟨_, by first | rfl | (simp [errW_none, errW_some] <;> rfl) | (simp [*, errW_none, errW_some] <;> rfl), by first | exact Kd.R_nil _ _ _ _ _ | exact Kd.N_nil _ _ _ _ _ | exact Kd.V_nil _ _ _ _ _ | exact Kd.Q_nil _ _ _ _ _ | exact Kd.S_nil _ _ _ _ _, by repeat (first | (with_reducible first | exact HB.out | apply below_alloc | apply pw_below_drewN | apply below_drew1 | refine below_set ?_ GE574.out) | exact HB.out)⟩
              · rw [if_neg c12] at H
                have c12b0 : decide (((rd_T66 y570 x18_1).f0) < x0_1) = false := decide_eq_false c12
                clear c12
                by_cases c15 : ((rd_T66 y570 x18_1).f0) > x0_1
                · rw [if_pos c15] at H
                  have c15b0 : decide (x0_1 < ((rd_T66 y570 x18_1).f0)) = true := decide_eq_true c15
                  clear c15
                  by_cases c16 : x8_1.length < 8796093022208
                  · rw [if_pos c16] at H
                    have LMc16 := Aside0.mk c16
                    clear c16
                    obtain ⟨y575, hy575⟩ : ∃ y_ : List (S66), y_ = (x8_1 ++ [(⟨x0_1, wrap64 (((rd_T66 y570 x18_1).f0) - x0_1)⟩ : S66)]) := ⟨_, rfl⟩
                    replace H : ((space_Extent_end.f ((rd_T66 y570 x18_1).f0) ((rd_T66 y570 x18_1).f1)).bind fun t578 => (space_gaps.l0 k1 t578 y575 y570 (y570.length : Int) (wrap64 (x18_1 + 1)))) = some (r1, r2) := by first | (rw [hy575]; with_reducible exact H) | (have H2_ := (Option.bind_some _ _).symm.trans H; rw [hy575]; with_reducible exact H2_) | (have H2_ := (Option.bind_some _ _).symm.trans H; with_reducible exact H2_) | with_reducible exact H | (rw [hy575]; exact H) | exact H
                    have Ny575 := Aside0.mk hy575
                    clear hy575
                    replace H := Option.bind_eq_some_iff.mp H
                    obtain ⟨t578, A170, H⟩ := H
                    replace H : (space_gaps.l0 k1 t578 y575 y570 (y570.length : Int) (wrap64 (x18_1 + 1))) = some (r1, r2) := H
                    have A17 := Aside0.mk A170
                    clear A170
                    have H' := Aside0.mk H
                    clear H
                    have p573 : 0 ≤ (x18_1 : Int) := of_decide_eq_true (by first | (with_reducible assumption) | assumption)
                    have q573 : x18_1 < (y570.length : Int) := of_decide_eq_true (by first | (with_reducible assumption) | assumption)
                    obtain ⟨ad573, e573, hx573_0, hx573_1⟩ := at_T66 (Kd.R_reads' HO_16.out).2.2 x18_1 p573 q573
                    cases e573
                    replace p573 := eq_true p573
                    replace q573 := eq_true q573
                    go_wp2_with (first | ((with_reducible refine gate_dst (N := 10) rfl ?_); refine box_event ?hg (N := 10) ?hd (cs := #[.int .i64 0, .int .i64 0]) (t := 66) ?hr ?_; (case hd => rfl); (case hg => rfl); (case hr => first | (go_simp; done) | (go_simp; rfl)); intro gb574 hg w18 hbox hb; have n0_ := Aside0.mk (Kd.R_below (Kd.R_elderB (by (with_reducible repeat (first | apply Kd.R_alloc | apply Kd.R_drewN | apply Kd.R_drew)); exact HO_8.out) gb574 (Nat.le_of_eq hg.symm)) hb); have n1_ := Aside0.mk (Kd.R_below (Kd.R_elderB (by (with_reducible repeat (first | apply Kd.R_alloc | apply Kd.R_drewN | apply Kd.R_drew)); exact HO_16.out) gb574 (Nat.le_of_eq hg.symm)) hb); have n2_ := Aside0.mk (below_step (by repeat (first | (with_reducible first | exact HB.out | apply below_alloc | apply pw_below_drewN | apply below_drew1) | exact HB.out)) hb); have n3_ := Aside0.mk (hbox); have n4_ := Aside0.mk ((by rw [hg]; exact (below_size (by repeat (first | (with_reducible first | exact HB.out | apply below_alloc | apply pw_below_drewN | apply below_drew1) | exact HB.out))) : w.heap.size ≤ gb574)); have n5_ := Aside0.mk ((by rw [hg]; exact (below_size (by repeat (first | (with_reducible first | exact HB.out | apply below_alloc | apply pw_below_drewN | apply below_drew1) | exact HB.out))) : w.heap.size ≤ gb574)); clear HO_8; clear HO_16; clear HB; have HO_8 := n0_; have HO_16 := n1_; have HB := n2_; have BK574 := n3_; have GW574 := n4_; have GE574 := n5_; clear n0_ n1_ n2_ n3_ n4_ n5_; clear hb hbox hg; have hcz19_0 : w18.cell? ⟨gb574, 0, none⟩ = some (.int .i64 0) := (blk_cell BK574.out 0).trans rfl; have hcz19_1 : w18.cell? ⟨gb574, 1, none⟩ = some (.int .i64 0) := (blk_cell BK574.out 1).trans rfl; have hfz19_0 := blk_frozen BK574.out 0; have hfz19_1 := blk_frozen BK574.out 1) | ((with_reducible refine gate_builtin (b := .append) (xs := #[.tmp 30, .tmp 37]) rfl ?_); at_builtin; refine Kd.R_append k66 (w0 := w) w.heap.size rfl (.tmp 30) (.tmp 37) 62 66 (.agg #[(.int .i64 0), (.int .i64 0)]) 16 rfl Try.underlying62 info66 rfl (by decide) (by omega) u8 x8_1 (⟨x0_1, wrap64 (((rd_T66 y570 x18_1).f0) - x0_1)⟩ : S66) [.int .i64 x0_1, .int .i64 (wrap64 (((rd_T66 y570 x18_1).f0) - x0_1))] (fun k_ => some k_ ≠ (.slice (some ad573) y570.length co8 : Value).ownBlock ∧ k_ ≠ gb574) (fun _ => False) rfl (by first | (go_simp; done) | (go_simp; rfl)) ?aP (fun _ hk => hk.elim) ?aF ?aO ?aB ?aS ?aL ?_; (case aP => exact k66_mkM _ _ _ (⟨x0_1, wrap64 (((rd_T66 y570 x18_1).f0) - x0_1)⟩ : S66)); (case aB => exact (by repeat (first | (with_reducible first | exact HB.out | apply below_alloc | apply pw_below_drewN | apply below_drew1 | refine below_set ?_ GE574.out) | exact HB.out))); (case aF => exact (fun k_ hk => ⟨Kd.fresh' (Kd.R_lt (by (with_reducible repeat (first | apply Kd.R_alloc | apply Kd.R_drewN | apply Kd.R_drew)); exact (Kd.R_mono (Kd.R_far (p := ⟨gb574, 1, none⟩) (Kd.R_far (p := ⟨gb574, 0, none⟩) (Kd.R_mono HO_16.out (fun k_ hk => (⟨hk, hk.2⟩ : _ ∧ k_ ≠ gb574))) (fun _ hk => hk.2) (.int .i64 ((rd_T66 y570 x18_1).f0))) (fun _ hk => hk.2) (.int .i64 ((rd_T66 y570 x18_1).f1))) (fun _ h_ => h_.1)))) k_ hk, Kd.freshB (g := gb574) (o := .cells #[.int .i64 ((rd_T66 y570 x18_1).f0), .int .i64 ((rd_T66 y570 x18_1).f1)] 66 (0, 0)) (by (with_reducible repeat (first | refine blk_drewN ?_ _ | refine blk_drew ?_ | refine blk_alloc ?_ _)); refine blk_put (cs := #[.int .i64 ((rd_T66 y570 x18_1).f0), .int .i64 0]) ?_ 1 _ rfl; (with_reducible repeat (first | refine blk_drewN ?_ _ | refine blk_drew ?_ | refine blk_alloc ?_ _)); refine blk_put (cs := #[.int .i64 0, .int .i64 0]) ?_ 0 _ rfl; (with_reducible repeat (first | refine blk_drewN ?_ _ | refine blk_drew ?_ | refine blk_alloc ?_ _)); exact BK574.out) k_ hk⟩)); (case aO => exact (by (with_reducible repeat (first | apply Kd.R_alloc | apply Kd.R_drewN | apply Kd.R_drew)); exact Kd.R_mono (Kd.R_far (p := ⟨gb574, 1, none⟩) (Kd.R_far (p := ⟨gb574, 0, none⟩) (Kd.R_mono HO_8.out (fun k_ hk => (⟨hk, hk.2⟩ : _ ∧ k_ ≠ gb574))) (fun _ hk => hk.2) (.int .i64 ((rd_T66 y570 x18_1).f0))) (fun _ hk => hk.2) (.int .i64 ((rd_T66 y570 x18_1).f1))) (fun _ hk => ⟨hk.1.1, hk.1.2⟩))); (case aS => exact (below_size (by repeat (first | (with_reducible first | exact HB.out | apply below_alloc | apply pw_below_drewN | apply below_drew1 | refine below_set ?_ GE574.out) | exact HB.out)))); (case aL => have := LMc16.out; omega); intro v576 w20 ho hb hg hat; rw [← Ny575.out] at ho; have n0_ := Aside0.mk (Kd.R_after (ok := (fun k_ => k_ ≠ gb574)) (by (with_reducible repeat (first | apply Kd.R_alloc | apply Kd.R_drewN | apply Kd.R_drew)); exact Kd.R_mono (Kd.R_far (p := ⟨gb574, 1, none⟩) (Kd.R_far (p := ⟨gb574, 0, none⟩) (Kd.R_mono HO_16.out (fun k_ hk => (⟨hk, hk.2⟩ : _ ∧ k_ ≠ gb574))) (fun _ hk => hk.2) (.int .i64 ((rd_T66 y570 x18_1).f0))) (fun _ hk => hk.2) (.int .i64 ((rd_T66 y570 x18_1).f1))) (fun _ hk => ⟨hk.1.2, hk.1.1⟩)) hg hat); have n1_ := Aside0.mk (blk_grown (g := gb574) (o := .cells #[.int .i64 ((rd_T66 y570 x18_1).f0), .int .i64 ((rd_T66 y570 x18_1).f1)] 66 (0, 0)) (by (with_reducible repeat (first | refine blk_drewN ?_ _ | refine blk_drew ?_ | refine blk_alloc ?_ _)); refine blk_put (cs := #[.int .i64 ((rd_T66 y570 x18_1).f0), .int .i64 0]) ?_ 1 _ rfl; (with_reducible repeat (first | refine blk_drewN ?_ _ | refine blk_drew ?_ | refine blk_alloc ?_ _)); refine blk_put (cs := #[.int .i64 0, .int .i64 0]) ?_ 0 _ rfl; (with_reducible repeat (first | refine blk_drewN ?_ _ | refine blk_drew ?_ | refine blk_alloc ?_ _)); exact BK574.out) hg (Kd.R_away HO_8.out (fun _ hk => hk.2))); have n2_ := Aside0.mk (hb); have n3_ := Aside0.mk (ho); clear HO_16; clear BK574; clear HB; clear HO_8; have HO_16 := n0_; have BK574 := n1_; have HB := n2_; have HO577 := n3_; clear n0_ n1_ n2_ n3_; clear ho hb hg hat; have hcz21_0 : w20.cell? ⟨gb574, 0, none⟩ = some (.int .i64 ((rd_T66 y570 x18_1).f0)) := (blk_cell BK574.out 0).trans rfl; have hcz21_1 : w20.cell? ⟨gb574, 1, none⟩ = some (.int .i64 ((rd_T66 y570 x18_1).f1)) := (blk_cell BK574.out 1).trans rfl; have hfz21_0 := blk_frozen BK574.out 0; have hfz21_1 := blk_frozen BK574.out 1) | ((with_reducible refine gate_callee (f := 84) rfl ?_); refine goesL_ (some 40) rfl rfl Try.func84 (by kernel_rfl) rfl #[.agg #[.int .i64 ((rd_T66 y570 x18_1).f0), .int .i64 ((rd_T66 y570 x18_1).f1)]] rfl (by (try simp only [List.map_toArray, List.map_cons, List.map_nil]); first | done | rfl | (simp only [List.length_drop, List.length_take]; rfl)) ?_; (with_reducible refine (space_Extent_end.calls ((rd_T66 y570 x18_1).f0) ((rd_T66 y570 x18_1).f1) t578 _ A17.out).mono ?_); rintro e w22 ⟨rfl, hb⟩; refine ⟨_, rfl, ?_⟩; have n0_ := Aside0.mk (Kd.R_below (by (with_reducible repeat (first | apply Kd.R_alloc | apply Kd.R_drewN | apply Kd.R_drew)); exact HO_16.out) hb); have n1_ := Aside0.mk (Kd.R_below (by (with_reducible repeat (first | apply Kd.R_alloc | apply Kd.R_drewN | apply Kd.R_drew)); exact HO577.out) hb); have n2_ := Aside0.mk (blk_below (g := gb574) (o := .cells #[.int .i64 ((rd_T66 y570 x18_1).f0), .int .i64 ((rd_T66 y570 x18_1).f1)] 66 (0, 0)) (by (with_reducible repeat (first | refine blk_drewN ?_ _ | refine blk_drew ?_ | refine blk_alloc ?_ _)); exact BK574.out) hb); have n3_ := Aside0.mk (below_step (by repeat (first | (with_reducible first | exact HB.out | apply below_alloc | apply pw_below_drewN | apply below_drew1 | refine below_set ?_ GE574.out) | exact HB.out)) hb); clear HO_16; clear HO577; clear BK574; clear HB; have HO_16 := n0_; have HO577 := n1_; have BK574 := n2_; have HB := n3_; clear n0_ n1_ n2_ n3_; (try clear hb); (try clear hb2); (try clear hk); (try clear hi)))
                    go_roundg k1
                    case measure => have := HK1.out; omega
                    case rel => exact ⟨(t578), (y575), (wrap64 (x18_1 + 1)), (by first | rfl | (simp; done) | (simp [*]; done)), (by first | rfl | (simp; done) | (simp [*]; done)), H', ⟨by have := HK1.out; omega⟩, ⟨by (with_reducible repeat (first | apply Kd.R_alloc | apply Kd.R_drewN | apply Kd.R_drew)); exact Kd.R_mono HO577.out (fun _ hk => hk.1)⟩, ⟨by (with_reducible repeat (first | apply Kd.R_alloc | apply Kd.R_drewN | apply Kd.R_drew)); exact Kd.R_mono HO_16.out (fun _ hk => hk.2)⟩, ⟨by repeat (first | (with_reducible first | exact HB.out | apply below_alloc | apply pw_below_drewN | apply below_drew1 | refine below_set ?_ GE574.out) | exact HB.out)⟩⟩
                  · rw [if_neg c16] at H
                    exact absurd H (by simp)
                · rw [if_neg c15] at H
                  have c15b0 : decide (x0_1 < ((rd_T66 y570 x18_1).f0)) = false := decide_eq_false c15
                  clear c15
                  replace H := Option.bind_eq_some_iff.mp H
                  obtain ⟨t579, A230, H⟩ := H
                  replace H : (space_gaps.l0 k1 t579 x8_1 y570 (y570.length : Int) (wrap64 (x18_1 + 1))) = some (r1, r2) := H
                  have A23 := Aside0.mk A230
                  clear A230
                  have H' := Aside0.mk H
                  clear H
                  have p573 : 0 ≤ (x18_1 : Int) := of_decide_eq_true (by first | (with_reducible assumption) | assumption)
                  have q573 : x18_1 < (y570.length : Int) := of_decide_eq_true (by first | (with_reducible assumption) | assumption)
                  obtain ⟨ad573, e573, hx573_0, hx573_1⟩ := at_T66 (Kd.R_reads' HO_16.out).2.2 x18_1 p573 q573
                  cases e573
                  replace p573 := eq_true p573
                  replace q573 := eq_true q573
                  go_wp2_with (first | ((with_reducible refine gate_dst (N := 10) rfl ?_); refine box_event ?hg (N := 10) ?hd (cs := #[.int .i64 0, .int .i64 0]) (t := 66) ?hr ?_; (case hd => rfl); (case hg => rfl); (case hr => first | (go_simp; done) | (go_simp; rfl)); intro gb574 hg w24 hbox hb; have n0_ := Aside0.mk (Kd.R_below (Kd.R_elderB (by (with_reducible repeat (first | apply Kd.R_alloc | apply Kd.R_drewN | apply Kd.R_drew)); exact HO_8.out) gb574 (Nat.le_of_eq hg.symm)) hb); have n1_ := Aside0.mk (Kd.R_below (Kd.R_elderB (by (with_reducible repeat (first | apply Kd.R_alloc | apply Kd.R_drewN | apply Kd.R_drew)); exact HO_16.out) gb574 (Nat.le_of_eq hg.symm)) hb); have n2_ := Aside0.mk (below_step (by repeat (first | (with_reducible first | exact HB.out | apply below_alloc | apply pw_below_drewN | apply below_drew1) | exact HB.out)) hb); have n3_ := Aside0.mk (hbox); have n4_ := Aside0.mk ((by rw [hg]; exact (below_size (by repeat (first | (with_reducible first | exact HB.out | apply below_alloc | apply pw_below_drewN | apply below_drew1) | exact HB.out))) : w.heap.size ≤ gb574)); have n5_ := Aside0.mk ((by rw [hg]; exact (below_size (by repeat (first | (with_reducible first | exact HB.out | apply below_alloc | apply pw_below_drewN | apply below_drew1) | exact HB.out))) : w.heap.size ≤ gb574)); clear HO_8; clear HO_16; clear HB; have HO_8 := n0_; have HO_16 := n1_; have HB := n2_; have BK574 := n3_; have GW574 := n4_; have GE574 := n5_; clear n0_ n1_ n2_ n3_ n4_ n5_; clear hb hbox hg; have hcz25_0 : w24.cell? ⟨gb574, 0, none⟩ = some (.int .i64 0) := (blk_cell BK574.out 0).trans rfl; have hcz25_1 : w24.cell? ⟨gb574, 1, none⟩ = some (.int .i64 0) := (blk_cell BK574.out 1).trans rfl; have hfz25_0 := blk_frozen BK574.out 0; have hfz25_1 := blk_frozen BK574.out 1) | ((with_reducible refine gate_callee (f := 84) rfl ?_); refine goesL_ (some 40) rfl rfl Try.func84 (by kernel_rfl) rfl #[.agg #[.int .i64 ((rd_T66 y570 x18_1).f0), .int .i64 ((rd_T66 y570 x18_1).f1)]] rfl (by (try simp only [List.map_toArray, List.map_cons, List.map_nil]); first | done | rfl | (simp only [List.length_drop, List.length_take]; rfl)) ?_; (with_reducible refine (space_Extent_end.calls ((rd_T66 y570 x18_1).f0) ((rd_T66 y570 x18_1).f1) t579 _ A23.out).mono ?_); rintro e w26 ⟨rfl, hb⟩; refine ⟨_, rfl, ?_⟩; have n0_ := Aside0.mk (Kd.R_below (by (with_reducible repeat (first | apply Kd.R_alloc | apply Kd.R_drewN | apply Kd.R_drew)); exact (Kd.R_mono (Kd.R_far (p := ⟨gb574, 1, none⟩) (Kd.R_far (p := ⟨gb574, 0, none⟩) (Kd.R_mono HO_8.out (fun k_ hk => (⟨hk, hk.2⟩ : _ ∧ k_ ≠ gb574))) (fun _ hk => hk.2) (.int .i64 ((rd_T66 y570 x18_1).f0))) (fun _ hk => hk.2) (.int .i64 ((rd_T66 y570 x18_1).f1))) (fun _ h_ => h_.1))) hb); have n1_ := Aside0.mk (Kd.R_below (by (with_reducible repeat (first | apply Kd.R_alloc | apply Kd.R_drewN | apply Kd.R_drew)); exact (Kd.R_mono (Kd.R_far (p := ⟨gb574, 1, none⟩) (Kd.R_far (p := ⟨gb574, 0, none⟩) (Kd.R_mono HO_16.out (fun k_ hk => (⟨hk, hk.2⟩ : _ ∧ k_ ≠ gb574))) (fun _ hk => hk.2) (.int .i64 ((rd_T66 y570 x18_1).f0))) (fun _ hk => hk.2) (.int .i64 ((rd_T66 y570 x18_1).f1))) (fun _ h_ => h_.1))) hb); have n2_ := Aside0.mk (blk_below (g := gb574) (o := .cells #[.int .i64 ((rd_T66 y570 x18_1).f0), .int .i64 ((rd_T66 y570 x18_1).f1)] 66 (0, 0)) (by (with_reducible repeat (first | refine blk_drewN ?_ _ | refine blk_drew ?_ | refine blk_alloc ?_ _)); refine blk_put (cs := #[.int .i64 ((rd_T66 y570 x18_1).f0), .int .i64 0]) ?_ 1 _ rfl; (with_reducible repeat (first | refine blk_drewN ?_ _ | refine blk_drew ?_ | refine blk_alloc ?_ _)); refine blk_put (cs := #[.int .i64 0, .int .i64 0]) ?_ 0 _ rfl; (with_reducible repeat (first | refine blk_drewN ?_ _ | refine blk_drew ?_ | refine blk_alloc ?_ _)); exact BK574.out) hb); have n3_ := Aside0.mk (below_step (by repeat (first | (with_reducible first | exact HB.out | apply below_alloc | apply pw_below_drewN | apply below_drew1 | refine below_set ?_ GE574.out) | exact HB.out)) hb); clear HO_8; clear HO_16; clear BK574; clear HB; have HO_8 := n0_; have HO_16 := n1_; have BK574 := n2_; have HB := n3_; clear n0_ n1_ n2_ n3_; (try clear hb); (try clear hb2); (try clear hk); (try clear hi)))
                  go_roundg k1
                  case measure => have := HK1.out; omega
                  case rel => exact ⟨(t579), (x8_1), (wrap64 (x18_1 + 1)), (by first | rfl | (simp; done) | (simp [*]; done)), (by first | rfl | (simp; done) | (simp [*]; done)), H', ⟨by have := HK1.out; omega⟩, ⟨by (with_reducible repeat (first | apply Kd.R_alloc | apply Kd.R_drewN | apply Kd.R_drew)); exact Kd.R_mono HO_8.out (fun _ hk => hk.1)⟩, ⟨by (with_reducible repeat (first | apply Kd.R_alloc | apply Kd.R_drewN | apply Kd.R_drew)); exact Kd.R_mono HO_16.out (fun _ hk => hk.1)⟩, ⟨by repeat (first | (with_reducible first | exact HB.out | apply below_alloc | apply pw_below_drewN | apply below_drew1 | refine below_set ?_ GE574.out) | exact HB.out)⟩⟩
            · rw [if_neg c11] at H
              exact absurd H (by simp)
          · rw [if_neg c10] at H
            exact absurd H (by simp)
        · rw [if_neg c9] at H
          have c9b0 : decide (x18_1 < (y570.length : Int)) = false := decide_eq_false c9
          clear c9
          simp only [Option.some.injEq, Prod.mk.injEq] at H
          obtain ⟨rfl, rfl⟩ := H
          go_wp2
          go_ret2
          exact ⟨_, by first | rfl | (simp [errW_none, errW_some] <;> rfl) | (simp [*, errW_none, errW_some] <;> rfl), by (with_reducible repeat (first | apply Kd.R_alloc | apply Kd.R_drewN | apply Kd.R_drew)); exact Kd.R_mono HO_8.out (fun _ hk => trivial), by repeat (first | (with_reducible first | exact HB.out | apply below_alloc | apply pw_below_drewN | apply below_drew1) | exact HB.out)⟩
  · rw [if_neg c5] at H
    exact absurd H (by simp)

-- NOT PRINTED: function 56 (slices_IndexFunc_space_Extent_space_Extent)

-- NOT PRINTED: function 59 (slices_ContainsFunc_space_Extent_space_Extent)

/-! ### space_Right: function 36 -/

section
open Go.Shelf
def rBad (a b : Int) (x : S66) : Bool := decide (x.f0 < a) || decide (x.f1 < 1) || decide (b < x.f1) || decide (b - x.f1 < x.f0)
set_option maxHeartbeats 2000000 in
theorem space_Right_1.calls (x : S66) (g0 g1 : Nat) (a b : Int) (w : World) (hb0 : 0 ≤ b) (hb1 : b ≤ 2147483647) (h0 : w.cell? ⟨g0, 0, none⟩ = some (.int .i64 a)) (h1 : w.cell? ⟨g1, 0, none⟩ = some (.int .i64 b)) :
    Calls Try.prog 60 #[.agg #[.int .i64 x.f0, .int .i64 x.f1], .pointer (some ⟨g0, 0, none⟩), .pointer (some ⟨g1, 0, none⟩)] w fun e w' => e = .returned (.bool (rBad a b x)) ∧ Below w.heap.size w w' := by
  obtain ⟨x0, x1⟩ := x
  unfold rBad
  dsimp only
  have g0 : ∀ o, (w.alloc o).cell? ⟨g0, 0, none⟩ = some (.int .i64 a) := fun o => pw_cell_below (below_alloc (Below.refl _ _) o) h0
  have g1 : ∀ o, (w.alloc o).cell? ⟨g1, 0, none⟩ = some (.int .i64 b) := fun o => pw_cell_below (below_alloc (Below.refl _ _) o) h1
  clear h0 h1
  go_enter Try.func60, Try.ntmps60
  go_wp2
  all_goals
    go_ret
    exact ⟨rfl, below_alloc (Below.refl _ _) _⟩
theorem ext_IF_none (a : Option Addr) (c : Nat) (fv : Value) (w : World) :
    Calls Try.prog 56 #[.slice a 0 c, fv] w fun e w' => e = .returned (.int .i64 (-1)) ∧ w' = w := by
  go_enter Try.func56, Try.ntmps56
  go_wp2_with fail
  refine wp_loop_rounds 1 ?_
  rw [rounds_succ]
  go_wp2_with fail
  go_ret
  exact ⟨rfl, rfl⟩
theorem ext_CF_none (a : Option Addr) (c : Nat) (fv : Value) (w : World) :
    Calls Try.prog 59 #[.slice a 0 c, fv] w fun e w' => e = .returned (.bool false) ∧ w' = w := by
  go_enter Try.func59, Try.ntmps59
  go_wp2_with (go_at_call 56; (with_reducible refine (ext_IF_none _ _ _ _).mono ?_); rintro e w' ⟨rfl, rfl⟩)
  go_ret
  exact ⟨rfl, rfl⟩
theorem ext_CX (g0 g1 : Nat) (a b : Int) (A : Option Addr) (c : Nat) (l : List S66) (w : World) (hb0 : 0 ≤ b) (hb1 : b ≤ 2147483647) (h0 : w.cell? ⟨g0, 0, none⟩ = some (.int .i64 a)) (h1 : w.cell? ⟨g1, 0, none⟩ = some (.int .i64 b)) (hr : Kd.C k66 w A l.length l) :
    Calls Try.prog 59 #[.slice A l.length c, .func (.func 60) #[] #[.pointer (some ⟨g0, 0, none⟩), .pointer (some ⟨g1, 0, none⟩)]] w fun e w' => e = .returned (.bool (l.any (rBad a b))) ∧ Below w.heap.size w w' := by
  by_cases hn : 0 < l.length
  · obtain ⟨b', o', rfl, hb, hc⟩ := cells_row hr (by decide) hn
    have := AnyQ.slices_ContainsFunc laysCX 2 Try.isAgg66 Try.sizeOf66 enc2 (fun _ => rfl) (rBad a b) 60 #[.pointer (some ⟨g0, 0, none⟩), .pointer (some ⟨g1, 0, none⟩)] (enters_of Try.func60 (by kernel_rfl) rfl) b' o' l.length c l w
      (fun W x hW => (space_Right_1.calls x g0 g1 a b W hb0 hb1 ((hW.cell (World.block_lt_of_cell? _ _ h0)).trans h0) ((hW.cell (World.block_lt_of_cell? _ _ h1)).trans h1)).mono fun e w' ⟨he, hb⟩ => ⟨he, below_step hW hb⟩)
      (Nat.le_refl _) (Kd.C_max hr) hb (fun j hj i v hv => by
        obtain ⟨cc, c2, c3, c4⟩ := hc j l[j]! (by rw [List.getElem?_eq_getElem hj]; congr 1; exact (getElem!_pos l j hj).symm)
        obtain rfl := k66_open c3
        have := c4 i v hv
        rw [← Nat.add_assoc] at this
        exact this)
    rw [List.take_length] at this
    exact this
  · obtain rfl : l = [] := List.length_eq_zero_iff.1 (by omega)
    exact (ext_CF_none A c _ w).mono fun e w' ⟨he, hw⟩ => ⟨he, hw ▸ Below.refl _ _⟩
def space_Right.f (k : Nat) (a0 : Int) (a1 : Int) (l2 : List S66) : Option Bool :=
  if a0 < 0 then some false else if 2147483647 < a1 then some false else if a1 < a0 then some false else if l2.any (rBad a0 a1) = true then some false else (space_gaps.f k a0 a1 l2).bind fun t => some t.2
theorem space_Right.mono : ∀ a0 a1 a2 k, LeO (space_Right.f k a0 a1 a2) (space_Right.f (k + 1) a0 a1 a2) := by
  intro a0 a1 a2 k
  unfold space_Right.f
  repeat' first
    | (with_reducible exact LeO.refl _)
    | (with_reducible refine LeO.ite ?_ ?_)
    | (with_reducible refine LeO.bind (space_gaps.mono _ _ _ _) (fun _ => ?_))
set_option maxHeartbeats 2000000 in
theorem space_Right.calls (k : Nat) (a0 : Int) (a1 : Int) (A2 : Option Addr) (c2 : Nat) (l2 : List S66) (r : Bool) (w : World) (hr2 : Kd.C k66 w A2 l2.length l2) (hc2 : l2.length ≤ c2) (h : space_Right.f k a0 a1 l2 = some r) :
    Calls Try.prog 36 #[.int .i64 a0, .int .i64 a1, .slice A2 l2.length c2] w fun e w' => e = .returned (.bool r) ∧ Below w.heap.size w w' := by
  unfold space_Right.f at h
  have HR := Aside0.mk hr2
  have HC := Aside0.mk hc2
  clear hr2 hc2
  by_cases d0 : a0 < 0
  · rw [if_pos d0] at h
    obtain rfl := Option.some.inj h
    clear h
    go_enter Try.func36, Try.ntmps36
    go_wp2
    go_ret
    exact ⟨rfl, below_alloc (below_alloc (Below.refl _ _) _) _⟩
  rw [if_neg d0] at h
  by_cases d1 : 2147483647 < a1
  · rw [if_pos d1] at h
    obtain rfl := Option.some.inj h
    clear h
    go_enter Try.func36, Try.ntmps36
    go_wp2
    go_ret
    exact ⟨rfl, below_alloc (below_alloc (Below.refl _ _) _) _⟩
  rw [if_neg d1] at h
  by_cases d2 : a1 < a0
  · rw [if_pos d2] at h
    obtain rfl := Option.some.inj h
    clear h
    go_enter Try.func36, Try.ntmps36
    go_wp2
    go_ret
    exact ⟨rfl, below_alloc (below_alloc (Below.refl _ _) _) _⟩
  rw [if_neg d2] at h
  have hcon := fun (W : World) (hW : Below w.heap.size w W) (h0 : W.cell? ⟨w.heap.size, 0, none⟩ = some (.int .i64 a0)) (h1 : W.cell? ⟨w.heap.size + 1, 0, none⟩ = some (.int .i64 a1)) => ext_CX w.heap.size (w.heap.size + 1) a0 a1 A2 c2 l2 W (by omega) (by omega) h0 h1 (Kd.C_below HR.out hW)
  have HX := Aside0.mk hcon
  clear hcon
  by_cases d3 : l2.any (rBad a0 a1) = true
  · rw [if_pos d3] at h
    obtain rfl := Option.some.inj h
    clear h
    rw [d3] at HX
    clear d3
    go_enter Try.func36, Try.ntmps36
    go_wp2_with (go_at_call 59; refine (HX.out _ (below_alloc (below_alloc (Below.refl _ _) _) _) (by simp) (by simp)).mono ?_; rintro e w1 ⟨rfl, hb⟩; have HB := Aside0.mk hb; clear hb)
    go_ret
    exact ⟨rfl, below_step (below_alloc (below_alloc (Below.refl _ _) _) _) HB.out⟩
  · rw [if_neg d3] at h
    obtain ⟨t, ht, h2⟩ := Option.bind_eq_some_iff.1 h
    obtain rfl := Option.some.inj h2
    clear h h2
    rw [Bool.not_eq_true] at d3
    rw [d3] at HX
    clear d3
    have HG := Aside0.mk ht
    clear ht
    go_enter Try.func36, Try.ntmps36
    go_wp2_with (first
      | (go_at_call 59; refine (HX.out _ (below_alloc (below_alloc (Below.refl _ _) _) _) (by simp) (by simp)).mono ?_; rintro e w1 ⟨rfl, hb⟩; have f0 : w1.cell? ⟨w.heap.size, 0, none⟩ = some (.int .i64 a0) := pw_cell_below hb (by simp); have f1 : w1.cell? ⟨w.heap.size + 1, 0, none⟩ = some (.int .i64 a1) := pw_cell_below hb (by simp); have HB := Aside0.mk (below_step (below_alloc (below_alloc (Below.refl _ _) _) _) hb); clear hb)
      | (go_at_call 55; refine (space_gaps.calls k a0 a1 A2 c2 l2 t.1 t.2 _ (Kd.C_below HR.out HB.out) HC.out HG.out).mono ?_; rintro e w2 ⟨v, rfl, -, hb⟩; have HB2 := Aside0.mk (below_step HB.out hb); clear hb))
    go_ret
    exact ⟨rfl, HB2.out⟩
end


/-! ### space_Free: function 31 -/
def space_Free.f (k : Nat) (a0 : Int) (a1 : Int) (l2 : List (S66)) : Option ((List (S66))) := (space_Right.f k a0 a1 l2).bind fun t580 => (if t580 = true then ((space_gaps.f k a0 a1 l2).bind fun bt581 => (some bt581.1)) else (some ([] : List (S66))))
theorem space_Free.mono : ∀ a0 a1 a2 k, LeO (space_Free.f k a0 a1 a2) (space_Free.f (k + 1) a0 a1 a2) := by
  intro a0 a1 a2 k
  unfold space_Free.f
  repeat' first
      | (with_reducible exact space_Right.mono _ _ _ _)
      | (with_reducible exact space_gaps.mono _ _ _ _)
      | (with_reducible exact LeO.refl _)
      | (with_reducible exact LeO.none _)
      | (with_reducible refine LeO.ite ?_ ?_)
      | (with_reducible refine LeO.bind ?_ (fun _ => ?_))
      | exact space_Right.mono _ _ _ _
      | exact space_gaps.mono _ _ _ _
      | exact LeO.none _
      | refine LeO.ite ?_ ?_
      | refine LeO.bind ?_ (fun _ => ?_)
set_option maxHeartbeats 8000000 in
set_option maxRecDepth 100000 in
theorem space_Free.calls (k : Nat) (a0 : Int) (a1 : Int) (A2 : Option Addr) (c2 : Nat) (l2 : List (S66)) (r : List (S66)) (w : World) (hr2 : Kd.C k66 w A2 l2.length l2) (hc2 : l2.length ≤ c2) (h : space_Free.f k a0 a1 l2 = some r) :
    Calls Try.prog 31 #[.int .i64 a0, .int .i64 a1, .slice A2 l2.length c2] w fun e w' => ∃ v0_ : Value, e = .returned (v0_) ∧ Kd.R k66 66 w' w.heap.size (fun _ => True) v0_ r ∧ Below w.heap.size w w' := by
  have HR2 := Aside0.mk hr2
  have HC2 := Aside0.mk hc2
  clear hr2 hc2
  have HB := Aside0.mk (Below.refl w.heap.size w)
  have H : ((space_Right.f k a0 a1 l2).bind fun t580 => (if t580 = true then ((space_gaps.f k a0 a1 l2).bind fun bt581 => (some bt581.1)) else (some ([] : List (S66))))) = some r := h
  clear h
  replace H := Option.bind_eq_some_iff.mp H
  obtain ⟨t580, A40, H⟩ := H
  replace H : (if t580 = true then ((space_gaps.f k a0 a1 l2).bind fun bt581 => (some bt581.1)) else (some ([] : List (S66)))) = some r := H
  have A4 := Aside0.mk A40
  clear A40
  by_cases c5 : t580 = true
  · subst c5
    have H1 : ((space_gaps.f k a0 a1 l2).bind fun bt581 => (some bt581.1)) = some r := by rw [if_pos rfl] at H; exact H
    clear H
    have H := H1
    clear H1
    replace H := Option.bind_eq_some_iff.mp H
    obtain ⟨⟨t581, t582⟩, A60, H⟩ := H
    replace H : (some t581) = some r := H
    have A6 := Aside0.mk A60
    clear A60
    obtain rfl := Option.some.inj H
    go_enter Try.func31, Try.ntmps31
    go_wp2_with (first | ((with_reducible refine gate_callee (f := 36) rfl ?_); refine goesL_ (some 12) rfl rfl Try.func36 (by kernel_rfl) rfl #[.int .i64 a0, .int .i64 a1, .slice A2 l2.length c2] rfl (by (try simp only [List.map_toArray, List.map_cons, List.map_nil]); first | done | rfl | (simp only [List.length_drop, List.length_take]; rfl)) ?_; (with_reducible refine (space_Right.calls k a0 a1 _ _ l2 true _ ?side1 ?side2 A4.out).mono ?_); (case side1 => repeat (first | exact HR2.out | (with_reducible refine Kd.C_alloc ?_ _) | (with_reducible refine Kd.C_drewN ?_ _) | (with_reducible refine Kd.C_drew ?_))); (case side2 => exact HC2.out); rintro e w7 ⟨rfl, hb⟩; refine ⟨_, rfl, ?_⟩; have n0_ := Aside0.mk (below_step (by repeat (first | (with_reducible first | exact HB.out | apply below_alloc | apply pw_below_drewN | apply below_drew1) | exact HB.out)) hb); clear HB; have HB := n0_; clear n0_; (try clear hb); (try clear hb2); (try clear hk); (try clear hi)) | ((with_reducible refine gate_callee (f := 55) rfl ?_); refine goesL_ (some 18) rfl rfl Try.func55 (by kernel_rfl) rfl #[.int .i64 a0, .int .i64 a1, .slice A2 l2.length c2] rfl (by (try simp only [List.map_toArray, List.map_cons, List.map_nil]); first | done | rfl | (simp only [List.length_drop, List.length_take]; rfl)) ?_; (with_reducible refine (space_gaps.calls k a0 a1 _ _ l2 t581 t582 _ ?side1 ?side2 A6.out).mono ?_); (case side1 => repeat (first | exact (Kd.C_below HR2.out HB.out) | (with_reducible refine Kd.C_alloc ?_ _) | (with_reducible refine Kd.C_drewN ?_ _) | (with_reducible refine Kd.C_drew ?_))); (case side2 => exact HC2.out); rintro e w8 ⟨v583, rfl, ho0, hb⟩; refine ⟨_, rfl, ?_⟩; have n0_ := Aside0.mk (Kd.R_lower ho0 (below_size (by repeat (first | (with_reducible first | exact HB.out | apply below_alloc | apply pw_below_drewN | apply below_drew1) | exact HB.out)))); have n1_ := Aside0.mk (below_step (by repeat (first | (with_reducible first | exact HB.out | apply below_alloc | apply pw_below_drewN | apply below_drew1) | exact HB.out)) hb); clear HB; have HO584 := n0_; have HB := n1_; clear n0_ n1_; (try clear hb); (try clear hb2); (try clear hk); (try clear hi); (try clear ho0)))
    go_ret
    exact ⟨_, by first | rfl | (simp [errW_none, errW_some] <;> rfl) | (simp [*, errW_none, errW_some] <;> rfl), by (with_reducible repeat (first | apply Kd.R_alloc | apply Kd.R_drewN | apply Kd.R_drew)); exact HO584.out, by repeat (first | (with_reducible first | exact HB.out | apply below_alloc | apply pw_below_drewN | apply below_drew1) | exact HB.out)⟩
  · replace c5 := Bool.eq_false_iff.mpr c5
    subst c5
    have H1 : (some ([] : List (S66))) = some r := by rw [if_neg (show ¬ (false = true) by decide)] at H; exact H
    clear H
    have H := H1
    clear H1
    obtain rfl := Option.some.inj H
    go_enter Try.func31, Try.ntmps31
    go_wp2_with (first | ((with_reducible refine gate_callee (f := 36) rfl ?_); refine goesL_ (some 12) rfl rfl Try.func36 (by kernel_rfl) rfl #[.int .i64 a0, .int .i64 a1, .slice A2 l2.length c2] rfl (by (try simp only [List.map_toArray, List.map_cons, List.map_nil]); first | done | rfl | (simp only [List.length_drop, List.length_take]; rfl)) ?_; (with_reducible refine (space_Right.calls k a0 a1 _ _ l2 false _ ?side1 ?side2 A4.out).mono ?_); (case side1 => repeat (first | exact HR2.out | (with_reducible refine Kd.C_alloc ?_ _) | (with_reducible refine Kd.C_drewN ?_ _) | (with_reducible refine Kd.C_drew ?_))); (case side2 => exact HC2.out); rintro e w9 ⟨rfl, hb⟩; refine ⟨_, rfl, ?_⟩; have n0_ := Aside0.mk (below_step (by repeat (first | (with_reducible first | exact HB.out | apply below_alloc | apply pw_below_drewN | apply below_drew1) | exact HB.out)) hb); clear HB; have HB := n0_; clear n0_; (try clear hb); (try clear hb2); (try clear hk); (try clear hi)))
    go_ret
    exact ⟨_, by first | rfl | (simp [errW_none, errW_some] <;> rfl) | (simp [*, errW_none, errW_some] <;> rfl), by first | exact Kd.R_nil _ _ _ _ _ | exact Kd.N_nil _ _ _ _ _ | exact Kd.V_nil _ _ _ _ _ | exact Kd.Q_nil _ _ _ _ _ | exact Kd.S_nil _ _ _ _ _, by repeat (first | (with_reducible first | exact HB.out | apply below_alloc | apply pw_below_drewN | apply below_drew1) | exact HB.out)⟩

/-! ### space_Fit: function 32 -/

section
open Go.Shelf

def idxE (n : Int) (l : List S66) : Int := Go.Lib.idxBy (fun _ y => decide (n ≤ y.f1)) l default
set_option maxHeartbeats 2000000 in
theorem space_Fit_1.calls (x : S66) (g0 : Nat) (a : Int) (w : World) (h0 : w.cell? ⟨g0, 0, none⟩ = some (.int .i64 a)) :
    Calls Try.prog 57 #[.agg #[.int .i64 x.f0, .int .i64 x.f1], .pointer (some ⟨g0, 0, none⟩)] w fun e w' => e = .returned (.bool (decide (a ≤ x.f1))) ∧ Below w.heap.size w w' := by
  obtain ⟨x0, x1⟩ := x
  dsimp only
  have g0 : ∀ o, (w.alloc o).cell? ⟨g0, 0, none⟩ = some (.int .i64 a) := fun o => pw_cell_below (below_alloc (Below.refl _ _) o) h0
  clear h0
  go_enter Try.func57, Try.ntmps57
  go_wp2
  all_goals
    go_ret
    exact ⟨rfl, below_alloc (Below.refl _ _) _⟩
theorem ext_IX (g0 : Nat) (a : Int) (A : Option Addr) (c : Nat) (l : List S66) (w : World) (h0 : w.cell? ⟨g0, 0, none⟩ = some (.int .i64 a)) (hr : Kd.C k66 w A l.length l) :
    Calls Try.prog 56 #[.slice A l.length c, .func (.func 57) #[] #[.pointer (some ⟨g0, 0, none⟩)]] w fun e w' => e = .returned (.int .i64 (idxE a l)) ∧ Below w.heap.size w w' := by
  by_cases hn : 0 < l.length
  · obtain ⟨b', o', rfl, hb, hc⟩ := cells_row hr (by decide) hn
    have := AnyQ.slices_IndexFunc laysIX 2 Try.isAgg66 Try.sizeOf66 enc2 (fun _ => rfl) (fun y => decide (a ≤ y.f1)) 57 #[.pointer (some ⟨g0, 0, none⟩)] (enters_of Try.func57 (by kernel_rfl) rfl) b' o' l.length c l w
      (fun W x hW => (space_Fit_1.calls x g0 a W ((hW.cell (World.block_lt_of_cell? _ _ h0)).trans h0)).mono fun e w' ⟨he, hb⟩ => ⟨he, below_step hW hb⟩)
      (Nat.le_refl _) (Kd.C_max hr) hb (fun j hj i v hv => by
        obtain ⟨cc, c2, c3, c4⟩ := hc j l[j]! (by rw [List.getElem?_eq_getElem hj]; congr 1; exact (getElem!_pos l j hj).symm)
        obtain rfl := k66_open c3
        have := c4 i v hv
        rw [← Nat.add_assoc] at this
        exact this)
    rw [List.take_length] at this
    exact this
  · obtain rfl : l = [] := List.length_eq_zero_iff.1 (by omega)
    exact (ext_IF_none A c _ w).mono fun e w' ⟨he, hw⟩ => ⟨he, hw ▸ Below.refl _ _⟩
theorem idxE_lt (n : Int) (l : List S66) (h : 0 ≤ idxE n l) : idxE n l < l.length := by
  have gen : ∀ (l : List S66) (i : Nat), 0 ≤ Go.Lib.idxByFrom (fun _ y => decide (n ≤ y.f1)) default l i → Go.Lib.idxByFrom (fun _ (y : S66) => decide (n ≤ y.f1)) default l i < (i : Int) + l.length := by
    intro l
    induction l with
    | nil => intro i h; simp [Go.Lib.idxByFrom] at h
    | cons y l ih =>
      intro i h
      unfold Go.Lib.idxByFrom at h ⊢
      by_cases c : decide (n ≤ y.f1) = true
      · rw [if_pos c]
        simp only [List.length_cons]
        omega
      · rw [if_neg c] at h ⊢
        have := ih (i + 1) h
        simp only [List.length_cons]
        omega
  have := gen l 0 h
  unfold idxE Go.Lib.idxBy
  omega
def space_Fit.f (k : Nat) (a0 : Int) (a1 : Int) (a2 : Int) (l3 : List S66) : Option (Int × Int × Int) :=
  (space_Right.f k a1 a2 l3).bind fun t => if t = true then (if a0 < 1 then some (0, 0, 1) else if 2147483647 < a0 then some (0, 0, 1) else (space_Free.f k a1 a2 l3).bind fun l => if idxE a0 l < 0 then some (0, 0, 5) else some ((rd_T66 l (idxE a0 l)).f0, a0, 0)) else some (0, 0, 1)
theorem space_Fit.mono : ∀ a0 a1 a2 a3 k, LeO (space_Fit.f k a0 a1 a2 a3) (space_Fit.f (k + 1) a0 a1 a2 a3) := by
  intro a0 a1 a2 a3 k
  unfold space_Fit.f
  repeat' first
    | (with_reducible exact LeO.refl _)
    | (with_reducible refine LeO.ite ?_ ?_)
    | (with_reducible refine LeO.bind (space_Right.mono _ _ _ _) (fun _ => ?_))
    | (with_reducible refine LeO.bind (space_Free.mono _ _ _ _) (fun _ => ?_))

theorem fit_box {w w1 : World} {a : Int} (hb : Below ((w.alloc (.cells #[.int .i64 a] 3)).alloc (.cells #[.int .i64 0, .int .i64 0] 66)).heap.size ((w.alloc (.cells #[.int .i64 a] 3)).alloc (.cells #[.int .i64 0, .int .i64 0] 66)) w1) :
    w1.cell? ⟨w.heap.size, 0, none⟩ = some (.int .i64 a) ∧ w1.cell? ⟨w.heap.size + 1, 0, none⟩ = some (.int .i64 0) ∧ w1.cell? ⟨w.heap.size + 1, 1, none⟩ = some (.int .i64 0) ∧ w1.frozen? ⟨w.heap.size + 1, 0, none⟩ = false ∧ w1.frozen? ⟨w.heap.size + 1, 1, none⟩ = false ∧ w.heap.size + 1 < w1.heap.size :=
  ⟨pw_cell_below hb (by simp), pw_cell_below hb (by simp), pw_cell_below hb (by simp), (hb.frozen (p := ⟨w.heap.size + 1, 0, none⟩) (by simp)).trans (by simp), (hb.frozen (p := ⟨w.heap.size + 1, 1, none⟩) (by simp)).trans (by simp), by have := hb.size; simp at this; omega⟩
theorem fit_box2 {b : Nat} {w1 w2 : World} {a : Int} (h : w1.cell? ⟨b, 0, none⟩ = some (.int .i64 a) ∧ w1.cell? ⟨b + 1, 0, none⟩ = some (.int .i64 0) ∧ w1.cell? ⟨b + 1, 1, none⟩ = some (.int .i64 0) ∧ w1.frozen? ⟨b + 1, 0, none⟩ = false ∧ w1.frozen? ⟨b + 1, 1, none⟩ = false ∧ b + 1 < w1.heap.size) (hb : Below w1.heap.size w1 w2) :
    w2.cell? ⟨b, 0, none⟩ = some (.int .i64 a) ∧ w2.cell? ⟨b + 1, 0, none⟩ = some (.int .i64 0) ∧ w2.cell? ⟨b + 1, 1, none⟩ = some (.int .i64 0) ∧ w2.frozen? ⟨b + 1, 0, none⟩ = false ∧ w2.frozen? ⟨b + 1, 1, none⟩ = false ∧ b + 1 < w2.heap.size := by
  obtain ⟨h1, h2, h3, h4, h5, h6⟩ := h
  exact ⟨pw_cell_below hb h1, pw_cell_below hb h2, pw_cell_below hb h3, (hb.frozen (p := ⟨b + 1, 0, none⟩) h6).trans h4, (hb.frozen (p := ⟨b + 1, 1, none⟩) h6).trans h5, Nat.lt_of_lt_of_le h6 hb.size⟩
set_option maxHeartbeats 4000000 in
theorem space_Fit.calls (k : Nat) (a0 : Int) (a1 : Int) (a2 : Int) (A3 : Option Addr) (c3 : Nat) (l3 : List S66) (r1_0 : Int) (r1_1 : Int) (r2 : Int) (w : World) (hr3 : Kd.C k66 w A3 l3.length l3) (hc3 : l3.length ≤ c3) (h : space_Fit.f k a0 a1 a2 l3 = some (r1_0, r1_1, r2)) :
    Calls Try.prog 32 #[.int .i64 a0, .int .i64 a1, .int .i64 a2, .slice A3 l3.length c3] w fun e w' => e = .returned (.tuple #[.agg #[.int .i64 r1_0, .int .i64 r1_1], .int .i64 r2]) ∧ Below w.heap.size w w' := by
  unfold space_Fit.f at h
  have HR := Aside0.mk hr3
  have HC := Aside0.mk hc3
  clear hr3 hc3
  obtain ⟨t, ht, h2⟩ := Option.bind_eq_some_iff.1 h
  clear h
  have HT := Aside0.mk ht
  clear ht
  cases t with
  | false =>
    simp only [Bool.false_eq_true, if_false, Option.some.injEq, Prod.mk.injEq] at h2
    obtain ⟨rfl, rfl, rfl⟩ := h2
    go_enter Try.func32, Try.ntmps32
    go_wp2_with (go_at_call 36; refine (space_Right.calls k a1 a2 A3 c3 l3 false _ (Kd.C_below HR.out (below_alloc (below_alloc (Below.refl _ _) _) _)) HC.out HT.out).mono ?_; rintro e w1 ⟨rfl, hb⟩; obtain ⟨q1, q2, q3, q4, q5, q6⟩ := fit_box hb; have HB := Aside0.mk (below_step (below_alloc (below_alloc (Below.refl _ _) _) _) hb); clear hb)
    exact bodyPost_ret (v := .tuple #[.agg #[.int .i64 0, .int .i64 0], .int .i64 1]) (by simp [results, Try.results32, go_sem, q2, q3, q4, q5]) rfl ⟨rfl, (HB.out.setCell (p := ⟨w.heap.size + 1, 0, none⟩) (by simp) _).setCell (p := ⟨w.heap.size + 1, 1, none⟩) (by simp) _⟩
  | true =>
    rw [if_pos rfl] at h2
    by_cases d0 : a0 < 1
    · rw [if_pos d0] at h2
      simp only [Option.some.injEq, Prod.mk.injEq] at h2
      obtain ⟨rfl, rfl, rfl⟩ := h2
      go_enter Try.func32, Try.ntmps32
      go_wp2_with (go_at_call 36; refine (space_Right.calls k a1 a2 A3 c3 l3 true _ (Kd.C_below HR.out (below_alloc (below_alloc (Below.refl _ _) _) _)) HC.out HT.out).mono ?_; rintro e w1 ⟨rfl, hb⟩; obtain ⟨q1, q2, q3, q4, q5, q6⟩ := fit_box hb; have HB := Aside0.mk (below_step (below_alloc (below_alloc (Below.refl _ _) _) _) hb); clear hb)
      exact bodyPost_ret (v := .tuple #[.agg #[.int .i64 0, .int .i64 0], .int .i64 1]) (by simp [results, Try.results32, go_sem, q2, q3, q4, q5]) rfl ⟨rfl, (HB.out.setCell (p := ⟨w.heap.size + 1, 0, none⟩) (by simp) _).setCell (p := ⟨w.heap.size + 1, 1, none⟩) (by simp) _⟩
    rw [if_neg d0] at h2
    by_cases d1 : 2147483647 < a0
    · rw [if_pos d1] at h2
      simp only [Option.some.injEq, Prod.mk.injEq] at h2
      obtain ⟨rfl, rfl, rfl⟩ := h2
      go_enter Try.func32, Try.ntmps32
      go_wp2_with (go_at_call 36; refine (space_Right.calls k a1 a2 A3 c3 l3 true _ (Kd.C_below HR.out (below_alloc (below_alloc (Below.refl _ _) _) _)) HC.out HT.out).mono ?_; rintro e w1 ⟨rfl, hb⟩; obtain ⟨q1, q2, q3, q4, q5, q6⟩ := fit_box hb; have HB := Aside0.mk (below_step (below_alloc (below_alloc (Below.refl _ _) _) _) hb); clear hb)
      exact bodyPost_ret (v := .tuple #[.agg #[.int .i64 0, .int .i64 0], .int .i64 1]) (by simp [results, Try.results32, go_sem, q2, q3, q4, q5]) rfl ⟨rfl, (HB.out.setCell (p := ⟨w.heap.size + 1, 0, none⟩) (by simp) _).setCell (p := ⟨w.heap.size + 1, 1, none⟩) (by simp) _⟩
    rw [if_neg d1] at h2
    obtain ⟨l, hl, h3⟩ := Option.bind_eq_some_iff.1 h2
    clear h2
    have HL := Aside0.mk hl
    clear hl
    by_cases d2 : idxE a0 l < 0
    · rw [if_pos d2] at h3
      simp only [Option.some.injEq, Prod.mk.injEq] at h3
      obtain ⟨rfl, rfl, rfl⟩ := h3
      have HX := Aside0.mk (fun (A : Option Addr) (c : Nat) (W : World) h0 hr => ext_IX w.heap.size a0 A c l W h0 hr)
      generalize idxE a0 l = i at HX d2
      go_enter Try.func32, Try.ntmps32
      go_wp2_with (first
        | (go_at_call 36; refine (space_Right.calls k a1 a2 A3 c3 l3 true _ (Kd.C_below HR.out (below_alloc (below_alloc (Below.refl _ _) _) _)) HC.out HT.out).mono ?_; rintro e w1 ⟨rfl, hb⟩; obtain ⟨q1, q2, q3, q4, q5, q6⟩ := fit_box hb; have HB := Aside0.mk (below_step (below_alloc (below_alloc (Below.refl _ _) _) _) hb); clear hb)
        | (go_at_call 31; refine (space_Free.calls k a1 a2 A3 c3 l3 l _ (Kd.C_below HR.out HB.out) HC.out HL.out).mono ?_; rintro e w2 ⟨v, rfl, hR, hb⟩; obtain ⟨A, c, rfl, hc, hC⟩ := Kd.R_reads hR; obtain ⟨p1, p2, p3, p4, p5, p6⟩ := fit_box2 ⟨q1, q2, q3, q4, q5, q6⟩ hb; have HB2 := Aside0.mk (below_step HB.out hb); have HK := Aside0.mk hC; clear hb hR hc hC HB q1 q2 q3 q4 q5 q6)
        | (go_at_call 56; refine (HX.out A c _ p1 HK.out).mono ?_; rintro e w3 ⟨rfl, hb⟩; obtain ⟨s1, s2, s3, s4, s5, s6⟩ := fit_box2 ⟨p1, p2, p3, p4, p5, p6⟩ hb; have HB3 := Aside0.mk (below_step HB2.out hb); clear hb p1 p2 p3 p4 p5 p6))
      exact bodyPost_ret (v := .tuple #[.agg #[.int .i64 0, .int .i64 0], .int .i64 5]) (by simp [results, Try.results32, go_sem, s2, s3, s4, s5]) rfl ⟨rfl, (HB3.out.setCell (p := ⟨w.heap.size + 1, 0, none⟩) (by simp) _).setCell (p := ⟨w.heap.size + 1, 1, none⟩) (by simp) _⟩
    · rw [if_neg d2] at h3
      simp only [Option.some.injEq, Prod.mk.injEq] at h3
      obtain ⟨rfl, rfl, rfl⟩ := h3
      have hlt := idxE_lt a0 l (by omega)
      have HX := Aside0.mk (fun (A : Option Addr) (c : Nat) (W : World) h0 hr => ext_IX w.heap.size a0 A c l W h0 hr)
      obtain ⟨m, hm⟩ : ∃ m : Nat, idxE a0 l = m := ⟨(idxE a0 l).toNat, by omega⟩
      rw [hm] at HX hlt ⊢
      have hlt2 : m < l.length := by omega
      clear d2 hm
      have HE : Aside0 ((rd_T66 l (m : Int)).f0 = (l.getD m z66).f0) := ⟨rfl⟩
      rw [HE.out]
      generalize hx : (l.getD m z66).f0 = x
      have HXX := Aside0.mk hx
      clear hx
      go_enter Try.func32, Try.ntmps32
      go_wp2_with (first
        | (go_at_call 36; refine (space_Right.calls k a1 a2 A3 c3 l3 true _ (Kd.C_below HR.out (below_alloc (below_alloc (Below.refl _ _) _) _)) HC.out HT.out).mono ?_; rintro e w1 ⟨rfl, hb⟩; obtain ⟨q1, q2, q3, q4, q5, q6⟩ := fit_box hb; have HB := Aside0.mk (below_step (below_alloc (below_alloc (Below.refl _ _) _) _) hb); clear hb)
        | (go_at_call 31; refine (space_Free.calls k a1 a2 A3 c3 l3 l _ (Kd.C_below HR.out HB.out) HC.out HL.out).mono ?_; rintro e w2 ⟨v, rfl, hR, hb⟩; obtain ⟨A, c, rfl, hc, hC⟩ := Kd.R_reads hR; obtain ⟨p1, p2, p3, p4, p5, p6⟩ := fit_box2 ⟨q1, q2, q3, q4, q5, q6⟩ hb; have HB2 := Aside0.mk (below_step HB.out hb); have HK := Aside0.mk hC; clear hb hR hc hC HB q1 q2 q3 q4 q5 q6)
        | (go_at_call 56; refine (HX.out A c _ p1 HK.out).mono ?_; rintro e w3 ⟨rfl, hb⟩; obtain ⟨b, o, rfl, hbb, hcs⟩ := cells_66 HK.out (by omega); have hcell : w3.cell? ⟨b, o + m * 2, none⟩ = some (.int .i64 x) := by { have := pw_cell_below hb (hcs m hlt2).1; rw [HXX.out] at this; exact this }; obtain ⟨s1, s2, s3, s4, s5, s6⟩ := fit_box2 ⟨p1, p2, p3, p4, p5, p6⟩ hb; have HB3 := Aside0.mk (below_step HB2.out hb); clear hb p1 p2 p3 p4 p5 p6 hbb hcs))
      go_region
      all_goals
        go_wp2
        exact bodyPost_ret (v := .tuple #[.agg #[.int .i64 x, .int .i64 a0], .int .i64 0]) (by simp [results, Try.results32, go_sem, s2, s3, s4, s5]) rfl ⟨rfl, below_drew1 ((HB3.out.setCell (p := ⟨w.heap.size + 1, 0, none⟩) (by simp) _).setCell (p := ⟨w.heap.size + 1, 1, none⟩) (by simp) _)⟩
end


end Go.Proofs.Ythcohkgpbjcliaa.F
