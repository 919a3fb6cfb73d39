import Derived.Test.YthcohkgpbjcliaaFPre
import Derived.Test.YthcohkgpbjcliaaFLem
import Derived.Test.YthcohkgpbjcliaaJourSpec
import Derived.Deep.LoopGhost
import Derived.BigRegion
import Derived.Test.YthcohkgpbjcliaaFblockC
namespace Go.Proofs.Ythcohkgpbjcliaa.F
open Go.RowKit Go.Proofs.YthcohkgpbjcliaaW.PrintWords Go.Proofs.YthcohkgpbjcliaaW.PrintLast Go.Proofs.YthcohkgpbjcliaaW.PrintMore
attribute [local go_sem] max2_int min2_int max_two min_two max_three min_three max_four min_four
set_option linter.unusedVariables false
set_option linter.unusedSimpArgs false
-- uses block_Cut.f
def chk (m : List UInt8) (n : Nat) : List ByteArray := (List.range n).map fun j => Pl.B ((m.drop (32 * j)).take 32)
theorem chk_length (m : List UInt8) (n : Nat) : (chk m n).length = n := by simp [chk]
theorem chk_succ (m : List UInt8) (n : Nat) : chk m (n + 1) = chk m n ++ [Pl.B ((m.drop (32 * n)).take 32)] := by
  unfold chk
  rw [List.range_succ, List.map_append]
  rfl
theorem chk_new (l : List UInt8) (i j : Nat) (hj : i / 32 = j) (h : i % 32 = 0) : chk (l.take i) ((i + 31) / 32) ++ [⟨#[]⟩] = chk (l.take i) (j + 1) := by
  rw [show (i + 31) / 32 = j by omega, chk_succ, List.drop_of_length_le (by rw [List.length_take]; omega)]
  rfl
theorem chk_old (l : List UInt8) (i j : Nat) (hj : i / 32 = j) (h : ¬ i % 32 = 0) : chk (l.take i) ((i + 31) / 32) = chk (l.take i) (j + 1) := by
  rw [show (i + 31) / 32 = j + 1 by omega]
theorem chk_far (l : List UInt8) (i i' n : Nat) (h : 32 * n ≤ i) (h' : 32 * n ≤ i') : chk (l.take i) n = chk (l.take i') n := by
  unfold chk
  refine List.map_congr_left fun j hj => ?_
  have hj := List.mem_range.1 hj
  rw [List.drop_take, List.take_take, List.drop_take, List.take_take, Nat.min_eq_left (by omega), Nat.min_eq_left (by omega)]
theorem chk_get (l : List UInt8) (i j : Nat) : (chk (l.take i) (j + 1)).getD j ⟨#[]⟩ = Pl.B (((l.take i).drop (32 * j)).take 32) := by
  rw [chk_succ, List.getD_eq_getElem?_getD, List.getElem?_append_right (by rw [chk_length]; exact Nat.le_refl _), chk_length, Nat.sub_self]
  rfl
theorem chk_set (l : List UInt8) (i j : Nat) (hj : i / 32 = j) (hi : i < l.length) : (chk (l.take i) (j + 1)).set j (Pl.B (((l.take i).drop (32 * j)).take 32) ++ ⟨#[l[i]]⟩) = chk (l.take (i + 1)) ((i + 1 + 31) / 32) := by
  rw [show (i + 1 + 31) / 32 = j + 1 by omega, chk_succ, chk_succ, List.set_append_right _ _ (by rw [chk_length]; exact Nat.le_refl _), chk_length, Nat.sub_self, chk_far l i (i + 1) j (by omega) (by omega)]
  congr 1
  show [Pl.B (((l.take i).drop (32 * j)).take 32) ++ Pl.B [l[i]]] = _
  rw [Pl.B_append]
  congr 2
  rw [List.drop_take, List.take_take, List.drop_take, List.take_take, Nat.min_eq_right (by omega), Nat.min_eq_right (by omega), show i + 1 - 32 * j = (i - 32 * j) + 1 by omega, List.take_add_one, List.getElem?_drop, show 32 * j + (i - 32 * j) = i by omega, List.getElem?_eq_getElem hi]
  rfl
theorem chk_cut : ∀ (n : Nat) (l : List UInt8), l.length = n → (Pl.cutL l).map Pl.B = (List.range ((n + 31) / 32)).map fun j => Pl.B (Pl.pad32 ((l.drop (32 * j)).take 32)) := by
  intro n
  induction n using Nat.strongRecOn with
  | _ n ih =>
    intro l hl
    by_cases e : l = []
    · subst e
      obtain rfl : 0 = n := hl
      rfl
    · have h0 : 0 < l.length := List.length_pos_iff.2 e
      rw [Pl.cutL_cons l e, List.map_cons, ih (n - 32) (by omega) (l.drop 32) (by rw [List.length_drop]; omega), show (n + 31) / 32 = (n - 32 + 31) / 32 + 1 by omega, List.range_succ_eq_map, List.map_cons, List.map_map]
      congr 1
      refine List.map_congr_left fun j _ => ?_
      show _ = Pl.B (Pl.pad32 ((l.drop (32 * (j + 1))).take 32))
      rw [List.drop_drop, show 32 + 32 * j = 32 * (j + 1) by omega]
theorem chk_fin (l : List UInt8) (j : Nat) (h : 32 * j < l.length) (h2 : l.length ≤ 32 * j + 32) : chk l j ++ [Pl.B (l.drop (32 * j)) ++ Pl.B (List.replicate (32 - (l.length - 32 * j)) 0)] = (Pl.cutL l).map Pl.B := by
  rw [chk_cut l.length l rfl, show (l.length + 31) / 32 = j + 1 by omega, List.range_succ, List.map_append]
  congr 1
  · unfold chk
    refine List.map_congr_left fun m hm => ?_
    have hm := List.mem_range.1 hm
    rw [Pl.pad32_full _ (by rw [List.length_take, List.length_drop]; omega)]
  · rw [List.map_singleton, List.take_of_length_le (by rw [List.length_drop]; omega), Pl.B_append, Pl.pad32, List.length_drop]
theorem data_at (a : ByteArray) (i : Nat) (h : i < a.size) (h2 : i < a.data.toList.length) : a.data.toList[i] = a[i] := rfl
def weirkeeperref06_Cut.f (a0 : ByteArray) : Option (List ByteArray) := block_Cut.f a0
set_option maxHeartbeats 8000000 in
set_option maxRecDepth 100000 in
theorem weirkeeperref06_Cut.calls (a0 : ByteArray) (r : List ByteArray) (w : World) (h : weirkeeperref06_Cut.f a0 = some r) :
    Calls Try.prog 66 #[.string a0] w fun e w' => ∃ v : Value, e = .returned v ∧ Kd.R Kd.string 9 w' w.heap.size (fun _ => True) v r ∧ Below w.heap.size w w' := by
  unfold weirkeeperref06_Cut.f block_Cut.f at h
  by_cases c : a0.size ≤ 4398046511104
  · rw [if_pos c] at h
    obtain rfl := Option.some.inj h
    clear h
    have HS := Aside0.mk c
    clear c
    go_enter Try.func66, Try.ntmps66
    go_wp2_with fail
    go_loopg [3, 4] a0.size (fun gg v3 v4 wr => ∃ i : Nat, i + gg = a0.size ∧ v4 = .int .i64 i ∧ Aside0 (Kd.R Kd.string 9 wr w.heap.size (fun _ => True) v3 (chk (a0.data.toList.take i) ((i + 31) / 32))) ∧ Aside0 (Below w.heap.size w wr))
    case atStart => exact ⟨0, by omega, rfl, ⟨Kd.R_nil _ _ _ _ _⟩, ⟨Below.refl _ _⟩⟩
    case round =>
      obtain ⟨i, hi, rfl, HR, HB⟩ := hrel
      by_cases c : i < a0.size
      · have HI := Aside0.mk hi
        clear hi
        have hib : (i : Int) < (a0.size : Int) := by omega
        have hbig : (i : Int) ≤ 4398046511104 := by have := HS.out; omega
        obtain ⟨X, hX⟩ : ∃ X, chk (a0.data.toList.take i) ((i + 31) / 32) = X := ⟨_, rfl⟩
        rw [hX] at HR
        have HX := Aside0.mk hX
        clear hX
        obtain ⟨p0, q0, rfl⟩ := Kd.R_slice HR.out
        obtain ⟨j, hj⟩ : ∃ j : Nat, (i : Int) / 32 = j := ⟨i / 32, by omega⟩
        have hjn : i / 32 = j := by omega
        obtain ⟨Y, hY⟩ : ∃ Y, chk (a0.data.toList.take i) (j + 1) = Y := ⟨_, rfl⟩
        have HYL : Aside0 (Y.length = j + 1) := ⟨by rw [← hY, chk_length]⟩
        have HYG : Aside0 (Y.getD j ⟨#[]⟩ = Pl.B (((a0.data.toList.take i).drop (32 * j)).take 32)) := ⟨by rw [← hY, chk_get]⟩
        have HYS : Aside0 (Y.set j (Pl.B (((a0.data.toList.take i).drop (32 * j)).take 32) ++ ⟨#[a0[i]]⟩) = chk (a0.data.toList.take (i + 1)) ((i + 1 + 31) / 32)) := ⟨by
          rw [← hY, ← chk_set a0.data.toList i j hjn (by rw [data_length]; exact c)]
          rfl⟩
        have HY := Aside0.mk hY
        clear hY
        have HJ := Aside0.mk hj
        have HXY : Aside0 ((i % 32 = 0 → X ++ [⟨#[]⟩] = Y) ∧ (¬ i % 32 = 0 → X = Y)) := ⟨fun d => by rw [← HX.out, ← HY.out]; exact chk_new _ _ _ hjn d, fun d => by rw [← HX.out, ← HY.out]; exact chk_old _ _ _ hjn d⟩
        have HL : Aside0 (X.length ≤ 4398046511104) := ⟨by rw [← HX.out, chk_length]; have := HS.out; omega⟩
        clear hjn hj
        by_cases d : i % 32 = 0
        all_goals
          first
          | (have d0 : i % 32 = 0 := d
             have d1 : ((i : Int) % 32 == 0) = true := by rw [beq_iff_eq]; omega
             have d3 : (i : Int) % 32 = 0 := by omega
             have HE : Aside0 (X ++ [⟨#[]⟩] = Y) := ⟨HXY.out.1 d0⟩
             clear d d0
             go_wp2_with ((with_reducible refine gate_builtin (b := .append) (xs := #[.tmp 14, .tmp 15]) rfl ?_); at_builtin; refine Kd.R_append Kd.string (w0 := w) w.heap.size rfl (.tmp 14) (.tmp 15) 22 9 (.string ⟨#[]⟩) 16 rfl Try.underlying22 info9 rfl (by decide) (by omega) (.slice p0 X.length q0) X (⟨#[]⟩ : ByteArray) [.string ⟨#[]⟩] (fun _ => True) (fun _ => False) rfl rfl ?aP (fun _ hk => hk.elim) ?aF ?aO ?aB ?aS ?aL ?_; (case aP => exact rfl); (case aB => exact HB.out); (case aF => exact (fun _ _ => trivial)); (case aO => exact HR.out); (case aS => exact below_size HB.out); (case aL => have := HL.out; omega); intro v1 w6 ho hb hg hat; rw [HE.out] at ho; have HR6 := Aside0.mk ho; have HB6 := Aside0.mk hb; clear ho hb hg hat; obtain ⟨g, cap, rfl, hbg, hgl, cells, hgc⟩ := Kd.R_form HR6.out (by rw [HYL.out]; omega); have HBG := Aside0.mk hbg; clear hbg hgc))
          | (have d0 : ¬ i % 32 = 0 := d
             have d1 : ((i : Int) % 32 == 0) = false := by rw [beq_eq_false_iff_ne]; omega
             have d3 : ¬ (i : Int) % 32 = 0 := by omega
             obtain rfl : Y = X := (HXY.out.2 d0).symm
             have HR6 := HR
             have HB6 := HB
             obtain ⟨g, cap, eg, hbg, hgl, cells, hgc⟩ := Kd.R_form HR6.out (by rw [HYL.out]; omega)
             injection eg with eg1 eg2 eg3
             subst eg1
             subst eg3
             have HBG := Aside0.mk hbg
             clear hbg hgc d d0 eg2
             go_wp2_with fail
             obtain ⟨w6, hwq⟩ : ∃ w6, w6 = wr := ⟨_, rfl⟩
             subst hwq)
        all_goals
          have hj := HJ.out
          obtain ⟨cj, hcj, hcM, hcc, hcf⟩ := Kd.R_elem HR6.out (⟨#[]⟩ : ByteArray) (j : Int) (by omega) (by rw [HYL.out]; omega)
          have hcM' : cj = [.string _] := hcM
          subst hcM'
          have k1 := hcc 0 _ rfl
          have k2 := hcf 0
          rw [Int.toNat_natCast] at k1 k2
          rw [show j * Kd.string.sz + 0 = j from Nat.mul_one j] at k1 k2
          rw [HYG.out] at k1
          clear hcc hcf hcj hcM
        all_goals
          have e2 : Int.tdiv (i : Int) 32 = (j : Int) := by rw [Int.tdiv_eq_ediv_of_nonneg (by omega), hj]
          have hx : (Pl.B (((a0.data.toList.take i).drop (32 * j)).take 32)).size ≤ 32 := by rw [Pl.B_size, List.length_take]; omega
        all_goals
          obtain ⟨x, hxx⟩ : ∃ x, Pl.B (((a0.data.toList.take i).drop (32 * j)).take 32) = x := ⟨_, rfl⟩
          rw [hxx] at k1 hx HYS
          clear hxx HYG
          have hx2 : (9223372036854775807 < x.size + 1) = False := eq_false (by omega)
          have hx3 : (9223372036854775807 < x.size + (⟨#[a0[i]]⟩ : ByteArray).size) = False := hx2
          have k1a : ∀ o, (w6.alloc o).cell? ⟨g, j, none⟩ = some (.string x) := fun o => pw_cell_below (below_alloc (Below.refl _ _) o) k1
          have k2a : ∀ o, (w6.alloc o).frozen? ⟨g, j, none⟩ = false := fun o => ((below_alloc (Below.refl _ _) o).frozen (p := ⟨g, j, none⟩) hgl).trans k2
          have hjY : (j : Int) < (Y.length : Int) := by rw [HYL.out]; omega
          have e1 : IntKind.i64.wrap (Int.tdiv (i : Int) 32) = (j : Int) := by rw [e2, i64_w]; unfold wrap64; omega
          have qc : (convert 110 9 (.slice (some ⟨w6.heap.size, 0, none⟩) 1 1)).run Try.prog ((w6.alloc (.cells #[.int .u8 (a0[i].toNat : Int)] 5)).drew) = .ok (.string ⟨#[a0[i]]⟩) ((w6.alloc (.cells #[.int .u8 (a0[i].toNat : Int)] 5)).drew) :=
            run_convert_bytes_back _ 110 9 5 ⟨w6.heap.size, 0, none⟩ 1 [a0[i]] Try.underlying110 Try.underlying5 Try.underlying9 (fun m hm => by
              obtain rfl : m = 0 := by simpa using hm
              simp [Addr.add])
          have HIW : Aside0 (wrap64 ((i : Int) + 1) = ((i + 1 : Nat) : Int)) := ⟨by unfold wrap64; omega⟩
          go_region
          have HR7 := Aside0.mk (Kd.R_drew (Kd.R_alloc (o := .cells #[.int .u8 (a0[i].toNat : Int)] 5) (Kd.R_putg HR6.out (j : Int) (x ++ ⟨#[a0[i]]⟩)).1))
          have HB7 := Aside0.mk (below_drew1 (below_alloc (Below.setCell HB6.out (p := ⟨g, j, none⟩) HBG.out (.string (x ++ ⟨#[a0[i]]⟩))) (.cells #[.int .u8 (a0[i].toNat : Int)] 5)))
          clear k1 k2 k1a k2a qc e1 e2 hj
          go_wp2_with fail
          go_roundg (a0.size - (i + 1))
          case measure => have := HI.out; omega
          case rel =>
            refine ⟨i + 1, by have := HI.out; omega, by first | rfl | go_num, ⟨?_⟩, HB7⟩
            rw [← HYS.out]
            exact HR7.out
      · obtain rfl : i = a0.size := by omega
        clear hi
        have hge : ¬ ((a0.size : Int) < (a0.size : Int)) := Int.lt_irrefl _
        have htk : a0.data.toList.take a0.size = a0.data.toList := List.take_of_length_le (by rw [data_length]; exact Nat.le_refl _)
        rw [htk] at HR
        clear htk hge
        obtain ⟨p0, q0, rfl⟩ := Kd.R_slice HR.out
        by_cases c0 : a0.size = 0
        · have HE : Aside0 (chk a0.data.toList ((a0.size + 31) / 32) = cutB a0) := ⟨by
            have e : a0.data.toList = [] := List.eq_nil_of_length_eq_zero (by rw [data_length]; exact c0)
            rw [cutB, e, c0]
            rfl⟩
          rw [HE.out] at HR
          have HZ : Aside0 ((cutB a0).length = 0) := ⟨by rw [← HE.out, chk_length, c0]⟩
          have hn0 : chk a0.data.toList ((a0.size + 31) / 32) = cutB a0 := HE.out
          rw [hn0, HZ.out]
          clear hn0 c0 c
          have HR2 : Aside0 (Kd.R Kd.string 9 wr w.heap.size (fun _ => True) (.slice p0 0 q0) (cutB a0)) := ⟨by have := HR.out; rw [HZ.out] at this; exact this⟩
          clear HR
          go_wp2_with fail
          go_loopg [] 0 (fun gg w' => Aside0 (Kd.R Kd.string 9 w' w.heap.size (fun _ => True) (.slice p0 0 q0) (cutB a0)) ∧ Aside0 (Below w.heap.size w w'))
          case atStart => exact ⟨HR2, HB⟩
          case round =>
            obtain ⟨HR2, HB⟩ := hrel
            go_wp2_with fail
            go_ret
            exact ⟨_, rfl, HR2.out, HB.out⟩
        · obtain ⟨j, hj⟩ : ∃ j, (a0.size + 31) / 32 = j + 1 := ⟨(a0.size + 31) / 32 - 1, by omega⟩
          have hlen : a0.data.toList.length = a0.size := data_length a0
          rw [hj, chk_length, chk_succ, List.take_of_length_le (by rw [List.length_drop]; omega)] at HR
          have HF : Aside0 (chk a0.data.toList j ++ [Pl.B (a0.data.toList.drop (32 * j)) ++ Pl.B (List.replicate (32 - (a0.data.toList.length - 32 * j)) 0)] = cutB a0) := ⟨chk_fin _ j (by omega) (by omega)⟩
          have HX0 : Aside0 ((Pl.B (a0.data.toList.drop (32 * j))).size = a0.data.toList.length - 32 * j ∧ a0.data.toList.length - 32 * j ≤ 32 ∧ (chk a0.data.toList j).length = j ∧ j ≤ 137438953472) := ⟨by rw [Pl.B_size, List.length_drop], by omega, chk_length _ _, by have := HS.out; omega⟩
          have hpl : (chk a0.data.toList ((a0.size + 31) / 32)).length = j + 1 := by rw [chk_length, hj]
          rw [hpl]
          clear hpl hj hlen c0 c
          generalize a0.data.toList.length - 32 * j = s0 at HF HX0
          generalize Pl.B (a0.data.toList.drop (32 * j)) = x0 at HF HX0 HR
          generalize chk a0.data.toList j = pre at HF HX0 HR
          go_wp2_with fail
          go_loopg [] 32 (fun gg wq => ∃ m : Nat, m + gg = 32 ∧ s0 + m ≤ 32 ∧ Aside0 (Kd.R Kd.string 9 wq w.heap.size (fun _ => True) (.slice p0 (j + 1) q0) (pre ++ [x0 ++ Pl.B (List.replicate m 0)])) ∧ Aside0 (Below w.heap.size w wq))
          case atStart => exact ⟨0, by omega, by have := HX0.out; omega, ⟨by have h1 := HR.out; have e : Pl.B (List.replicate 0 (0 : UInt8)) = ByteArray.empty := rfl; rw [e, ByteArray.append_empty]; exact h1⟩, HB⟩
          case round =>
            obtain ⟨m, hm, hm2, HR2, HB2⟩ := hrel
            have HY : Aside0 ((pre ++ [x0 ++ Pl.B (List.replicate m (0 : UInt8))]).length = j + 1) := ⟨by rw [List.length_append, HX0.out.2.2.1]; rfl⟩
            have HG : Aside0 ((pre ++ [x0 ++ Pl.B (List.replicate m (0 : UInt8))]).getD j ⟨#[]⟩ = x0 ++ Pl.B (List.replicate m 0)) := ⟨by
              rw [List.getD_eq_getElem?_getD, List.getElem?_append_right (by rw [HX0.out.2.2.1]; exact Nat.le_refl _), HX0.out.2.2.1, Nat.sub_self]
              rfl⟩
            have HT : Aside0 ((pre ++ [x0 ++ Pl.B (List.replicate m (0 : UInt8))]).set j (x0 ++ Pl.B (List.replicate m 0) ++ ⟨#[0]⟩) = pre ++ [x0 ++ Pl.B (List.replicate (m + 1) 0)]) := ⟨by
              rw [List.set_append_right _ _ (by rw [HX0.out.2.2.1]; exact Nat.le_refl _), HX0.out.2.2.1, Nat.sub_self, ByteArray.append_assoc, show (⟨#[0]⟩ : ByteArray) = Pl.B [0] from rfl, Pl.B_append, ← List.replicate_succ']
              rfl⟩
            have HZ : Aside0 ((x0 ++ Pl.B (List.replicate m (0 : UInt8))).size = s0 + m) := ⟨by rw [ByteArray.size_append, HX0.out.1, Pl.B_size, List.length_replicate]⟩
            have HFF : Aside0 (s0 + m = 32 → pre ++ [x0 ++ Pl.B (List.replicate m (0 : UInt8))] = cutB a0) := ⟨fun e => by rw [← HF.out, show 32 - s0 = m by omega]⟩
            have hjb : j ≤ 137438953472 := HX0.out.2.2.2
            obtain ⟨g, cap, eg, hbg, hgl, cells, hgc⟩ := Kd.R_form HR2.out (by rw [HY.out]; omega)
            injection eg with eg1 eg2 eg3
            subst eg1
            clear eg2 eg3 hgc
            have HBG := Aside0.mk hbg
            clear hbg
            obtain ⟨cj, hcj, hcM, hcc, hcf⟩ := Kd.R_elem HR2.out (⟨#[]⟩ : ByteArray) (j : Int) (by omega) (by omega)
            have hcM' : cj = [.string _] := hcM
            subst hcM'
            have k1 := hcc 0 _ rfl
            have k2 := hcf 0
            rw [Int.toNat_natCast] at k1 k2
            rw [show j * Kd.string.sz + 0 = j from Nat.mul_one j] at k1 k2
            rw [HG.out] at k1
            clear hcc hcf hcj hcM HG HY
            generalize pre ++ [x0 ++ Pl.B (List.replicate m (0 : UInt8))] = Y at *
            generalize x0 ++ Pl.B (List.replicate m (0 : UInt8)) = y at *
            have hyz : y.size = s0 + m := HZ.out
            have hjj : IntKind.i64.wrap (((j + 1 : Nat) : Int) - 1) = (j : Int) := by rw [i64_w]; unfold wrap64; omega
            by_cases e : s0 + m < 32
            · have HM := Aside0.mk hm
              have HE := Aside0.mk e
              have d1 : decide ((y.size : Int) < 32) = true := decide_eq_true (by omega)
              have d2 : ((y.size : Int) < 32) = True := eq_true (by omega)
              have d3 : (9223372036854775807 < y.size + 1) = False := eq_false (by omega)
              have d4 : (9223372036854775807 < y.size + (⟨#[0]⟩ : ByteArray).size) = False := d3
              have d5 : decide (y.size < 32) = true := decide_eq_true (by omega)
              clear hyz e hm hm2 HZ
              have HR7 := Aside0.mk (Kd.R_putg HR2.out (j : Int) (y ++ ⟨#[0]⟩)).1
              have HB7 := Aside0.mk (Below.setCell HB2.out (p := ⟨g, j, none⟩) HBG.out (.string (y ++ ⟨#[0]⟩)))
              clear HR2 HB2
              go_wp2_with fail
              go_roundg (32 - (m + 1))
              case measure => have := HM.out; have := HE.out; omega
              case rel => exact ⟨m + 1, by have := HM.out; have := HE.out; omega, by have := HE.out; omega, ⟨by have := HR7.out; rw [Int.toNat_natCast, HT.out] at this; exact this⟩, HB7⟩
            · have d1 : decide ((y.size : Int) < 32) = false := decide_eq_false (by omega)
              have d2 : ((y.size : Int) < 32) = False := eq_false (by omega)
              have d5 : decide (y.size < 32) = false := decide_eq_false (by omega)
              have HE : Aside0 (Y = cutB a0) := ⟨HFF.out (by omega)⟩
              clear hyz e hm hm2 HZ
              go_wp2_with fail
              go_ret
              exact ⟨_, rfl, by rw [← HE.out]; exact HR2.out, HB2.out⟩
  · rw [if_neg c] at h
    exact absurd h (by simp)
end Go.Proofs.Ythcohkgpbjcliaa.F
