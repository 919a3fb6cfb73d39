import Derived.Test.YthcohkgpbjcliaaFPre
import Derived.Test.YthcohkgpbjcliaaFLem
import Derived.Test.YthcohkgpbjcliaaJourSpec
import Derived.Deep.LoopGhost
import Derived.Deep.RegionHeld3
import Derived.Test.YthcohkgpbjcliaaFstrings
namespace Go.Proofs.Ythcohkgpbjcliaa.F
open Go.RowKit Go.Proofs.YthcohkgpbjcliaaW.PrintWords Go.Proofs.YthcohkgpbjcliaaW.PrintLast Go.Proofs.YthcohkgpbjcliaaW.PrintMore
attribute [local go_sem] max2_int min2_int max_two min_two max_three min_three max_four min_four
set_option linter.unusedVariables false
set_option linter.unusedSimpArgs false
-- uses strings_Repeat.calls
def cutB (s : ByteArray) : List ByteArray := (Pl.cutL s.data.toList).map Pl.B
def block_Cut.f (a0 : ByteArray) : Option (List ByteArray) := if a0.size ≤ 4398046511104 then some (cutB a0) else none
theorem zeros_eq : ∀ (c : Nat), Lib.repeatL (⟨#[0]⟩ : ByteArray).data.toList c = List.replicate c 0
 | 0 => rfl
 | c + 1 => by rw [Lib.repeatL, zeros_eq c, List.replicate_succ]; rfl
theorem repeat_zero (j : Int) (h0 : 0 ≤ j) (h1 : j ≤ 32) : strings_Repeat.f (⟨#[0]⟩ : ByteArray) j = some (Pl.B (List.replicate j.toNat 0)) := by
 unfold strings_Repeat.f
 rw [if_pos ⟨h0, by omega, by show 1 * j.toNat ≤ _; omega⟩, zeros_eq]
 rfl
theorem cutB_nil (s : ByteArray) (h : s.toList = []) : cutB s = [] := by
 rw [ByteArray.toList_eq] at h
 rw [cutB, h, Pl.cutL_nil]
 rfl
theorem ext_take (s : ByteArray) (n : Nat) : s.extract 0 n = Pl.B (s.data.toList.take n) := by
 conv => lhs; rw [Pl.B_of s]
 rw [Pl.B_extract, List.drop_zero]
theorem ext_drop (s : ByteArray) (n : Nat) : s.extract n s.size = Pl.B (s.data.toList.drop n) := by
 conv => lhs; rw [Pl.B_of s]
 rw [Pl.B_extract_all]
theorem cutB_cons (s : ByteArray) (h : ¬ s.toList = []) : cutB s = (s.extract 0 (min s.size 32) ++ Pl.B (List.replicate (32 - min s.size 32) 0)) :: cutB (s.extract (min s.size 32) s.size) := by
 rw [ByteArray.toList_eq] at h
 have hl := data_length s
 rw [cutB, Pl.cutL_cons _ h, List.map_cons, ext_take, ext_drop, Pl.B_append, cutB, Pl.B_data]
 congr 2
 ·rw [Pl.pad32, List.length_take, hl]
  by_cases d : s.size ≤ 32
  ·rw [show min s.size 32 = s.size by omega, show min 32 s.size = s.size by omega, List.take_of_length_le (by omega), List.take_of_length_le (by omega)]
  ·rw [show min s.size 32 = 32 by omega, show min 32 s.size = 32 by omega]
 ·by_cases d : s.size ≤ 32
  ·rw [show min s.size 32 = s.size by omega, List.drop_of_length_le (by omega), List.drop_of_length_le (by omega)]
  ·rw [show min s.size 32 = 32 by omega]
set_option maxHeartbeats 4000000 in
set_option maxRecDepth 100000 in
theorem block_Cut.calls (a0 : ByteArray) (r : List ByteArray) (w : World) (h : block_Cut.f a0 = some r) :
  Calls Try.prog 63 #[.string a0] w fun e w' => ∃ v : Value, e = .returned v ∧ Kd.R Kd.string 9 w' w.heap.size (fun _ => True) v r ∧ Below w.heap.size w w' := by
 unfold block_Cut.f at h
 by_cases c : a0.size ≤ 4398046511104
 ·rw [if_pos c] at h
  obtain rfl := Option.some.inj h
  clear h
  have HS := Aside0.mk c
  clear c
  go_enter Try.func63, Try.ntmps63
  go_wp2_with fail
  go_loopg [0, 3] a0.size (fun gg v0 v3 wr => ∃ (x : ByteArray) (out : List ByteArray), v0 = .string x ∧ Aside0 (x.size ≤ gg ∧ x.size + out.length ≤ a0.size) ∧ Aside0 (out ++ cutB x = cutB a0) ∧ Aside0 (Kd.R Kd.string 9 wr w.heap.size (fun _ => True) v3 out) ∧ Aside0 (Below w.heap.size w wr))
  case atStart => exact ⟨a0, [], rfl, ⟨by omega, by simp⟩, ⟨rfl⟩, ⟨Kd.R_nil _ _ _ _ _⟩, ⟨Below.refl _ _⟩⟩
  case round =>
   obtain ⟨x, out, rfl, HI, HA, HR, HB⟩ := hrel
   obtain ⟨p0, q0, rfl⟩ := Kd.R_slice HR.out
   by_cases c : x.toList = []
   ·have c2 : x.toList.isEmpty = true := by rw [c]; rfl
    have HE : Aside0 (out = cutB a0) := ⟨by have := HA.out; rw [cutB_nil x c, List.append_nil] at this; exact this⟩
    clear HA
    go_wp2_with fail
    go_ret
    exact ⟨_, rfl, by rw [← HE.out]; exact HR.out, HB.out⟩
   ·have c2 : x.toList.isEmpty = false := by cases hx : x.toList with | nil => exact absurd hx c | cons a l => rfl
    have hx1 : 1 ≤ x.size := by
     rcases Nat.eq_zero_or_pos x.size with h | h
     ·exact absurd (by rw [ByteArray.toList_eq]; exact List.eq_nil_of_length_eq_zero (by rw [data_length]; exact h)) c
     ·exact h
    by_cases d : 32 < x.size
    ·have d1 : decide ((32 : Int) < (x.size : Int)) = true := decide_eq_true (by omega)
     have d2 : ((32 : Int) < (x.size : Int)) = True := eq_true (by omega)
     have d3 : decide (32 < x.size) = true := decide_eq_true d
     have d4 : (32 : Int) ≤ (x.size : Int) := by omega
     have hw0 : IntKind.i64.wrap 0 = 0 := by rw [i64_w]; unfold wrap64; omega
     have d5 : (0 : Int) ≤ (x.size : Int) := by omega
     have hcf := eq_false c
     have HX : Aside0 (out ++ [x.extract 0 32 ++ Pl.B (List.replicate (32 - 32) 0)] ++ cutB (x.extract 32 x.size) = cutB a0) := ⟨by
      have := HA.out
      rw [cutB_cons x c, show min x.size 32 = 32 by omega] at this
      rw [← this, List.append_assoc]
      rfl⟩
     have HZ : Aside0 (strings_Repeat.f (⟨#[0]⟩ : ByteArray) 0 = some (Pl.B (List.replicate (32 - 32) 0))) := ⟨by
      have := repeat_zero (32 - (32 : Int)) (by omega) (by omega)
      rw [show (32 - (32 : Int) : Int).toNat = 32 - 32 by omega] at this
      exact this⟩
     have HSZ : Aside0 ((Pl.B (List.replicate (32 - 32) (0 : UInt8))).size = 32 - 32) := ⟨by rw [Pl.B_size, List.length_replicate]⟩
     have HGO : Aside0 ((x.extract 32 x.size).size < gk ∧ (x.extract 32 x.size).size ≤ (x.extract 32 x.size).size ∧ (x.extract 32 x.size).size + (out.length + 1) ≤ a0.size) := ⟨by rw [ByteArray.size_extract]; have := HI.out; omega⟩
     have hs32 : (Pl.B (List.replicate (32 - 32) (0 : UInt8))).size ≤ 32 := by rw [HSZ.out]; omega
     have HSL := Aside0.mk HS.out
     have hxs : x.size ≤ 4398046511104 := by have := HI.out; have := HS.out; omega
     have hsum : (9223372036854775807 < (x.extract 0 32).size + (Pl.B (List.replicate (32 - 32) (0 : UInt8))).size) = False := eq_false (by rw [ByteArray.size_extract]; omega)
     have hsum2 : (9223372036854775807 < min 32 x.size + (Pl.B (List.replicate (32 - 32) (0 : UInt8))).size) = False := eq_false (by omega)
     have hsum3 : (9223372036854775807 < 32 + (Pl.B (List.replicate (32 - 32) (0 : UInt8))).size) = False := eq_false (by omega)
     have HLO : Aside0 (out.length ≤ 4398046511104) := ⟨by have := HI.out; have := HS.out; omega⟩
     clear c HA hs32
     generalize Pl.B (List.replicate (32 - 32) (0 : UInt8)) = z at *
     go_wp2_with fail
     go_region_held3 (fun _ => True) (exact trivial) (first
      | (go_at_call 51; (with_reducible refine (strings_Repeat.calls (⟨#[0]⟩ : ByteArray) 0 z _ HZ.out).mono ?_); rintro e w5 ⟨rfl, hb⟩; have HR5 := Aside0.mk (Kd.R_below (Kd.R_drew HR.out) hb); have HB5 := Aside0.mk (below_step (below_drew HB.out) hb); clear hb)
      | (refine Kd.R_append_step Kd.string (w0 := w) w.heap.size (by rfl) (.tmp 10) (.tmp 18) 22 9 (.string ⟨#[]⟩) 16 rfl Try.underlying22 info9 rfl (by decide) (by omega) (.slice p0 out.length q0) out (x.extract 0 32 ++ z) [.string (x.extract 0 32 ++ z)] (fun _ => True) (fun _ => False) rfl rfl ?aP (fun _ hk => hk.elim) ?aF ?aO ?aB ?aS ?aL ?_; (case aP => exact rfl); (case aB => exact HB5.out); (case aF => exact (fun _ _ => trivial)); (case aO => exact HR5.out); (case aS => exact below_size HB5.out); (case aL => have := HLO.out; omega); intro v1 w6 ho hb hg hat; have HR6 := Aside0.mk ho; have HB6 := Aside0.mk hb; clear ho hb hg hat))
     go_wp2_with fail
     go_roundg (x.extract 32 x.size).size
     try (case measure => exact HGO.out.1)
     case rel => exact ⟨_, _, rfl, ⟨Nat.le_refl _, by have := HGO.out.2.2; simp only [List.length_append, List.length_singleton]; omega⟩, HX, HR6, HB6⟩
    ·have d1 : decide ((32 : Int) < (x.size : Int)) = false := decide_eq_false (by omega)
     have d2 : ((32 : Int) < (x.size : Int)) = False := eq_false (by omega)
     have d3 : decide (32 < x.size) = false := decide_eq_false d
     have hcf := eq_false c
     have HX : Aside0 (out ++ [x ++ Pl.B (List.replicate (32 - x.size) 0)] ++ cutB ByteArray.empty = cutB a0) := ⟨by
      have := HA.out
      rw [cutB_cons x c, show min x.size 32 = x.size by omega] at this
      rw [show x.extract 0 x.size = x by rw [ext_take, List.take_of_length_le (by rw [data_length]; omega), ← Pl.B_of]] at this
      rw [show x.extract x.size x.size = ByteArray.empty by simp] at this
      rw [← this, List.append_assoc]
      rfl⟩
     have HZ : Aside0 (strings_Repeat.f (⟨#[0]⟩ : ByteArray) (32 - (x.size : Int)) = some (Pl.B (List.replicate (32 - x.size) 0))) := ⟨by
      have := repeat_zero (32 - (x.size : Int)) (by omega) (by omega)
      rw [show (32 - (x.size : Int) : Int).toNat = 32 - x.size by omega] at this
      exact this⟩
     have HSZ : Aside0 ((Pl.B (List.replicate (32 - x.size) (0 : UInt8))).size = 32 - x.size) := ⟨by rw [Pl.B_size, List.length_replicate]⟩
     have HGO : Aside0 (ByteArray.empty.size < gk ∧ ByteArray.empty.size ≤ ByteArray.empty.size ∧ ByteArray.empty.size + (out.length + 1) ≤ a0.size) := ⟨by rw [show ByteArray.empty.size = 0 from rfl]; have := HI.out; omega⟩
     have hs32 : (Pl.B (List.replicate (32 - x.size) (0 : UInt8))).size ≤ 32 := by rw [HSZ.out]; omega
     have HSL := Aside0.mk HS.out
     have hxs : x.size ≤ 4398046511104 := by have := HI.out; have := HS.out; omega
     have hsum : (9223372036854775807 < x.size + (Pl.B (List.replicate (32 - x.size) (0 : UInt8))).size) = False := eq_false (by omega)
     have hsum2 : (9223372036854775807 < min x.size x.size + (Pl.B (List.replicate (32 - x.size) (0 : UInt8))).size) = False := eq_false (by omega)
     have hsum3 : (9223372036854775807 < x.size + (Pl.B (List.replicate (32 - x.size) (0 : UInt8))).size) = False := eq_false (by omega)
     have hwr : IntKind.i64.wrap (32 - (x.size : Int)) = 32 - (x.size : Int) := by rw [i64_w]; unfold wrap64; omega
     have HLO : Aside0 (out.length ≤ 4398046511104) := ⟨by have := HI.out; have := HS.out; omega⟩
     clear c HA hs32
     generalize Pl.B (List.replicate (32 - x.size) (0 : UInt8)) = z at *
     go_wp2_with fail
     go_region_held3 (fun _ => True) (exact trivial) (first
      | (go_at_call 51; (with_reducible refine (strings_Repeat.calls (⟨#[0]⟩ : ByteArray) (32 - (x.size : Int)) z _ HZ.out).mono ?_); rintro e w5 ⟨rfl, hb⟩; have HR5 := Aside0.mk (Kd.R_below (Kd.R_drew HR.out) hb); have HB5 := Aside0.mk (below_step (below_drew HB.out) hb); clear hb)
      | (refine Kd.R_append_step Kd.string (w0 := w) w.heap.size (by rfl) (.tmp 10) (.tmp 18) 22 9 (.string ⟨#[]⟩) 16 rfl Try.underlying22 info9 rfl (by decide) (by omega) (.slice p0 out.length q0) out (x ++ z) [.string (x ++ z)] (fun _ => True) (fun _ => False) rfl rfl ?aP (fun _ hk => hk.elim) ?aF ?aO ?aB ?aS ?aL ?_; (case aP => exact rfl); (case aB => exact HB5.out); (case aF => exact (fun _ _ => trivial)); (case aO => exact HR5.out); (case aS => exact below_size HB5.out); (case aL => have := HLO.out; omega); intro v1 w6 ho hb hg hat; have HR6 := Aside0.mk ho; have HB6 := Aside0.mk hb; clear ho hb hg hat))
     go_wp2_with fail
     go_roundg ByteArray.empty.size
     try (case measure => exact HGO.out.1)
     case rel => exact ⟨_, _, rfl, ⟨Nat.le_refl _, by have := HGO.out.2.2; simp only [List.length_append, List.length_singleton]; omega⟩, HX, HR6, HB6⟩
 ·rw [if_neg c] at h
  exact absurd h (by simp)
end Go.Proofs.Ythcohkgpbjcliaa.F
