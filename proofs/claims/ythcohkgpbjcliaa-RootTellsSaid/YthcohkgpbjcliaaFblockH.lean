import Derived.Test.YthcohkgpbjcliaaFUp
import Derived.Test.YthcohkgpbjcliaaFPre
import Derived.Test.YthcohkgpbjcliaaFcheck
import Derived.Test.YthcohkgpbjcliaaFpack
namespace Go.Proofs.Ythcohkgpbjcliaa.F
open Go.RowKit Go.Proofs.YthcohkgpbjcliaaW.PrintWords Go.Proofs.YthcohkgpbjcliaaW.PrintLast Go.Proofs.YthcohkgpbjcliaaW.PrintMore
attribute [local go_sem] max2_int min2_int max_two min_two max_three min_three max_four min_four
set_option linter.unusedVariables false
set_option linter.unusedSimpArgs false
def block_heading.f (k : Nat) (a0 : ByteArray) : Option (ByteArray) := (pack_Num.f k (IntKind.u64.wrap ((a0.size : Int))) 4).bind fun bt135 => ((check_Sum.f k (([bt135.1, a0] : List ByteArray))).bind fun t140 => ((pack_Num.f k (IntKind.u64.wrap (t140)) 3).bind fun bt141 => (if bt135.1.size + bt141.1.size ≤ 9223372036854775807 then (some (bt135.1 ++ bt141.1)) else (none))))
theorem block_heading.mono : ∀ a0 k, LeO (block_heading.f k a0) (block_heading.f (k + 1) a0) := by
 intro a0 k
 unfold block_heading.f
 repeat' first
   | (with_reducible exact check_Sum.mono _ _)
   | (with_reducible exact pack_Num.mono _ _ _)
   | (with_reducible exact LeO.refl _)
   | (with_reducible exact LeO.none _)
   | (with_reducible refine LeO.ite ?_ ?_)
   | (with_reducible refine LeO.bind ?_ (fun _ => ?_))
   | exact LeO.none _
   | refine LeO.ite ?_ ?_
   | refine LeO.bind ?_ (fun _ => ?_)
set_option maxHeartbeats 8000000 in
set_option maxRecDepth 100000 in
theorem block_heading.calls (k : Nat) (a0 : ByteArray) (r : ByteArray) (w : World) (h : block_heading.f k a0 = some r) :
  Calls Try.prog 64 #[.string a0] w fun e w' => e = .returned (.string r) ∧ Below w.heap.size w w' := by
 have HB := Aside0.mk (Below.refl w.heap.size w)
 have H : ((pack_Num.f k (IntKind.u64.wrap ((a0.size : Int))) 4).bind fun bt135 => ((check_Sum.f k (([bt135.1, a0] : List ByteArray))).bind fun t140 => ((pack_Num.f k (IntKind.u64.wrap (t140)) 3).bind fun bt141 => (if bt135.1.size + bt141.1.size ≤ 9223372036854775807 then (some (bt135.1 ++ bt141.1)) else (none))))) = some r := h
 clear h
 replace H := Option.bind_eq_some_iff.mp H
 obtain ⟨⟨t135, t136⟩, A20, H⟩ := H
 try dsimp only at H
 have A2 := Aside0.mk A20
 clear A20
 obtain ⟨y137, hy137⟩ : ∃ y_ : List ByteArray, y_ = (([t135, a0] : List ByteArray)) := ⟨_, rfl⟩
 replace H : ((check_Sum.f k y137).bind fun t140 => ((pack_Num.f k (IntKind.u64.wrap (t140)) 3).bind fun bt141 => (if t135.size + bt141.1.size ≤ 9223372036854775807 then (some (t135 ++ bt141.1)) else (none)))) = some r := by first | (rw [hy137]; with_reducible exact H) | (have H2_ := (Option.bind_some _ _).symm.trans H; rw [hy137]; with_reducible exact H2_) | (have H2_ := (Option.bind_some _ _).symm.trans H; with_reducible exact H2_) | with_reducible exact H | (rw [hy137]; exact H) | exact H
 have Ny137 := Aside0.mk hy137
 clear hy137
 replace H := Option.bind_eq_some_iff.mp H
 obtain ⟨t140, A30, H⟩ := H
 try dsimp only at H
 have A3 := Aside0.mk A30
 clear A30
 replace H := Option.bind_eq_some_iff.mp H
 obtain ⟨⟨t141, t142⟩, A40, H⟩ := H
 try dsimp only at H
 have A4 := Aside0.mk A40
 clear A40
 by_cases c5 : t135.size + t141.size ≤ 9223372036854775807
 ·rw [if_pos c5] at H
  have c5b0 := eq_true c5
  have c5b1 : decide (t135.size + t141.size ≤ 9223372036854775807) = true := decide_eq_true c5
  try have c5b2 : (9223372036854775807 < t135.size + t141.size) = False := eq_false (Nat.not_lt.2 c5)
  clear c5
  obtain rfl := Option.some.inj H
  go_enter Try.func64, Try.ntmps64
  go_wp2_with (first | ((with_reducible refine gate_callee (f := 41) rfl ?_); refine goesL_ (some 11) rfl rfl Try.func41 (by kernel_rfl) rfl #[.int .u64 (IntKind.u64.wrap ((a0.size : Int))), .int .i64 4] rfl (by (try simp only [List.map_toArray, List.map_cons, List.map_nil]); first | done | rfl | (simp only [List.length_drop, List.length_take]; rfl)) ?_; (with_reducible refine (pack_Num.calls k (IntKind.u64.wrap ((a0.size : Int))) 4 t135 t136 _ A2.out).mono ?_); rintro e w6 ⟨rfl, hb⟩; refine ⟨_, rfl, ?_⟩; replace HB := Aside0.mk (below_step (beU HB.out) hb); (try clear hb); (try clear hb2); (try clear hk); (try clear hi)) | ((with_reducible refine gate_dst (N := 17) rfl ?_); refine Kd.R_lit Kd.string _ 9 ?hg (N := 17) ?hd (xs := ([t135, a0] : List ByteArray)) (inner := [.string t135, .string a0]) (ok := fun _ => True) (okp := fun _ => True) ?hr ?hp (fun _ hk => hk) trivial (Below.refl _ _) (Nat.le_refl _) (by simp) ?_; (case hd => rfl); (case hg => rfl); (case hr => first | (go_simp; done) | (go_simp; rfl)); (case hp => exact (Reps.one (show Kd.M Kd.string _ _ _ t135 [.string t135] from rfl) (Reps.one (show Kd.M Kd.string _ _ _ a0 [.string a0] from rfl) (Reps.none _ _)))); intro v138 w7 ho8 hb hg_ hnew_; clear hg_ hnew_; (first | rw [← Ny137.out] at ho8 | (simp only [Int.reduceToNat] at ho8; rw [← Ny137.out] at ho8)); have HO139 := Aside0.mk (Kd.R_lower ho8 (below_size (beU HB.out))); replace HB := Aside0.mk (below_step (beU HB.out) hb); clear hb ho8; obtain ⟨Ao9, co9, eo9⟩ := Kd.R_slice HO139.out; subst eo9) | ((with_reducible refine gate_callee (f := 88) rfl ?_); refine goesL_ (some 18) rfl rfl Try.func88 (by kernel_rfl) rfl #[.slice Ao9 y137.length co9] rfl (by (try simp only [List.map_toArray, List.map_cons, List.map_nil]); first | done | rfl | (simp only [List.length_drop, List.length_take]; rfl)) ?_; (with_reducible refine (check_Sum.calls k _ _ y137 t140 _ ?side1 ?side2 A3.out).mono ?_); (case side1 => repeat (first | exact (Kd.R_reads' HO139.out).2.2 | (with_reducible refine Kd.C_alloc ?_ _) | (with_reducible refine Kd.C_drewN ?_ _) | (with_reducible refine Kd.C_drew ?_))); (case side2 => exact (Kd.R_reads' HO139.out).2.1); rintro e w10 ⟨rfl, hb⟩; refine ⟨_, rfl, ?_⟩; replace HO139 := Aside0.mk (Kd.R_below (rU HO139.out) hb); replace HB := Aside0.mk (below_step (beU HB.out) hb); (try clear hb); (try clear hb2); (try clear hk); (try clear hi)) | ((with_reducible refine gate_callee (f := 41) rfl ?_); refine goesL_ (some 20) rfl rfl Try.func41 (by kernel_rfl) rfl #[.int .u64 (IntKind.u64.wrap (t140)), .int .i64 3] rfl (by (try simp only [List.map_toArray, List.map_cons, List.map_nil]); first | done | rfl | (simp only [List.length_drop, List.length_take]; rfl)) ?_; (with_reducible refine (pack_Num.calls k (IntKind.u64.wrap (t140)) 3 t141 t142 _ A4.out).mono ?_); rintro e w11 ⟨rfl, hb⟩; refine ⟨_, rfl, ?_⟩; replace HO139 := Aside0.mk (Kd.R_below (rU HO139.out) hb); replace HB := Aside0.mk (below_step (beU HB.out) hb); (try clear hb); (try clear hb2); (try clear hk); (try clear hi)))
  go_ret
  exact ⟨by first | rfl | (simp [errW_none, errW_some] <;> rfl) | (simp [*, errW_none, errW_some] <;> rfl), by repeat (first | (with_reducible first | exact HB.out | apply below_alloc | apply pw_below_drewN | apply below_drew1) | exact HB.out)⟩
 ·rw [if_neg c5] at H
  exact absurd H (by simp)
def block_Need.f (a0 : Int) : Option (Int) := if a0 < 0 then (some 0) else (if a0 > 65535 then (some 0) else (some (wrap64 (Int.tdiv (wrap64 ((wrap64 ((wrap64 (7 + a0)) + 32)) - 1)) 32))))
set_option maxHeartbeats 8000000 in
set_option maxRecDepth 100000 in
theorem block_Need.calls (a0 : Int) (r : Int) (w : World) (h : block_Need.f a0 = some r) :
  Calls Try.prog 70 #[.int .i64 a0] w fun e w' => e = .returned (.int .i64 r) ∧ Drawn0 w w' := by
 have H : (if a0 < 0 then (some 0) else (if a0 > 65535 then (some 0) else (some (wrap64 (Int.tdiv (wrap64 ((wrap64 ((wrap64 (7 + a0)) + 32)) - 1)) 32))))) = some r := h
 clear h
 by_cases c2 : a0 < 0
 ·rw [if_pos c2] at H
  have c2b0 : decide (a0 < 0) = true := decide_eq_true c2
  clear c2
  obtain rfl := Option.some.inj H
  go_enter Try.func70, Try.ntmps70
  go_wp2
  go_ret
  exact ⟨by first | rfl | (simp; done) | (simp [*]; done), by repeat (first | exact Drawn0.refl _ | apply Drawn0.step)⟩
 ·rw [if_neg c2] at H
  have c2b0 : decide (a0 < 0) = false := decide_eq_false c2
  clear c2
  by_cases c3 : a0 > 65535
  ·rw [if_pos c3] at H
   have c3b0 : decide (65535 < a0) = true := decide_eq_true c3
   clear c3
   obtain rfl := Option.some.inj H
   go_enter Try.func70, Try.ntmps70
   go_wp2
   go_ret
   exact ⟨by first | rfl | (simp; done) | (simp [*]; done), by repeat (first | exact Drawn0.refl _ | apply Drawn0.step)⟩
  ·rw [if_neg c3] at H
   have c3b0 : decide (65535 < a0) = false := decide_eq_false c3
   clear c3
   obtain rfl := Option.some.inj H
   go_enter Try.func70, Try.ntmps70
   go_wp2
   go_ret
   exact ⟨by first | rfl | (simp; done) | (simp [*]; done), by repeat (first | exact Drawn0.refl _ | apply Drawn0.step)⟩
end Go.Proofs.Ythcohkgpbjcliaa.F
