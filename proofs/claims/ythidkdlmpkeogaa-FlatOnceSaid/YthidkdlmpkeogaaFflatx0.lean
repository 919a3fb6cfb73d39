/- Contracts of Go functions of the seat Ythidkdlmpkeogaa: what a call comes to; no condition but those that each theorem names. -/
import Derived.Test.YthidkdlmpkeogaaFPre
import Derived.Test.YthidkdlmpkeogaaFleaf
import Derived.Test.YthidkdlmpkeogaaFnote
import Derived.Test.YthidkdlmpkeogaaFpack
namespace Go.Proofs.Ythidkdlmpkeogaa.F
open Go.RowKit Go.Proofs.YthidkdlmpkeogaaW.PrintWords Go.Proofs.YthidkdlmpkeogaaW.PrintLast Go.Proofs.YthidkdlmpkeogaaW.PrintMore
attribute [local go_sem] max2_int min2_int max_two min_two max_three min_three max_four min_four   -- for this text's walks alone
set_option linter.unusedVariables false
set_option linter.unusedSimpArgs false

/-! ### flat_writer_num: function 55 -/
/-- A state of type 120 at block g of W; what its slices lead to came in by w0. -/
def IsS120 (w0 W : World) (g : Nat) (f0 : ByteArray) (f1 : Bool) : Prop := W.heap[g]? = some (.cells #[.string f0, .bool f1] 120 (0, 0)) ∧ w0.heap.size ≤ g
theorem IsS120.grown {w0 W : World} {g : Nat} {f0 : ByteArray} {f1 : Bool} {W1 : World} {row : Option Nat} (h : IsS120 w0 W g f0 f1) (hw : W.grownBy W1 row) (hne : some g ≠ row) : IsS120 w0 W1 g f0 f1 := by
  obtain ⟨hb, hg⟩ := h
  exact ⟨blk_grown hb hw hne, hg⟩
theorem IsS120.own_neN {w0 W : World} {g : Nat} {f0 : ByteArray} {f1 : Bool} {α : Type} {d : Kd α} {e : Nat} {base : Nat} {ok : Nat → Prop} {v : Value} {xs : List α} (h : IsS120 w0 W g f0 f1) (ho : Kd.N d e W base ok v xs) (ht : e ≠ 120) : some g ≠ v.ownBlock := by
  obtain ⟨hb, hg⟩ := h
  exact Kd.N_ne ho hb ht
theorem IsS120.fresh {w0 W : World} {g : Nat} {f0 : ByteArray} {f1 : Bool} (h : IsS120 w0 W g f0 f1) : ∀ k, W.heap.size ≤ k → k ≠ g := by
  obtain ⟨hb, hg⟩ := h
  exact Kd.freshB hb
theorem IsS120.kept {w0 W : World} {g : Nat} {f0 : ByteArray} {f1 : Bool} {W1 : World} {S : Nat → Prop} (h : IsS120 w0 W g f0 f1) (hk : Kept W W1 S) (hne : ¬ S g) : IsS120 w0 W1 g f0 f1 := by
  obtain ⟨hb, hg⟩ := h
  exact ⟨blk_kept hb hk hne, hg⟩
theorem IsS120.below {w0 W : World} {g : Nat} {f0 : ByteArray} {f1 : Bool} {W1 : World} (h : IsS120 w0 W g f0 f1) (hw : Below W.heap.size W W1) : IsS120 w0 W1 g f0 f1 := h.grown (grown_of_below hw none) (by simp)
theorem IsS120.alloc {w0 W : World} {g : Nat} {f0 : ByteArray} {f1 : Bool} (h : IsS120 w0 W g f0 f1) (o : Obj) : IsS120 w0 (W.alloc o) g f0 f1 := h.below (below_alloc (Below.refl _ _) o)
theorem IsS120.drewN {w0 W : World} {g : Nat} {f0 : ByteArray} {f1 : Bool} (h : IsS120 w0 W g f0 f1) (m : Nat) : IsS120 w0 (W.drewN m) g f0 f1 := h
theorem IsS120.drew {w0 W : World} {g : Nat} {f0 : ByteArray} {f1 : Bool} (h : IsS120 w0 W g f0 f1) : IsS120 w0 W.drew g f0 f1 := h
theorem IsS120.at_ {w0 W : World} {g : Nat} {f0 : ByteArray} {f1 : Bool} {w' : World} {m : Nat} (hq : W.drewN m = w') (h : IsS120 w0 W g f0 f1) : IsS120 w0 w' g f0 f1 := by subst hq; exact IsS120.drewN h m
theorem IsS120.apart {w0 W : World} {g : Nat} {f0 : ByteArray} {f1 : Bool} {α : Type} {d : Kd α} {e : Nat} {base : Nat} {ok : Nat → Prop} {v : Value} {xs : List α} (h : IsS120 w0 W g f0 f1) (ho : d.R e W base ok v xs) (ht : ∀ q, q ∈ e :: d.E → q ≠ 120) : d.R e W base (fun k => ok k ∧ k ≠ g) v xs := by
  obtain ⟨hb, hg⟩ := h
  exact Kd.R_types ho hb ht
theorem IsS120.own_ne {w0 W : World} {g : Nat} {f0 : ByteArray} {f1 : Bool} {α : Type} {d : Kd α} {e : Nat} {base : Nat} {ok : Nat → Prop} {v : Value} {xs : List α} (h : IsS120 w0 W g f0 f1) (ho : d.R e W base ok v xs) (ht : e ≠ 120) : some g ≠ v.ownBlock := by
  obtain ⟨hb, hg⟩ := h
  exact Kd.R_ne ho hb ht
theorem IsS120.apartQ {w0 W : World} {g : Nat} {f0 : ByteArray} {f1 : Bool} {α : Type} {d : Kd α} {e : Nat} {base : Nat} {ok : Nat → Prop} {v : Value} {xs : List α} (h : IsS120 w0 W g f0 f1) (ho : d.Q e W base ok v xs) (ht : ∀ q, q ∈ e :: d.E → q ≠ 120) : d.Q e W base (fun k => ok k ∧ k ≠ g) v xs := by
  obtain ⟨hb, hg⟩ := h
  exact Kd.Q_types ho hb ht
theorem IsS120.own_neQ {w0 W : World} {g : Nat} {f0 : ByteArray} {f1 : Bool} {α : Type} {d : Kd α} {e : Nat} {base : Nat} {ok : Nat → Prop} {v : Value} {xs : List α} (h : IsS120 w0 W g f0 f1) (ho : d.Q e W base ok v xs) (ht : e ≠ 120) : some g ≠ v.ownBlock := by
  obtain ⟨hb, hg⟩ := h
  exact Kd.Q_ne ho hb ht
theorem IsS120.apartS {w0 W : World} {g : Nat} {f0 : ByteArray} {f1 : Bool} {α : Type} {d : Kd α} {e : Nat} {base : Nat} {ok : Nat → Prop} {v : Value} {xs : List α} (h : IsS120 w0 W g f0 f1) (ho : d.S e W base ok v xs) (ht : ∀ q, q ∈ e :: d.E → q ≠ 120) : d.S e W base (fun k => ok k ∧ k ≠ g) v xs := by
  obtain ⟨hb, hg⟩ := h
  exact Kd.S_types ho hb ht
theorem IsS120.own_neS {w0 W : World} {g : Nat} {f0 : ByteArray} {f1 : Bool} {α : Type} {d : Kd α} {e : Nat} {base : Nat} {ok : Nat → Prop} {v : Value} {xs : List α} (h : IsS120 w0 W g f0 f1) (ho : d.S e W base ok v xs) (ht : e ≠ 120) : some g ≠ v.ownBlock := by
  obtain ⟨hb, hg⟩ := h
  exact Kd.S_ne ho hb ht
theorem IsS120.lt {w0 W : World} {g : Nat} {f0 : ByteArray} {f1 : Bool} (h : IsS120 w0 W g f0 f1) : g < W.heap.size := by
  obtain ⟨hb, hg⟩ := h
  exact blk_lt hb
theorem IsS120.ge {w0 W : World} {g : Nat} {f0 : ByteArray} {f1 : Bool} (h : IsS120 w0 W g f0 f1) : w0.heap.size ≤ g := by
  obtain ⟨hb, hg⟩ := h
  exact hg
theorem IsS120.ne_blk {w0 W : World} {g : Nat} {f0 : ByteArray} {f1 : Bool} {a : Nat} {cs : Array Value} {t : TypeId} {fr : Nat × Nat} (h : IsS120 w0 W g f0 f1) (hb2 : W.heap[a]? = some (.cells cs t fr)) (ht : t ≠ 120) : g ≠ a := by
  obtain ⟨hb, hg⟩ := h
  rintro rfl
  rw [hb] at hb2
  injection hb2 with hb2
  injection hb2 with _ ht2
  exact ht ht2.symm
theorem IsS120.far {w0 W : World} {g : Nat} {f0 : ByteArray} {f1 : Bool} {p : Addr} (h : IsS120 w0 W g f0 f1) (hne : g ≠ p.block) (u : Value) : IsS120 w0 (W.setCell p u) g f0 f1 := by
  obtain ⟨hb, hg⟩ := h
  exact ⟨blk_far hb hne u, hg⟩
theorem cellS120_0 {W : World} {g : Nat} {f0 : ByteArray} {f1 : Bool} (h : W.heap[g]? = some (.cells #[.string f0, .bool f1] 120 (0, 0))) : W.cell? ⟨g, 0, none⟩ = some (.string f0) := (blk_cell h 0).trans rfl
theorem IsS120.set_0 {w0 W : World} {g : Nat} {f0 : ByteArray} {f1 : Bool} (h : IsS120 w0 W g f0 f1) (x : ByteArray) : IsS120 w0 (W.setCell ⟨g, 0, none⟩ (.string x)) g x f1 := by
  obtain ⟨hb, hg⟩ := h
  exact ⟨by simpa using blk_set hb 0 (.string x), hg⟩
theorem cellS120_1 {W : World} {g : Nat} {f0 : ByteArray} {f1 : Bool} (h : W.heap[g]? = some (.cells #[.string f0, .bool f1] 120 (0, 0))) : W.cell? ⟨g, 1, none⟩ = some (.bool f1) := (blk_cell h 1).trans rfl
theorem IsS120.set_1 {w0 W : World} {g : Nat} {f0 : ByteArray} {f1 : Bool} (h : IsS120 w0 W g f0 f1) (x : Bool) : IsS120 w0 (W.setCell ⟨g, 1, none⟩ (.bool x)) g f0 x := by
  obtain ⟨hb, hg⟩ := h
  exact ⟨by simpa using blk_set hb 1 (.bool x), hg⟩
theorem IsS120.new (w0 W : World) (f0 : ByteArray) (f1 : Bool) (hB : Below w0.heap.size w0 W) : IsS120 w0 (W.alloc (.cells #[.string f0, .bool f1] 120)) W.heap.size f0 f1 := ⟨by simpa using heap_alloc_new W _, hB.size⟩

def flat_writer_num.f (k : Nat) (s0_0 : ByteArray) (s0_1 : Bool) (a1 : Int) (a2 : Int) : Option (ByteArray × Bool) :=
  (pack_Num.f k a1 a2).bind fun b => if s0_0.size + b.1.size ≤ 9223372036854775807 then some (s0_0 ++ b.1, s0_1 || (b.2 != 0)) else none
theorem flat_writer_num.mono : ∀ a0 a1 a2 a3 k, LeO (flat_writer_num.f k a0 a1 a2 a3) (flat_writer_num.f (k + 1) a0 a1 a2 a3) := by
  intro a0 a1 a2 a3 k
  unfold flat_writer_num.f
  exact LeO.bind (pack_Num.mono _ _ _) fun _ => LeO.refl _
set_option maxHeartbeats 8000000 in
set_option maxRecDepth 100000 in
theorem flat_writer_num.calls (k : Nat) (g : Nat) (s0_0 : ByteArray) (s0_1 : Bool) (a1 : Int) (a2 : Int) (r1 : ByteArray) (r2 : Bool) (w0 w : World) (hI : IsS120 w0 w g s0_0 s0_1) (hB : Below w0.heap.size w0 w) (h : flat_writer_num.f k s0_0 s0_1 a1 a2 = some (r1, r2)) :
    Calls Try.prog 55 #[.pointer (some ⟨g, 0, none⟩), .int .u64 a1, .int .i64 a2] w fun e w' => e = .returned (.tuple #[]) ∧ IsS120 w0 w' g r1 r2 ∧ Below w0.heap.size w0 w' ∧ KeepBut w w' g none := by
  unfold flat_writer_num.f at h
  obtain ⟨⟨t1, t2⟩, A, h⟩ := Option.bind_eq_some_iff.mp h
  simp only at h
  by_cases hs : s0_0.size + t1.size ≤ 9223372036854775807
  · rw [if_pos hs] at h
    simp only [Option.some.injEq, Prod.mk.injEq] at h
    obtain ⟨rfl, rfl⟩ := h
    have HA := Aside0.mk A
    clear A
    go_enter Try.func55, Try.ntmps55
    go_wp2_with (go_at_call 96; (with_reducible refine (pack_Num.calls k a1 a2 t1 t2 _ HA.out).mono ?_); rintro e w5 ⟨rfl, hb⟩)
    have hI5 := hI.below hb
    have hb5 : w5.heap[g]? = some (.cells #[.string s0_0, .bool s0_1] 120 (0, 0)) := hI5.1
    have c0 : w5.cell? ⟨g, 0, none⟩ = some (.string s0_0) := (blk_cell hb5 0).trans rfl
    have c1 : w5.cell? ⟨g, 1, none⟩ = some (.bool s0_1) := (blk_cell hb5 1).trans rfl
    have f0 : w5.frozen? ⟨g, 0, none⟩ = false := blk_frozen hb5 0
    have f1 : w5.frozen? ⟨g, 1, none⟩ = false := blk_frozen hb5 1
    have hB5 : Below w0.heap.size w0 w5 := below_then hB hB.size hb
    have hk5 : KeepBut w w5 g none := KeepBut.of_below hb g none
    have hg5 := hI5.ge
    clear hI hB hb h
    have fin : ∀ (x : ByteArray) (y : Bool), IsS120 w0 ((w5.setCell ⟨g, 0, none⟩ (.string x)).setCell ⟨g, 1, none⟩ (.bool y)).drew g x y ∧
        Below w0.heap.size w0 ((w5.setCell ⟨g, 0, none⟩ (.string x)).setCell ⟨g, 1, none⟩ (.bool y)).drew ∧
        KeepBut w ((w5.setCell ⟨g, 0, none⟩ (.string x)).setCell ⟨g, 1, none⟩ (.bool y)).drew g none := fun x y =>
      ⟨((hI5.set_0 x).set_1 y).drew, below_drew ((hB5.setCell hg5 _).setCell hg5 _), (hk5.set_ 0 _).set_ 1 _⟩
    have Fin := Aside0.mk fin
    clear fin hI5 hk5 hB5 hg5 hb5
    cases s0_1 with
    | true =>
      go_region
      all_goals go_end0
      all_goals exact ⟨rfl, Fin.out _ _⟩
    | false =>
      go_region
      all_goals go_end0
      all_goals (simp only [Bool.false_or]; exact ⟨trivial, Fin.out _ _⟩)
  · rw [if_neg hs] at h
    exact absurd h (by simp)


-- NOT PRINTED: function 52 (api_Note_52)

/-! ### flat_writer_text: function 56 -/

def flat_writer_text.f (k : Nat) (s0_0 : ByteArray) (s0_1 : Bool) (a1 : ByteArray) : Option (ByteArray × Bool) :=
  (pack_Text.f k a1).bind fun b => if s0_0.size + b.1.size ≤ 9223372036854775807 then some (s0_0 ++ b.1, s0_1 || (b.2 != 0)) else none
theorem flat_writer_text.mono : ∀ a0 a1 a2 k, LeO (flat_writer_text.f k a0 a1 a2) (flat_writer_text.f (k + 1) a0 a1 a2) := by
  intro a0 a1 a2 k
  unfold flat_writer_text.f
  exact LeO.bind (pack_Text.mono _ _) fun _ => LeO.refl _
set_option maxHeartbeats 8000000 in
set_option maxRecDepth 100000 in
theorem flat_writer_text.calls (k : Nat) (g : Nat) (s0_0 : ByteArray) (s0_1 : Bool) (a1 : ByteArray) (r1 : ByteArray) (r2 : Bool) (w0 w : World) (hI : IsS120 w0 w g s0_0 s0_1) (hB : Below w0.heap.size w0 w) (h : flat_writer_text.f k s0_0 s0_1 a1 = some (r1, r2)) :
    Calls Try.prog 56 #[.pointer (some ⟨g, 0, none⟩), .string a1] w fun e w' => e = .returned (.tuple #[]) ∧ IsS120 w0 w' g r1 r2 ∧ Below w0.heap.size w0 w' ∧ KeepBut w w' g none := by
  unfold flat_writer_text.f at h
  obtain ⟨⟨t1, t2⟩, A, h⟩ := Option.bind_eq_some_iff.mp h
  simp only at h
  by_cases hs : s0_0.size + t1.size ≤ 9223372036854775807
  · rw [if_pos hs] at h
    simp only [Option.some.injEq, Prod.mk.injEq] at h
    obtain ⟨rfl, rfl⟩ := h
    have HA := Aside0.mk A
    clear A
    go_enter Try.func56, Try.ntmps56
    go_wp2_with (go_at_call 97; (with_reducible refine (pack_Text.calls k a1 t1 t2 _ HA.out).mono ?_); rintro e w5 ⟨rfl, hb⟩)
    have hI5 := hI.below hb
    have hb5 : w5.heap[g]? = some (.cells #[.string s0_0, .bool s0_1] 120 (0, 0)) := hI5.1
    have c0 : w5.cell? ⟨g, 0, none⟩ = some (.string s0_0) := (blk_cell hb5 0).trans rfl
    have c1 : w5.cell? ⟨g, 1, none⟩ = some (.bool s0_1) := (blk_cell hb5 1).trans rfl
    have f0 : w5.frozen? ⟨g, 0, none⟩ = false := blk_frozen hb5 0
    have f1 : w5.frozen? ⟨g, 1, none⟩ = false := blk_frozen hb5 1
    have hB5 : Below w0.heap.size w0 w5 := below_then hB hB.size hb
    have hk5 : KeepBut w w5 g none := KeepBut.of_below hb g none
    have hg5 := hI5.ge
    clear hI hB hb h
    have fin : ∀ (x : ByteArray) (y : Bool), IsS120 w0 ((w5.setCell ⟨g, 0, none⟩ (.string x)).setCell ⟨g, 1, none⟩ (.bool y)).drew g x y ∧
        Below w0.heap.size w0 ((w5.setCell ⟨g, 0, none⟩ (.string x)).setCell ⟨g, 1, none⟩ (.bool y)).drew ∧
        KeepBut w ((w5.setCell ⟨g, 0, none⟩ (.string x)).setCell ⟨g, 1, none⟩ (.bool y)).drew g none := fun x y =>
      ⟨((hI5.set_0 x).set_1 y).drew, below_drew ((hB5.setCell hg5 _).setCell hg5 _), (hk5.set_ 0 _).set_ 1 _⟩
    have Fin := Aside0.mk fin
    clear fin hI5 hk5 hB5 hg5 hb5
    cases s0_1 with
    | true =>
      go_region
      all_goals go_end0
      all_goals exact ⟨rfl, Fin.out _ _⟩
    | false =>
      go_region
      all_goals go_end0
      all_goals (simp only [Bool.false_or]; exact ⟨trivial, Fin.out _ _⟩)
  · rw [if_neg hs] at h
    exact absurd h (by simp)


/-! ### flat_Notes_1: function 54 -/
def flat_Notes_1.f (k : Nat) (s0_0 : ByteArray) (s0_1 : Bool) (a1_0 : Int) (a1_1 : ByteArray) (a1_2 : ByteArray) (a1_3 : Int) : Option (ByteArray × Bool) := (flat_writer_num.f k s0_0 s0_1 (IntKind.u64.wrap (a1_0)) 1).bind fun bt129 => ((flat_writer_text.f k bt129.1 bt129.2 a1_1).bind fun bt131 => ((flat_writer_text.f k bt131.1 bt131.2 a1_2).bind fun bt133 => ((flat_writer_num.f k bt133.1 bt133.2 a1_3 8).bind fun bt135 => (some (bt135.1, bt135.2)))))
theorem flat_Notes_1.mono : ∀ a0 a1 a2 a3 a4 a5 k, LeO (flat_Notes_1.f k a0 a1 a2 a3 a4 a5) (flat_Notes_1.f (k + 1) a0 a1 a2 a3 a4 a5) := by
  intro a0 a1 a2 a3 a4 a5 k
  unfold flat_Notes_1.f
  repeat' first
      | (with_reducible exact flat_writer_num.mono _ _ _ _ _)
      | (with_reducible exact flat_writer_text.mono _ _ _ _)
      | (with_reducible exact LeO.refl _)
      | (with_reducible exact LeO.none _)
      | (with_reducible refine LeO.ite ?_ ?_)
      | (with_reducible refine LeO.bind ?_ (fun _ => ?_))
      | exact flat_writer_num.mono _ _ _ _ _
      | exact flat_writer_text.mono _ _ _ _
      | exact LeO.none _
      | refine LeO.ite ?_ ?_
      | refine LeO.bind ?_ (fun _ => ?_)
set_option maxHeartbeats 8000000 in
set_option maxRecDepth 100000 in
theorem flat_Notes_1.calls (k : Nat) (g : Nat) (s0_0 : ByteArray) (s0_1 : Bool) (a1_0 : Int) (a1_1 : ByteArray) (a1_2 : ByteArray) (a1_3 : Int) (r1 : ByteArray) (r2 : Bool) (w0 w : World) (hI : IsS120 w0 w g s0_0 s0_1) (hB : Below w0.heap.size w0 w) (h : flat_Notes_1.f k s0_0 s0_1 a1_0 a1_1 a1_2 a1_3 = some (r1, r2)) :
    Calls Try.prog 54 #[.pointer (some ⟨g, 0, none⟩), .agg #[.int .i64 a1_0, .string a1_1, .string a1_2, .int .u64 a1_3]] w fun e w' => e = .returned (.tuple #[]) ∧ IsS120 w0 w' g r1 r2 ∧ Below w0.heap.size w0 w' ∧ KeepBut w w' g none := by
  have hu48 := Try.underlying48
  have HI0 := Aside0.mk hI
  have HK := Aside0.mk (KeepBut.refl w g none)
  have HL := Aside0.mk hB.size
  clear hI
  have HW0 := Aside0.mk hB.size
  have HB := Aside0.mk hB
  clear hB
  have H : ((flat_writer_num.f k s0_0 s0_1 (IntKind.u64.wrap (a1_0)) 1).bind fun bt129 => ((flat_writer_text.f k bt129.1 bt129.2 a1_1).bind fun bt131 => ((flat_writer_text.f k bt131.1 bt131.2 a1_2).bind fun bt133 => ((flat_writer_num.f k bt133.1 bt133.2 a1_3 8).bind fun bt135 => (some (bt135.1, bt135.2)))))) = some (r1, r2) := h
  clear h
  replace H := Option.bind_eq_some_iff.mp H
  obtain ⟨⟨t129, t130⟩, A30, H⟩ := H
  replace H : ((flat_writer_text.f k t129 t130 a1_1).bind fun bt131 => ((flat_writer_text.f k bt131.1 bt131.2 a1_2).bind fun bt133 => ((flat_writer_num.f k bt133.1 bt133.2 a1_3 8).bind fun bt135 => (some (bt135.1, bt135.2))))) = some (r1, r2) := H
  have A3 := Aside0.mk A30
  clear A30
  replace H := Option.bind_eq_some_iff.mp H
  obtain ⟨⟨t131, t132⟩, A40, H⟩ := H
  replace H : ((flat_writer_text.f k t131 t132 a1_2).bind fun bt133 => ((flat_writer_num.f k bt133.1 bt133.2 a1_3 8).bind fun bt135 => (some (bt135.1, bt135.2)))) = some (r1, r2) := H
  have A4 := Aside0.mk A40
  clear A40
  replace H := Option.bind_eq_some_iff.mp H
  obtain ⟨⟨t133, t134⟩, A50, H⟩ := H
  replace H : ((flat_writer_num.f k t133 t134 a1_3 8).bind fun bt135 => (some (bt135.1, bt135.2))) = some (r1, r2) := H
  have A5 := Aside0.mk A50
  clear A50
  replace H := Option.bind_eq_some_iff.mp H
  obtain ⟨⟨t135, t136⟩, A60, H⟩ := H
  replace H : (some (t135, t136)) = some (r1, r2) := H
  have A6 := Aside0.mk A60
  clear A60
  simp only [Option.some.injEq, Prod.mk.injEq] at H
  obtain ⟨rfl, rfl⟩ := H
  go_enter Try.func54, Try.ntmps54
  go_wp2_with (first | ((with_reducible refine gate_dst (N := 3) rfl ?_); refine box_event ?hg (N := 3) ?hd (cs := #[.int .i64 a1_0, .string a1_1, .string a1_2, .int .u64 a1_3]) (t := 48) ?hr ?_; (case hd => rfl); (case hg => rfl); (case hr => first | (go_simp; done) | (go_simp; rfl)); intro gb128 hg w7 hbox hb; have n0_ := Aside0.mk (IsS120.below (by repeat (first | (with_reducible first | exact HI0.out | apply IsS120.alloc | apply IsS120.drewN | apply IsS120.drew | apply IsS120.set_0 | apply IsS120.set_1) | exact HI0.out)) hb); have n1_ := Aside0.mk (KeepBut.trans (by repeat (first | (with_reducible first | exact HK.out | apply KeepBut.set_ | apply keep_drewN | apply keep_drew | apply keep_alloc) | exact HK.out)) (KeepBut.of_below hb g none) (.inl rfl)); have n2_ := Aside0.mk (below_step (by repeat (first | (with_reducible first | exact HB.out | apply below_alloc | apply pw_below_drewN | apply below_drew1 | refine below_set ?_ (IsS120.ge HI0.out)) | exact HB.out)) hb); have n3_ := Aside0.mk (hbox); have n4_ := Aside0.mk ((by rw [hg]; exact (keep_size (w := w) (g := g) (row := none) (by repeat (first | (with_reducible first | exact HK.out | apply KeepBut.set_ | apply keep_drewN | apply keep_drew | apply keep_alloc) | exact HK.out))) : w.heap.size ≤ gb128)); have n5_ := Aside0.mk ((Nat.le_trans HW0.out (by rw [hg]; exact (keep_size (w := w) (g := g) (row := none) (by repeat (first | (with_reducible first | exact HK.out | apply KeepBut.set_ | apply keep_drewN | apply keep_drew | apply keep_alloc) | exact HK.out))) : w.heap.size ≤ gb128) : w0.heap.size ≤ gb128)); have n6_ := Aside0.mk ((by rw [hg]; exact Nat.ne_of_lt (IsS120.lt (show IsS120 w0 _ g s0_0 s0_1 from by repeat (first | (with_reducible first | exact HI0.out | apply IsS120.alloc | apply IsS120.drewN | apply IsS120.drew | apply IsS120.set_0 | apply IsS120.set_1) | exact HI0.out))) : g ≠ gb128)); have n7_ := Aside0.mk ((by rw [hg]; exact Nat.ne_of_gt (IsS120.lt (show IsS120 w0 _ g s0_0 s0_1 from by repeat (first | (with_reducible first | exact HI0.out | apply IsS120.alloc | apply IsS120.drewN | apply IsS120.drew | apply IsS120.set_0 | apply IsS120.set_1) | exact HI0.out))) : gb128 ≠ g)); clear HI0; clear HK; clear HB; have HI0 := n0_; have HK := n1_; have HB := n2_; have BK128 := n3_; have GW128 := n4_; have GE128 := n5_; have NB0_128 := n6_; have NB128_0 := n7_; clear n0_ n1_ n2_ n3_ n4_ n5_ n6_ n7_; clear hb hbox hg; have hnb8 := NB128_0.out; have hnc8 := NB0_128.out; have hcz9_0 : w7.cell? ⟨gb128, 0, none⟩ = some (.int .i64 a1_0) := (blk_cell BK128.out 0).trans rfl; have hcz9_1 : w7.cell? ⟨gb128, 1, none⟩ = some (.string a1_1) := (blk_cell BK128.out 1).trans rfl; have hcz9_2 : w7.cell? ⟨gb128, 2, none⟩ = some (.string a1_2) := (blk_cell BK128.out 2).trans rfl; have hcz9_3 : w7.cell? ⟨gb128, 3, none⟩ = some (.int .u64 a1_3) := (blk_cell BK128.out 3).trans rfl; have hfz9_0 := blk_frozen BK128.out 0; have hfz9_1 := blk_frozen BK128.out 1; have hfz9_2 := blk_frozen BK128.out 2; have hfz9_3 := blk_frozen BK128.out 3) | ((with_reducible refine gate_callee (f := 55) rfl ?_); refine goesL_ (some 8) rfl rfl Try.func55 (by kernel_rfl) rfl #[.pointer (some ⟨g, 0, none⟩), .int .u64 (IntKind.u64.wrap (a1_0)), .int .i64 1] rfl (by (try simp only [List.map_toArray, List.map_cons, List.map_nil]); first | done | rfl | (simp only [List.length_drop, List.length_take]; rfl)) ?_; (with_reducible refine (flat_writer_num.calls k g s0_0 s0_1 (IntKind.u64.wrap (a1_0)) 1 t129 t130 w0 _ ?side1 ?side2 A3.out).mono ?_); (case side1 => repeat (first | (with_reducible first | exact HI0.out | apply IsS120.alloc | apply IsS120.drewN | apply IsS120.drew | apply IsS120.set_0 | apply IsS120.set_1 | refine IsS120.far ?_ NB0_128.out _) | exact HI0.out)); (case side2 => repeat (first | (with_reducible first | exact HB.out | apply below_alloc | apply pw_below_drewN | apply below_drew1 | refine below_set ?_ (IsS120.ge HI0.out) | refine below_set ?_ GE128.out) | exact HB.out)); rintro e w10 ⟨rfl, hi, hb, hk⟩; refine ⟨_, rfl, ?_⟩; have n0_ := Aside0.mk (KeepBut.blk hk (g' := gb128) (o := .cells #[.int .i64 a1_0, .string a1_1, .string a1_2, .int .u64 a1_3] 48 (0, 0)) (by (with_reducible repeat (first | refine blk_drewN ?_ _ | refine blk_drew ?_ | refine blk_alloc ?_ _)); exact BK128.out) NB128_0.out (by simp)); have n1_ := Aside0.mk (KeepBut.trans (by repeat (first | (with_reducible first | exact HK.out | apply KeepBut.set_ | apply keep_drewN | apply keep_drew | apply keep_alloc | refine keep_far ?_ GW128.out _) | exact HK.out)) hk (.inl rfl)); have n2_ := Aside0.mk (hb); have n3_ := Aside0.mk (hi); clear BK128; clear HK; clear HB; clear HI0; have BK128 := n0_; have HK := n1_; have HB := n2_; have HI0 := n3_; clear n0_ n1_ n2_ n3_; (try clear hb); (try clear hb2); (try clear hk); (try clear hi); have hcz11_0 : w10.cell? ⟨gb128, 0, none⟩ = some (.int .i64 a1_0) := (blk_cell BK128.out 0).trans rfl; have hcz11_1 : w10.cell? ⟨gb128, 1, none⟩ = some (.string a1_1) := (blk_cell BK128.out 1).trans rfl; have hcz11_2 : w10.cell? ⟨gb128, 2, none⟩ = some (.string a1_2) := (blk_cell BK128.out 2).trans rfl; have hcz11_3 : w10.cell? ⟨gb128, 3, none⟩ = some (.int .u64 a1_3) := (blk_cell BK128.out 3).trans rfl; have hfz11_0 := blk_frozen BK128.out 0; have hfz11_1 := blk_frozen BK128.out 1; have hfz11_2 := blk_frozen BK128.out 2; have hfz11_3 := blk_frozen BK128.out 3) | ((with_reducible refine gate_callee (f := 56) rfl ?_); refine goesL_ (some 12) rfl rfl Try.func56 (by kernel_rfl) rfl #[.pointer (some ⟨g, 0, none⟩), .string a1_1] rfl (by (try simp only [List.map_toArray, List.map_cons, List.map_nil]); first | done | rfl | (simp only [List.length_drop, List.length_take]; rfl)) ?_; (with_reducible refine (flat_writer_text.calls k g t129 t130 a1_1 t131 t132 w0 _ ?side1 ?side2 A4.out).mono ?_); (case side1 => repeat (first | (with_reducible first | exact HI0.out | apply IsS120.alloc | apply IsS120.drewN | apply IsS120.drew | apply IsS120.set_0 | apply IsS120.set_1 | refine IsS120.far ?_ NB0_128.out _) | exact HI0.out)); (case side2 => repeat (first | (with_reducible first | exact HB.out | apply below_alloc | apply pw_below_drewN | apply below_drew1 | refine below_set ?_ (IsS120.ge HI0.out) | refine below_set ?_ GE128.out) | exact HB.out)); rintro e w12 ⟨rfl, hi, hb, hk⟩; refine ⟨_, rfl, ?_⟩; have n0_ := Aside0.mk (KeepBut.blk hk (g' := gb128) (o := .cells #[.int .i64 a1_0, .string a1_1, .string a1_2, .int .u64 a1_3] 48 (0, 0)) (by (with_reducible repeat (first | refine blk_drewN ?_ _ | refine blk_drew ?_ | refine blk_alloc ?_ _)); exact BK128.out) NB128_0.out (by simp)); have n1_ := Aside0.mk (KeepBut.trans (by repeat (first | (with_reducible first | exact HK.out | apply KeepBut.set_ | apply keep_drewN | apply keep_drew | apply keep_alloc | refine keep_far ?_ GW128.out _) | exact HK.out)) hk (.inl rfl)); have n2_ := Aside0.mk (hb); have n3_ := Aside0.mk (hi); clear BK128; clear HK; clear HB; clear HI0; have BK128 := n0_; have HK := n1_; have HB := n2_; have HI0 := n3_; clear n0_ n1_ n2_ n3_; (try clear hb); (try clear hb2); (try clear hk); (try clear hi); have hcz13_0 : w12.cell? ⟨gb128, 0, none⟩ = some (.int .i64 a1_0) := (blk_cell BK128.out 0).trans rfl; have hcz13_1 : w12.cell? ⟨gb128, 1, none⟩ = some (.string a1_1) := (blk_cell BK128.out 1).trans rfl; have hcz13_2 : w12.cell? ⟨gb128, 2, none⟩ = some (.string a1_2) := (blk_cell BK128.out 2).trans rfl; have hcz13_3 : w12.cell? ⟨gb128, 3, none⟩ = some (.int .u64 a1_3) := (blk_cell BK128.out 3).trans rfl; have hfz13_0 := blk_frozen BK128.out 0; have hfz13_1 := blk_frozen BK128.out 1; have hfz13_2 := blk_frozen BK128.out 2; have hfz13_3 := blk_frozen BK128.out 3) | ((with_reducible refine gate_callee (f := 56) rfl ?_); refine goesL_ (some 16) rfl rfl Try.func56 (by kernel_rfl) rfl #[.pointer (some ⟨g, 0, none⟩), .string a1_2] rfl (by (try simp only [List.map_toArray, List.map_cons, List.map_nil]); first | done | rfl | (simp only [List.length_drop, List.length_take]; rfl)) ?_; (with_reducible refine (flat_writer_text.calls k g t131 t132 a1_2 t133 t134 w0 _ ?side1 ?side2 A5.out).mono ?_); (case side1 => repeat (first | (with_reducible first | exact HI0.out | apply IsS120.alloc | apply IsS120.drewN | apply IsS120.drew | apply IsS120.set_0 | apply IsS120.set_1 | refine IsS120.far ?_ NB0_128.out _) | exact HI0.out)); (case side2 => repeat (first | (with_reducible first | exact HB.out | apply below_alloc | apply pw_below_drewN | apply below_drew1 | refine below_set ?_ (IsS120.ge HI0.out) | refine below_set ?_ GE128.out) | exact HB.out)); rintro e w14 ⟨rfl, hi, hb, hk⟩; refine ⟨_, rfl, ?_⟩; have n0_ := Aside0.mk (KeepBut.blk hk (g' := gb128) (o := .cells #[.int .i64 a1_0, .string a1_1, .string a1_2, .int .u64 a1_3] 48 (0, 0)) (by (with_reducible repeat (first | refine blk_drewN ?_ _ | refine blk_drew ?_ | refine blk_alloc ?_ _)); exact BK128.out) NB128_0.out (by simp)); have n1_ := Aside0.mk (KeepBut.trans (by repeat (first | (with_reducible first | exact HK.out | apply KeepBut.set_ | apply keep_drewN | apply keep_drew | apply keep_alloc | refine keep_far ?_ GW128.out _) | exact HK.out)) hk (.inl rfl)); have n2_ := Aside0.mk (hb); have n3_ := Aside0.mk (hi); clear BK128; clear HK; clear HB; clear HI0; have BK128 := n0_; have HK := n1_; have HB := n2_; have HI0 := n3_; clear n0_ n1_ n2_ n3_; (try clear hb); (try clear hb2); (try clear hk); (try clear hi); have hcz15_0 : w14.cell? ⟨gb128, 0, none⟩ = some (.int .i64 a1_0) := (blk_cell BK128.out 0).trans rfl; have hcz15_1 : w14.cell? ⟨gb128, 1, none⟩ = some (.string a1_1) := (blk_cell BK128.out 1).trans rfl; have hcz15_2 : w14.cell? ⟨gb128, 2, none⟩ = some (.string a1_2) := (blk_cell BK128.out 2).trans rfl; have hcz15_3 : w14.cell? ⟨gb128, 3, none⟩ = some (.int .u64 a1_3) := (blk_cell BK128.out 3).trans rfl; have hfz15_0 := blk_frozen BK128.out 0; have hfz15_1 := blk_frozen BK128.out 1; have hfz15_2 := blk_frozen BK128.out 2; have hfz15_3 := blk_frozen BK128.out 3) | ((with_reducible refine gate_callee (f := 55) rfl ?_); refine goesL_ (some 20) rfl rfl Try.func55 (by kernel_rfl) rfl #[.pointer (some ⟨g, 0, none⟩), .int .u64 a1_3, .int .i64 8] rfl (by (try simp only [List.map_toArray, List.map_cons, List.map_nil]); first | done | rfl | (simp only [List.length_drop, List.length_take]; rfl)) ?_; (with_reducible refine (flat_writer_num.calls k g t133 t134 a1_3 8 t135 t136 w0 _ ?side1 ?side2 A6.out).mono ?_); (case side1 => repeat (first | (with_reducible first | exact HI0.out | apply IsS120.alloc | apply IsS120.drewN | apply IsS120.drew | apply IsS120.set_0 | apply IsS120.set_1 | refine IsS120.far ?_ NB0_128.out _) | exact HI0.out)); (case side2 => repeat (first | (with_reducible first | exact HB.out | apply below_alloc | apply pw_below_drewN | apply below_drew1 | refine below_set ?_ (IsS120.ge HI0.out) | refine below_set ?_ GE128.out) | exact HB.out)); rintro e w16 ⟨rfl, hi, hb, hk⟩; refine ⟨_, rfl, ?_⟩; have n0_ := Aside0.mk (KeepBut.blk hk (g' := gb128) (o := .cells #[.int .i64 a1_0, .string a1_1, .string a1_2, .int .u64 a1_3] 48 (0, 0)) (by (with_reducible repeat (first | refine blk_drewN ?_ _ | refine blk_drew ?_ | refine blk_alloc ?_ _)); exact BK128.out) NB128_0.out (by simp)); have n1_ := Aside0.mk (KeepBut.trans (by repeat (first | (with_reducible first | exact HK.out | apply KeepBut.set_ | apply keep_drewN | apply keep_drew | apply keep_alloc | refine keep_far ?_ GW128.out _) | exact HK.out)) hk (.inl rfl)); have n2_ := Aside0.mk (hb); have n3_ := Aside0.mk (hi); clear BK128; clear HK; clear HB; clear HI0; have BK128 := n0_; have HK := n1_; have HB := n2_; have HI0 := n3_; clear n0_ n1_ n2_ n3_; (try clear hb); (try clear hb2); (try clear hk); (try clear hi)))
  first | go_end0 | ((try simp only [Exit.inBlock, Exit.then]); refine bodyPost_ret (results_none rfl _ _ _) rfl ?_)
  exact ⟨by first | rfl | (simp [errW_none, errW_some] <;> rfl) | (simp [*, errW_none, errW_some] <;> rfl), by repeat (first | (with_reducible first | exact HI0.out | apply IsS120.alloc | apply IsS120.drewN | apply IsS120.drew | apply IsS120.set_0 | apply IsS120.set_1 | refine IsS120.far ?_ NB0_128.out _) | exact HI0.out), by repeat (first | (with_reducible first | exact HB.out | apply below_alloc | apply pw_below_drewN | apply below_drew1 | refine below_set ?_ (IsS120.ge HI0.out) | refine below_set ?_ GE128.out) | exact HB.out), by repeat (first | (with_reducible first | exact HK.out | apply KeepBut.set_ | apply keep_drewN | apply keep_drew | apply keep_alloc | refine keep_far ?_ GW128.out _) | exact HK.out)⟩

/-! ### flat_Notes: function 16 -/


def flat_Notes.l0 : Nat → List S48 → ByteArray → Bool → Int → Option (ByteArray × Int)
  | 0, _, _, _, _ => none
  | k + 1, l, s, bad, i => if i < (l.length : Int) then (if 0 ≤ i then ((note_Right.f k (rd_T48 l i).f0 (rd_T48 l i).f1 (rd_T48 l i).f2 (rd_T48 l i).f3).bind fun m => (if m = true then ((flat_Notes_1.f k s bad (rd_T48 l i).f0 (rd_T48 l i).f1 (rd_T48 l i).f2 (rd_T48 l i).f3).bind fun p => (flat_Notes.l0 k l p.1 p.2 (wrap64 (i + 1)))) else (some ((⟨#[]⟩ : ByteArray), 1)))) else (none)) else (if bad = true then (some ((⟨#[]⟩ : ByteArray), 1)) else (some (s, 0)))
def flat_Notes.f (k : Nat) (l0 : List S48) : Option (ByteArray × Int) := if (l0.length : Int) > 65535 then (some ((⟨#[]⟩ : ByteArray), 1)) else ((flat_writer_num.f k (⟨#[]⟩ : ByteArray) false (IntKind.u64.wrap (l0.length : Int)) 2).bind fun p => flat_Notes.l0 k l0 p.1 p.2 0)
theorem flat_Notes.mono_l : ∀ k, (∀ y0 y1 y2 y3, LeO (flat_Notes.l0 k y0 y1 y2 y3) (flat_Notes.l0 (k + 1) y0 y1 y2 y3))
  | 0 => fun _ _ _ _ r h => by simp [flat_Notes.l0] at h
  | k + 1 => by
    have ih := flat_Notes.mono_l k
    intro y0 y1 y2 y3
    unfold flat_Notes.l0
    refine LeO.ite (LeO.ite (LeO.bind (note_Right.mono _ _ _ _ _) fun _ => LeO.ite (LeO.bind (flat_Notes_1.mono _ _ _ _ _ _ _) fun _ => ih _ _ _ _) (LeO.refl _)) (LeO.none _)) (LeO.refl _)
theorem flat_Notes.mono : ∀ a0 k, LeO (flat_Notes.f k a0) (flat_Notes.f (k + 1) a0) := by
  intro a0 k
  unfold flat_Notes.f
  exact LeO.ite (LeO.refl _) (LeO.bind (flat_writer_num.mono _ _ _ _ _) fun _ => flat_Notes.mono_l k _ _ _ _)
set_option maxHeartbeats 8000000 in
set_option maxRecDepth 100000 in
theorem flat_Notes.list (k : Nat) (A0 : Option Addr) (c0 : Nat) (l0 : List S48) (r1 : ByteArray) (r2 : Int) (w : World) (hr0 : Kd.C k48 w A0 l0.length l0) (hc0 : l0.length ≤ c0) (h : flat_Notes.f k l0 = some (r1, r2)) :
    Calls Try.prog 52 #[.slice A0 l0.length c0, .func (.func 53) #[] #[], .func (.func 54) #[] #[]] w fun e w' => e = .returned (.tuple #[.string r1, .int .i64 r2]) ∧ Below w.heap.size w w' := by
  have hu48 := Try.underlying48
  have HR0 := Aside0.mk hr0
  have HC0 := Aside0.mk hc0
  clear hr0 hc0
  unfold flat_Notes.f at h
  by_cases c1 : (l0.length : Int) > 65535
  · rw [if_pos c1] at h
    have c1b0 : decide (65535 < (l0.length : Int)) = true := decide_eq_true c1
    have c1b1 : decide (65535 < l0.length) = true := decide_eq_true (by omega)
    clear c1
    simp only [Option.some.injEq, Prod.mk.injEq] at h
    obtain ⟨rfl, rfl⟩ := h
    go_enter Try.func52, Try.ntmps52
    go_wp2
    go_ret2
    exact ⟨rfl, below_alloc (Below.refl _ _) _⟩
  · rw [if_neg c1] at h
    have c1b0 : decide (65535 < (l0.length : Int)) = false := decide_eq_false c1
    have c1b1 : decide (65535 < l0.length) = false := decide_eq_false (by omega)
    clear c1
    obtain ⟨⟨p1, p2⟩, A, h⟩ := Option.bind_eq_some_iff.mp h
    have HA := Aside0.mk A
    have H0 := Aside0.mk h
    clear A h
    go_enter Try.func52, Try.ntmps52
    go_wp2_with (go_at_call 55; (with_reducible refine (flat_writer_num.calls k w.heap.size (⟨#[]⟩ : ByteArray) false (IntKind.u64.wrap (l0.length : Int)) 2 p1 p2 w _ (IsS120.new w w (⟨#[]⟩ : ByteArray) false (Below.refl _ _)) (below_alloc (Below.refl _ _) _) HA.out).mono ?_); rintro e w1 ⟨rfl, hI, hB, hK⟩; have HI := Aside0.mk hI; have HB := Aside0.mk hB; clear hI hB hK)
    go_loopg [23] k (fun kq v23 w' => ∃ (i : Int) (s : ByteArray) (bad : Bool), v23 = .int .i64 i ∧ Aside0 (flat_Notes.l0 kq l0 s bad i = some (r1, r2)) ∧ Aside0 (kq ≤ k) ∧ Aside0 (IsS120 w w' w.heap.size s bad) ∧ Aside0 (Below w.heap.size w w'))
    case atStart => exact ⟨0, p1, p2, (by first | rfl | (simp; done)), H0, ⟨Nat.le_refl _⟩, HI, HB⟩
    case round =>
      clear H0 HI HB HA
      obtain ⟨i, s, bad, rfl, HA, HK1, HI, HB⟩ := hrel
      cases gk with
      | zero => exact absurd HA.out (by simp [flat_Notes.l0])
      | succ k1 =>
        have H := HA.out
        clear HA
        simp only [flat_Notes.l0] at H
        by_cases c2 : i < (l0.length : Int)
        · rw [if_pos c2] at H
          have c2b0 : decide (i < (l0.length : Int)) = true := decide_eq_true c2
          by_cases c3 : 0 ≤ i
          · rw [if_pos c3] at H
            have c3b0 : decide (0 ≤ i) = true := decide_eq_true c3
            obtain ⟨m, A1, H⟩ := Option.bind_eq_some_iff.mp H
            have HA1 := Aside0.mk A1
            clear A1
            obtain ⟨ad, ead, hx0, hx1, hx2, hx3⟩ := at_T48 HR0.out i c3 c2
            cases ead
            replace hx0 := (HB.out.cell (World.block_lt_of_cell? w _ hx0)).trans hx0; replace hx1 := (HB.out.cell (World.block_lt_of_cell? w _ hx1)).trans hx1; replace hx2 := (HB.out.cell (World.block_lt_of_cell? w _ hx2)).trans hx2; replace hx3 := (HB.out.cell (World.block_lt_of_cell? w _ hx3)).trans hx3
            replace c3 := eq_true c3
            replace c2 := eq_true c2
            cases m with
            | false =>
              rw [if_neg (by decide)] at H
              simp only [Option.some.injEq, Prod.mk.injEq] at H
              obtain ⟨rfl, rfl⟩ := H
              go_wp2_with (go_at_call 53; (with_reducible refine (note_Right.calls k1 (rd_T48 l0 i).f0 (rd_T48 l0 i).f1 (rd_T48 l0 i).f2 (rd_T48 l0 i).f3 false _ HA1.out).mono ?_); rintro e w5 ⟨rfl, hb⟩; have HB5 := Aside0.mk (below_step (below_alloc HB.out _) hb); clear hb)
              go_ret2
              exact ⟨rfl, HB5.out⟩
            | true =>
              rw [if_pos rfl] at H
              obtain ⟨⟨q1, q2⟩, A2, H⟩ := Option.bind_eq_some_iff.mp H
              have HA2 := Aside0.mk A2
              have H' := Aside0.mk H
              clear A2 H
              go_wp2_with (first
                | (go_at_call 53; (with_reducible refine (note_Right.calls k1 (rd_T48 l0 i).f0 (rd_T48 l0 i).f1 (rd_T48 l0 i).f2 (rd_T48 l0 i).f3 true _ HA1.out).mono ?_); rintro e w5 ⟨rfl, hb⟩; have BK : w5.heap[wr.heap.size]? = some (.cells #[.int .i64 (rd_T48 l0 i).f0, .string (rd_T48 l0 i).f1, .string (rd_T48 l0 i).f2, .int .u64 (rd_T48 l0 i).f3] 48 (0, 0)) := (hb.block wr.heap.size (by simp)).trans (heap_alloc_new wr _); have hy0 := (blk_cell BK 0).trans rfl; have hz0 := blk_frozen BK 0; have hy1 := (blk_cell BK 1).trans rfl; have hz1 := blk_frozen BK 1; have hy2 := (blk_cell BK 2).trans rfl; have hz2 := blk_frozen BK 2; have hy3 := (blk_cell BK 3).trans rfl; have hz3 := blk_frozen BK 3; have HI5 := Aside0.mk ((HI.out.alloc _).below hb); have HB5 := Aside0.mk (below_step (below_alloc HB.out _) hb); clear hb BK)
                | (go_at_call 54; (with_reducible refine (flat_Notes_1.calls k1 w.heap.size s bad (rd_T48 l0 i).f0 (rd_T48 l0 i).f1 (rd_T48 l0 i).f2 (rd_T48 l0 i).f3 q1 q2 w _ HI5.out HB5.out HA2.out).mono ?_); rintro e w6 ⟨rfl, hI, hB, hK⟩; have HI6 := Aside0.mk hI; have HB6 := Aside0.mk hB; clear hI hB hK))
              go_roundg k1
              case measure => have := HK1.out; omega
              case rel => exact ⟨(wrap64 (i + 1)), q1, q2, (by first | rfl | (simp; done) | (simp [*]; done)), H', ⟨by have := HK1.out; omega⟩, HI6, HB6⟩
          · rw [if_neg c3] at H
            exact absurd H (by simp)
        · rw [if_neg c2] at H
          have c2b0 : decide (i < (l0.length : Int)) = false := decide_eq_false c2
          clear c2
          have BK : wr.heap[w.heap.size]? = some (.cells #[.string s, .bool bad] 120 (0, 0)) := HI.out.1
          have hy0 : wr.cell? ⟨w.heap.size, 0, none⟩ = some (.string s) := (blk_cell BK 0).trans rfl
          have hy1 : wr.cell? ⟨w.heap.size, 1, none⟩ = some (.bool bad) := (blk_cell BK 1).trans rfl
          clear BK
          cases bad with
          | true =>
            rw [if_pos rfl] at H
            simp only [Option.some.injEq, Prod.mk.injEq] at H
            obtain ⟨rfl, rfl⟩ := H
            go_wp2
            go_ret2
            exact ⟨rfl, HB.out⟩
          | false =>
            rw [if_neg (by decide)] at H
            simp only [Option.some.injEq, Prod.mk.injEq] at H
            obtain ⟨rfl, rfl⟩ := H
            go_wp2
            go_ret2
            exact ⟨rfl, HB.out⟩
set_option maxHeartbeats 8000000 in
theorem flat_Notes.calls (k : Nat) (A0 : Option Addr) (c0 : Nat) (l0 : List S48) (r1 : ByteArray) (r2 : Int) (w : World) (hr0 : Kd.C k48 w A0 l0.length l0) (hc0 : l0.length ≤ c0) (h : flat_Notes.f k l0 = some (r1, r2)) :
    Calls Try.prog 16 #[.slice A0 l0.length c0] w fun e w' => e = .returned (.tuple #[.string r1, .int .i64 r2]) ∧ Below w.heap.size w w' := by
  have HL := Aside0.mk (flat_Notes.list k A0 c0 l0 r1 r2 w hr0 hc0 h)
  clear hr0 hc0 h
  go_enter Try.func16, Try.ntmps16
  go_wp2_with (go_at_call 52; (with_reducible refine HL.out.mono ?_); rintro e w5 ⟨rfl, hb⟩)
  go_ret2
  exact ⟨rfl, hb⟩


-- NOT PRINTED: function 57 (api_Pair_57)

/-! ### flat_pair: function 58 -/
def flat_pair.f (k : Nat) (a0_0 : ByteArray) (a0_1 : ByteArray) : Option (Bool) := (leaf_Right.f k (([(⟨a0_0, a0_1⟩ : S50)] : List (S50)))).bind fun t144 => (some t144)
theorem flat_pair.mono : ∀ a0 a1 k, LeO (flat_pair.f k a0 a1) (flat_pair.f (k + 1) a0 a1) := by
  intro a0 a1 k
  unfold flat_pair.f
  repeat' first
      | (with_reducible exact leaf_Right.mono _ _)
      | (with_reducible exact LeO.refl _)
      | (with_reducible exact LeO.none _)
      | (with_reducible refine LeO.ite ?_ ?_)
      | (with_reducible refine LeO.bind ?_ (fun _ => ?_))
      | exact leaf_Right.mono _ _
      | exact LeO.none _
      | refine LeO.ite ?_ ?_
      | refine LeO.bind ?_ (fun _ => ?_)
set_option maxHeartbeats 8000000 in
set_option maxRecDepth 100000 in
theorem flat_pair.calls (k : Nat) (a0_0 : ByteArray) (a0_1 : ByteArray) (r : Bool) (w : World) (h : flat_pair.f k a0_0 a0_1 = some r) :
    Calls Try.prog 58 #[.agg #[.string a0_0, .string a0_1]] w fun e w' => e = .returned (.bool r) ∧ Below w.heap.size w w' := by
  have hu50 := Try.underlying50
  have HB := Aside0.mk (Below.refl w.heap.size w)
  have H : ((leaf_Right.f k (([(⟨a0_0, a0_1⟩ : S50)] : List (S50)))).bind fun t144 => (some t144)) = some r := h
  clear h
  obtain ⟨y141, hy141⟩ : ∃ y_ : List (S50), y_ = (([(⟨a0_0, a0_1⟩ : S50)] : List (S50))) := ⟨_, rfl⟩
  replace H : ((leaf_Right.f k y141).bind fun t144 => (some t144)) = some r := by first | (rw [hy141]; with_reducible exact H) | (have H2_ := (Option.bind_some _ _).symm.trans H; rw [hy141]; with_reducible exact H2_) | (have H2_ := (Option.bind_some _ _).symm.trans H; with_reducible exact H2_) | with_reducible exact H | (rw [hy141]; exact H) | exact H
  have Ny141 := Aside0.mk hy141
  clear hy141
  replace H := Option.bind_eq_some_iff.mp H
  obtain ⟨t144, A20, H⟩ := H
  replace H : (some t144) = some r := H
  have A2 := Aside0.mk A20
  clear A20
  obtain rfl := Option.some.inj H
  go_enter Try.func58, Try.ntmps58
  go_wp2_with (first | ((with_reducible refine gate_dst (N := 1) rfl ?_); refine box_event ?hg (N := 1) ?hd (cs := #[.string a0_0, .string a0_1]) (t := 50) ?hr ?_; (case hd => rfl); (case hg => rfl); (case hr => first | (go_simp; done) | (go_simp; rfl)); intro gb140 hg w3 hbox hb; have n0_ := Aside0.mk (below_step (by repeat (first | (with_reducible first | exact HB.out | apply below_alloc | apply pw_below_drewN | apply below_drew1) | exact HB.out)) hb); have n1_ := Aside0.mk (hbox); have n2_ := Aside0.mk ((by rw [hg]; exact (below_size (by repeat (first | (with_reducible first | exact HB.out | apply below_alloc | apply pw_below_drewN | apply below_drew1) | exact HB.out))) : w.heap.size ≤ gb140)); have n3_ := Aside0.mk ((by rw [hg]; exact (below_size (by repeat (first | (with_reducible first | exact HB.out | apply below_alloc | apply pw_below_drewN | apply below_drew1) | exact HB.out))) : w.heap.size ≤ gb140)); clear HB; have HB := n0_; have BK140 := n1_; have GW140 := n2_; have GE140 := n3_; clear n0_ n1_ n2_ n3_; clear hb hbox hg; have hcz4_0 : w3.cell? ⟨gb140, 0, none⟩ = some (.string a0_0) := (blk_cell BK140.out 0).trans rfl; have hcz4_1 : w3.cell? ⟨gb140, 1, none⟩ = some (.string a0_1) := (blk_cell BK140.out 1).trans rfl; have hfz4_0 := blk_frozen BK140.out 0; have hfz4_1 := blk_frozen BK140.out 1) | ((with_reducible refine gate_dst (N := 4) rfl ?_); refine Kd.R_lit k50 _ 50 ?hg (N := 4) ?hd (xs := ([(⟨a0_0, a0_1⟩ : S50)] : List (S50))) (inner := [.string a0_0, .string a0_1]) (ok := fun _ => True) (okp := fun _ => True) ?hr ?hp (fun _ hk => hk) trivial (Below.refl _ _) (Nat.le_refl _) (by simp) ?_; (case hd => rfl); (case hg => rfl); (case hr => first | (go_simp; done) | (go_simp; rfl)); (case hp => exact (Reps.c2 (show Kd.M k50 _ _ _ (⟨a0_0, a0_1⟩ : S50) [.string a0_0, .string a0_1] from (k50_mkM _ _ _ (⟨a0_0, a0_1⟩ : S50) )) (Reps.none _ _))); intro v142 w5 ho6 hb hg_ hnew_; clear hg_ hnew_; (first | rw [← Ny141.out] at ho6 | (simp only [Int.reduceToNat] at ho6; rw [← Ny141.out] at ho6)); have n0_ := Aside0.mk (Kd.R_lower (Kd.R_newB ho6 (g := gb140) (o := .cells #[.string a0_0, .string a0_1] 50 (0, 0)) (by (with_reducible repeat (first | refine blk_drewN ?_ _ | refine blk_drew ?_ | refine blk_alloc ?_ _)); exact BK140.out)) (below_size (by repeat (first | (with_reducible first | exact HB.out | apply below_alloc | apply pw_below_drewN | apply below_drew1 | refine below_set ?_ GE140.out) | exact HB.out)))); have n1_ := Aside0.mk (blk_below (g := gb140) (o := .cells #[.string a0_0, .string a0_1] 50 (0, 0)) (by (with_reducible repeat (first | refine blk_drewN ?_ _ | refine blk_drew ?_ | refine blk_alloc ?_ _)); exact BK140.out) hb); have n2_ := Aside0.mk (below_step (by repeat (first | (with_reducible first | exact HB.out | apply below_alloc | apply pw_below_drewN | apply below_drew1 | refine below_set ?_ GE140.out) | exact HB.out)) hb); clear BK140; clear HB; have HO143 := n0_; have BK140 := n1_; have HB := n2_; clear n0_ n1_ n2_; clear hb ho6; obtain ⟨Ao7, co7, eo7⟩ := Kd.R_slice HO143.out; subst eo7) | ((with_reducible refine gate_callee (f := 70) rfl ?_); refine goesL_ (some 5) rfl rfl Try.func70 (by kernel_rfl) rfl #[.slice Ao7 y141.length co7] rfl (by (try simp only [List.map_toArray, List.map_cons, List.map_nil]); first | done | rfl | (simp only [List.length_drop, List.length_take]; rfl)) ?_; (with_reducible refine (leaf_Right.calls k _ _ y141 t144 _ ?side1 ?side2 A2.out).mono ?_); (case side1 => repeat (first | exact (Kd.R_reads' HO143.out).2.2 | (with_reducible refine Kd.C_alloc ?_ _) | (with_reducible refine Kd.C_drewN ?_ _) | (with_reducible refine Kd.C_drew ?_))); (case side2 => exact (Kd.R_reads' HO143.out).2.1); rintro e w8 ⟨rfl, hb⟩; refine ⟨_, rfl, ?_⟩; have n0_ := Aside0.mk (Kd.R_below (by (with_reducible repeat (first | apply Kd.R_alloc | apply Kd.R_drewN | apply Kd.R_drew)); exact HO143.out) hb); have n1_ := Aside0.mk (blk_below (g := gb140) (o := .cells #[.string a0_0, .string a0_1] 50 (0, 0)) (by (with_reducible repeat (first | refine blk_drewN ?_ _ | refine blk_drew ?_ | refine blk_alloc ?_ _)); exact BK140.out) hb); have n2_ := Aside0.mk (below_step (by repeat (first | (with_reducible first | exact HB.out | apply below_alloc | apply pw_below_drewN | apply below_drew1 | refine below_set ?_ GE140.out) | exact HB.out)) hb); clear HO143; clear BK140; clear HB; have HO143 := n0_; have BK140 := n1_; have HB := n2_; clear n0_ n1_ n2_; (try clear hb); (try clear hb2); (try clear hk); (try clear hi)))
  go_ret
  exact ⟨by first | rfl | (simp [errW_none, errW_some] <;> rfl) | (simp [*, errW_none, errW_some] <;> rfl), by repeat (first | (with_reducible first | exact HB.out | apply below_alloc | apply pw_below_drewN | apply below_drew1 | refine below_set ?_ GE140.out) | exact HB.out)⟩

/-! ### flat_Pairs_1: function 59 -/
def flat_Pairs_1.f (k : Nat) (s0_0 : ByteArray) (s0_1 : Bool) (a1_0 : ByteArray) (a1_1 : ByteArray) : Option (ByteArray × Bool) := (flat_writer_text.f k s0_0 s0_1 a1_0).bind fun bt146 => ((flat_writer_text.f k bt146.1 bt146.2 a1_1).bind fun bt148 => (some (bt148.1, bt148.2)))
theorem flat_Pairs_1.mono : ∀ a0 a1 a2 a3 k, LeO (flat_Pairs_1.f k a0 a1 a2 a3) (flat_Pairs_1.f (k + 1) a0 a1 a2 a3) := by
  intro a0 a1 a2 a3 k
  unfold flat_Pairs_1.f
  repeat' first
      | (with_reducible exact flat_writer_text.mono _ _ _ _)
      | (with_reducible exact LeO.refl _)
      | (with_reducible exact LeO.none _)
      | (with_reducible refine LeO.ite ?_ ?_)
      | (with_reducible refine LeO.bind ?_ (fun _ => ?_))
      | exact flat_writer_text.mono _ _ _ _
      | exact LeO.none _
      | refine LeO.ite ?_ ?_
      | refine LeO.bind ?_ (fun _ => ?_)
set_option maxHeartbeats 8000000 in
set_option maxRecDepth 100000 in
theorem flat_Pairs_1.calls (k : Nat) (g : Nat) (s0_0 : ByteArray) (s0_1 : Bool) (a1_0 : ByteArray) (a1_1 : ByteArray) (r1 : ByteArray) (r2 : Bool) (w0 w : World) (hI : IsS120 w0 w g s0_0 s0_1) (hB : Below w0.heap.size w0 w) (h : flat_Pairs_1.f k s0_0 s0_1 a1_0 a1_1 = some (r1, r2)) :
    Calls Try.prog 59 #[.pointer (some ⟨g, 0, none⟩), .agg #[.string a1_0, .string a1_1]] w fun e w' => e = .returned (.tuple #[]) ∧ IsS120 w0 w' g r1 r2 ∧ Below w0.heap.size w0 w' ∧ KeepBut w w' g none := by
  have hu50 := Try.underlying50
  have HI0 := Aside0.mk hI
  have HK := Aside0.mk (KeepBut.refl w g none)
  have HL := Aside0.mk hB.size
  clear hI
  have HW0 := Aside0.mk hB.size
  have HB := Aside0.mk hB
  clear hB
  have H : ((flat_writer_text.f k s0_0 s0_1 a1_0).bind fun bt146 => ((flat_writer_text.f k bt146.1 bt146.2 a1_1).bind fun bt148 => (some (bt148.1, bt148.2)))) = some (r1, r2) := h
  clear h
  replace H := Option.bind_eq_some_iff.mp H
  obtain ⟨⟨t146, t147⟩, A30, H⟩ := H
  replace H : ((flat_writer_text.f k t146 t147 a1_1).bind fun bt148 => (some (bt148.1, bt148.2))) = some (r1, r2) := H
  have A3 := Aside0.mk A30
  clear A30
  replace H := Option.bind_eq_some_iff.mp H
  obtain ⟨⟨t148, t149⟩, A40, H⟩ := H
  replace H : (some (t148, t149)) = some (r1, r2) := H
  have A4 := Aside0.mk A40
  clear A40
  simp only [Option.some.injEq, Prod.mk.injEq] at H
  obtain ⟨rfl, rfl⟩ := H
  go_enter Try.func59, Try.ntmps59
  go_wp2_with (first | ((with_reducible refine gate_dst (N := 3) rfl ?_); refine box_event ?hg (N := 3) ?hd (cs := #[.string a1_0, .string a1_1]) (t := 50) ?hr ?_; (case hd => rfl); (case hg => rfl); (case hr => first | (go_simp; done) | (go_simp; rfl)); intro gb145 hg w5 hbox hb; have n0_ := Aside0.mk (IsS120.below (by repeat (first | (with_reducible first | exact HI0.out | apply IsS120.alloc | apply IsS120.drewN | apply IsS120.drew | apply IsS120.set_0 | apply IsS120.set_1) | exact HI0.out)) hb); have n1_ := Aside0.mk (KeepBut.trans (by repeat (first | (with_reducible first | exact HK.out | apply KeepBut.set_ | apply keep_drewN | apply keep_drew | apply keep_alloc) | exact HK.out)) (KeepBut.of_below hb g none) (.inl rfl)); have n2_ := Aside0.mk (below_step (by repeat (first | (with_reducible first | exact HB.out | apply below_alloc | apply pw_below_drewN | apply below_drew1 | refine below_set ?_ (IsS120.ge HI0.out)) | exact HB.out)) hb); have n3_ := Aside0.mk (hbox); have n4_ := Aside0.mk ((by rw [hg]; exact (keep_size (w := w) (g := g) (row := none) (by repeat (first | (with_reducible first | exact HK.out | apply KeepBut.set_ | apply keep_drewN | apply keep_drew | apply keep_alloc) | exact HK.out))) : w.heap.size ≤ gb145)); have n5_ := Aside0.mk ((Nat.le_trans HW0.out (by rw [hg]; exact (keep_size (w := w) (g := g) (row := none) (by repeat (first | (with_reducible first | exact HK.out | apply KeepBut.set_ | apply keep_drewN | apply keep_drew | apply keep_alloc) | exact HK.out))) : w.heap.size ≤ gb145) : w0.heap.size ≤ gb145)); have n6_ := Aside0.mk ((by rw [hg]; exact Nat.ne_of_lt (IsS120.lt (show IsS120 w0 _ g s0_0 s0_1 from by repeat (first | (with_reducible first | exact HI0.out | apply IsS120.alloc | apply IsS120.drewN | apply IsS120.drew | apply IsS120.set_0 | apply IsS120.set_1) | exact HI0.out))) : g ≠ gb145)); have n7_ := Aside0.mk ((by rw [hg]; exact Nat.ne_of_gt (IsS120.lt (show IsS120 w0 _ g s0_0 s0_1 from by repeat (first | (with_reducible first | exact HI0.out | apply IsS120.alloc | apply IsS120.drewN | apply IsS120.drew | apply IsS120.set_0 | apply IsS120.set_1) | exact HI0.out))) : gb145 ≠ g)); clear HI0; clear HK; clear HB; have HI0 := n0_; have HK := n1_; have HB := n2_; have BK145 := n3_; have GW145 := n4_; have GE145 := n5_; have NB0_145 := n6_; have NB145_0 := n7_; clear n0_ n1_ n2_ n3_ n4_ n5_ n6_ n7_; clear hb hbox hg; have hnb6 := NB145_0.out; have hnc6 := NB0_145.out; have hcz7_0 : w5.cell? ⟨gb145, 0, none⟩ = some (.string a1_0) := (blk_cell BK145.out 0).trans rfl; have hcz7_1 : w5.cell? ⟨gb145, 1, none⟩ = some (.string a1_1) := (blk_cell BK145.out 1).trans rfl; have hfz7_0 := blk_frozen BK145.out 0; have hfz7_1 := blk_frozen BK145.out 1) | ((with_reducible refine gate_callee (f := 56) rfl ?_); refine goesL_ (some 7) rfl rfl Try.func56 (by kernel_rfl) rfl #[.pointer (some ⟨g, 0, none⟩), .string a1_0] rfl (by (try simp only [List.map_toArray, List.map_cons, List.map_nil]); first | done | rfl | (simp only [List.length_drop, List.length_take]; rfl)) ?_; (with_reducible refine (flat_writer_text.calls k g s0_0 s0_1 a1_0 t146 t147 w0 _ ?side1 ?side2 A3.out).mono ?_); (case side1 => repeat (first | (with_reducible first | exact HI0.out | apply IsS120.alloc | apply IsS120.drewN | apply IsS120.drew | apply IsS120.set_0 | apply IsS120.set_1 | refine IsS120.far ?_ NB0_145.out _) | exact HI0.out)); (case side2 => repeat (first | (with_reducible first | exact HB.out | apply below_alloc | apply pw_below_drewN | apply below_drew1 | refine below_set ?_ (IsS120.ge HI0.out) | refine below_set ?_ GE145.out) | exact HB.out)); rintro e w8 ⟨rfl, hi, hb, hk⟩; refine ⟨_, rfl, ?_⟩; have n0_ := Aside0.mk (KeepBut.blk hk (g' := gb145) (o := .cells #[.string a1_0, .string a1_1] 50 (0, 0)) (by (with_reducible repeat (first | refine blk_drewN ?_ _ | refine blk_drew ?_ | refine blk_alloc ?_ _)); exact BK145.out) NB145_0.out (by simp)); have n1_ := Aside0.mk (KeepBut.trans (by repeat (first | (with_reducible first | exact HK.out | apply KeepBut.set_ | apply keep_drewN | apply keep_drew | apply keep_alloc | refine keep_far ?_ GW145.out _) | exact HK.out)) hk (.inl rfl)); have n2_ := Aside0.mk (hb); have n3_ := Aside0.mk (hi); clear BK145; clear HK; clear HB; clear HI0; have BK145 := n0_; have HK := n1_; have HB := n2_; have HI0 := n3_; clear n0_ n1_ n2_ n3_; (try clear hb); (try clear hb2); (try clear hk); (try clear hi); have hcz9_0 : w8.cell? ⟨gb145, 0, none⟩ = some (.string a1_0) := (blk_cell BK145.out 0).trans rfl; have hcz9_1 : w8.cell? ⟨gb145, 1, none⟩ = some (.string a1_1) := (blk_cell BK145.out 1).trans rfl; have hfz9_0 := blk_frozen BK145.out 0; have hfz9_1 := blk_frozen BK145.out 1) | ((with_reducible refine gate_callee (f := 56) rfl ?_); refine goesL_ (some 11) rfl rfl Try.func56 (by kernel_rfl) rfl #[.pointer (some ⟨g, 0, none⟩), .string a1_1] rfl (by (try simp only [List.map_toArray, List.map_cons, List.map_nil]); first | done | rfl | (simp only [List.length_drop, List.length_take]; rfl)) ?_; (with_reducible refine (flat_writer_text.calls k g t146 t147 a1_1 t148 t149 w0 _ ?side1 ?side2 A4.out).mono ?_); (case side1 => repeat (first | (with_reducible first | exact HI0.out | apply IsS120.alloc | apply IsS120.drewN | apply IsS120.drew | apply IsS120.set_0 | apply IsS120.set_1 | refine IsS120.far ?_ NB0_145.out _) | exact HI0.out)); (case side2 => repeat (first | (with_reducible first | exact HB.out | apply below_alloc | apply pw_below_drewN | apply below_drew1 | refine below_set ?_ (IsS120.ge HI0.out) | refine below_set ?_ GE145.out) | exact HB.out)); rintro e w10 ⟨rfl, hi, hb, hk⟩; refine ⟨_, rfl, ?_⟩; have n0_ := Aside0.mk (KeepBut.blk hk (g' := gb145) (o := .cells #[.string a1_0, .string a1_1] 50 (0, 0)) (by (with_reducible repeat (first | refine blk_drewN ?_ _ | refine blk_drew ?_ | refine blk_alloc ?_ _)); exact BK145.out) NB145_0.out (by simp)); have n1_ := Aside0.mk (KeepBut.trans (by repeat (first | (with_reducible first | exact HK.out | apply KeepBut.set_ | apply keep_drewN | apply keep_drew | apply keep_alloc | refine keep_far ?_ GW145.out _) | exact HK.out)) hk (.inl rfl)); have n2_ := Aside0.mk (hb); have n3_ := Aside0.mk (hi); clear BK145; clear HK; clear HB; clear HI0; have BK145 := n0_; have HK := n1_; have HB := n2_; have HI0 := n3_; clear n0_ n1_ n2_ n3_; (try clear hb); (try clear hb2); (try clear hk); (try clear hi)))
  first | go_end0 | ((try simp only [Exit.inBlock, Exit.then]); refine bodyPost_ret (results_none rfl _ _ _) rfl ?_)
  exact ⟨by first | rfl | (simp [errW_none, errW_some] <;> rfl) | (simp [*, errW_none, errW_some] <;> rfl), by repeat (first | (with_reducible first | exact HI0.out | apply IsS120.alloc | apply IsS120.drewN | apply IsS120.drew | apply IsS120.set_0 | apply IsS120.set_1 | refine IsS120.far ?_ NB0_145.out _) | exact HI0.out), by repeat (first | (with_reducible first | exact HB.out | apply below_alloc | apply pw_below_drewN | apply below_drew1 | refine below_set ?_ (IsS120.ge HI0.out) | refine below_set ?_ GE145.out) | exact HB.out), by repeat (first | (with_reducible first | exact HK.out | apply KeepBut.set_ | apply keep_drewN | apply keep_drew | apply keep_alloc | refine keep_far ?_ GW145.out _) | exact HK.out)⟩

/-! ### flat_Pairs: function 17 -/


def flat_Pairs.l0 : Nat → List S50 → ByteArray → Bool → Int → Option (ByteArray × Int)
  | 0, _, _, _, _ => none
  | k + 1, l, s, bad, i => if i < (l.length : Int) then (if 0 ≤ i then ((flat_pair.f k (rd_T50 l i).f0 (rd_T50 l i).f1).bind fun m => (if m = true then ((flat_Pairs_1.f k s bad (rd_T50 l i).f0 (rd_T50 l i).f1).bind fun p => (flat_Pairs.l0 k l p.1 p.2 (wrap64 (i + 1)))) else (some ((⟨#[]⟩ : ByteArray), 1)))) else (none)) else (if bad = true then (some ((⟨#[]⟩ : ByteArray), 1)) else (some (s, 0)))
def flat_Pairs.f (k : Nat) (l0 : List S50) : Option (ByteArray × Int) := if (l0.length : Int) > 65535 then (some ((⟨#[]⟩ : ByteArray), 1)) else ((flat_writer_num.f k (⟨#[]⟩ : ByteArray) false (IntKind.u64.wrap (l0.length : Int)) 2).bind fun p => flat_Pairs.l0 k l0 p.1 p.2 0)
theorem flat_Pairs.mono_l : ∀ k, (∀ y0 y1 y2 y3, LeO (flat_Pairs.l0 k y0 y1 y2 y3) (flat_Pairs.l0 (k + 1) y0 y1 y2 y3))
  | 0 => fun _ _ _ _ r h => by simp [flat_Pairs.l0] at h
  | k + 1 => by
    have ih := flat_Pairs.mono_l k
    intro y0 y1 y2 y3
    unfold flat_Pairs.l0
    refine LeO.ite (LeO.ite (LeO.bind (flat_pair.mono _ _ _) fun _ => LeO.ite (LeO.bind (flat_Pairs_1.mono _ _ _ _ _) fun _ => ih _ _ _ _) (LeO.refl _)) (LeO.none _)) (LeO.refl _)
theorem flat_Pairs.mono : ∀ a0 k, LeO (flat_Pairs.f k a0) (flat_Pairs.f (k + 1) a0) := by
  intro a0 k
  unfold flat_Pairs.f
  exact LeO.ite (LeO.refl _) (LeO.bind (flat_writer_num.mono _ _ _ _ _) fun _ => flat_Pairs.mono_l k _ _ _ _)
set_option maxHeartbeats 8000000 in
set_option maxRecDepth 100000 in
theorem flat_Pairs.list (k : Nat) (A0 : Option Addr) (c0 : Nat) (l0 : List S50) (r1 : ByteArray) (r2 : Int) (w : World) (hr0 : Kd.C k50 w A0 l0.length l0) (hc0 : l0.length ≤ c0) (h : flat_Pairs.f k l0 = some (r1, r2)) :
    Calls Try.prog 57 #[.slice A0 l0.length c0, .func (.func 58) #[] #[], .func (.func 59) #[] #[]] w fun e w' => e = .returned (.tuple #[.string r1, .int .i64 r2]) ∧ Below w.heap.size w w' := by
  have hu50 := Try.underlying50
  have HR0 := Aside0.mk hr0
  have HC0 := Aside0.mk hc0
  clear hr0 hc0
  unfold flat_Pairs.f at h
  by_cases c1 : (l0.length : Int) > 65535
  · rw [if_pos c1] at h
    have c1b0 : decide (65535 < (l0.length : Int)) = true := decide_eq_true c1
    have c1b1 : decide (65535 < l0.length) = true := decide_eq_true (by omega)
    clear c1
    simp only [Option.some.injEq, Prod.mk.injEq] at h
    obtain ⟨rfl, rfl⟩ := h
    go_enter Try.func57, Try.ntmps57
    go_wp2
    go_ret2
    exact ⟨rfl, below_alloc (Below.refl _ _) _⟩
  · rw [if_neg c1] at h
    have c1b0 : decide (65535 < (l0.length : Int)) = false := decide_eq_false c1
    have c1b1 : decide (65535 < l0.length) = false := decide_eq_false (by omega)
    clear c1
    obtain ⟨⟨p1, p2⟩, A, h⟩ := Option.bind_eq_some_iff.mp h
    have HA := Aside0.mk A
    have H0 := Aside0.mk h
    clear A h
    go_enter Try.func57, Try.ntmps57
    go_wp2_with (go_at_call 55; (with_reducible refine (flat_writer_num.calls k w.heap.size (⟨#[]⟩ : ByteArray) false (IntKind.u64.wrap (l0.length : Int)) 2 p1 p2 w _ (IsS120.new w w (⟨#[]⟩ : ByteArray) false (Below.refl _ _)) (below_alloc (Below.refl _ _) _) HA.out).mono ?_); rintro e w1 ⟨rfl, hI, hB, hK⟩; have HI := Aside0.mk hI; have HB := Aside0.mk hB; clear hI hB hK)
    go_loopg [23] k (fun kq v23 w' => ∃ (i : Int) (s : ByteArray) (bad : Bool), v23 = .int .i64 i ∧ Aside0 (flat_Pairs.l0 kq l0 s bad i = some (r1, r2)) ∧ Aside0 (kq ≤ k) ∧ Aside0 (IsS120 w w' w.heap.size s bad) ∧ Aside0 (Below w.heap.size w w'))
    case atStart => exact ⟨0, p1, p2, (by first | rfl | (simp; done)), H0, ⟨Nat.le_refl _⟩, HI, HB⟩
    case round =>
      clear H0 HI HB HA
      obtain ⟨i, s, bad, rfl, HA, HK1, HI, HB⟩ := hrel
      cases gk with
      | zero => exact absurd HA.out (by simp [flat_Pairs.l0])
      | succ k1 =>
        have H := HA.out
        clear HA
        simp only [flat_Pairs.l0] at H
        by_cases c2 : i < (l0.length : Int)
        · rw [if_pos c2] at H
          have c2b0 : decide (i < (l0.length : Int)) = true := decide_eq_true c2
          by_cases c3 : 0 ≤ i
          · rw [if_pos c3] at H
            have c3b0 : decide (0 ≤ i) = true := decide_eq_true c3
            obtain ⟨m, A1, H⟩ := Option.bind_eq_some_iff.mp H
            have HA1 := Aside0.mk A1
            clear A1
            obtain ⟨ad, ead, hx0, hx1⟩ := at_T50 HR0.out i c3 c2
            cases ead
            replace hx0 := (HB.out.cell (World.block_lt_of_cell? w _ hx0)).trans hx0; replace hx1 := (HB.out.cell (World.block_lt_of_cell? w _ hx1)).trans hx1
            replace c3 := eq_true c3
            replace c2 := eq_true c2
            cases m with
            | false =>
              rw [if_neg (by decide)] at H
              simp only [Option.some.injEq, Prod.mk.injEq] at H
              obtain ⟨rfl, rfl⟩ := H
              go_wp2_with (go_at_call 58; (with_reducible refine (flat_pair.calls k1 (rd_T50 l0 i).f0 (rd_T50 l0 i).f1 false _ HA1.out).mono ?_); rintro e w5 ⟨rfl, hb⟩; have HB5 := Aside0.mk (below_step (below_alloc HB.out _) hb); clear hb)
              go_ret2
              exact ⟨rfl, HB5.out⟩
            | true =>
              rw [if_pos rfl] at H
              obtain ⟨⟨q1, q2⟩, A2, H⟩ := Option.bind_eq_some_iff.mp H
              have HA2 := Aside0.mk A2
              have H' := Aside0.mk H
              clear A2 H
              go_wp2_with (first
                | (go_at_call 58; (with_reducible refine (flat_pair.calls k1 (rd_T50 l0 i).f0 (rd_T50 l0 i).f1 true _ HA1.out).mono ?_); rintro e w5 ⟨rfl, hb⟩; have BK : w5.heap[wr.heap.size]? = some (.cells #[.string (rd_T50 l0 i).f0, .string (rd_T50 l0 i).f1] 50 (0, 0)) := (hb.block wr.heap.size (by simp)).trans (heap_alloc_new wr _); have hy0 := (blk_cell BK 0).trans rfl; have hz0 := blk_frozen BK 0; have hy1 := (blk_cell BK 1).trans rfl; have hz1 := blk_frozen BK 1; have HI5 := Aside0.mk ((HI.out.alloc _).below hb); have HB5 := Aside0.mk (below_step (below_alloc HB.out _) hb); clear hb BK)
                | (go_at_call 59; (with_reducible refine (flat_Pairs_1.calls k1 w.heap.size s bad (rd_T50 l0 i).f0 (rd_T50 l0 i).f1 q1 q2 w _ HI5.out HB5.out HA2.out).mono ?_); rintro e w6 ⟨rfl, hI, hB, hK⟩; have HI6 := Aside0.mk hI; have HB6 := Aside0.mk hB; clear hI hB hK))
              go_roundg k1
              case measure => have := HK1.out; omega
              case rel => exact ⟨(wrap64 (i + 1)), q1, q2, (by first | rfl | (simp; done) | (simp [*]; done)), H', ⟨by have := HK1.out; omega⟩, HI6, HB6⟩
          · rw [if_neg c3] at H
            exact absurd H (by simp)
        · rw [if_neg c2] at H
          have c2b0 : decide (i < (l0.length : Int)) = false := decide_eq_false c2
          clear c2
          have BK : wr.heap[w.heap.size]? = some (.cells #[.string s, .bool bad] 120 (0, 0)) := HI.out.1
          have hy0 : wr.cell? ⟨w.heap.size, 0, none⟩ = some (.string s) := (blk_cell BK 0).trans rfl
          have hy1 : wr.cell? ⟨w.heap.size, 1, none⟩ = some (.bool bad) := (blk_cell BK 1).trans rfl
          clear BK
          cases bad with
          | true =>
            rw [if_pos rfl] at H
            simp only [Option.some.injEq, Prod.mk.injEq] at H
            obtain ⟨rfl, rfl⟩ := H
            go_wp2
            go_ret2
            exact ⟨rfl, HB.out⟩
          | false =>
            rw [if_neg (by decide)] at H
            simp only [Option.some.injEq, Prod.mk.injEq] at H
            obtain ⟨rfl, rfl⟩ := H
            go_wp2
            go_ret2
            exact ⟨rfl, HB.out⟩
set_option maxHeartbeats 8000000 in
theorem flat_Pairs.calls (k : Nat) (A0 : Option Addr) (c0 : Nat) (l0 : List S50) (r1 : ByteArray) (r2 : Int) (w : World) (hr0 : Kd.C k50 w A0 l0.length l0) (hc0 : l0.length ≤ c0) (h : flat_Pairs.f k l0 = some (r1, r2)) :
    Calls Try.prog 17 #[.slice A0 l0.length c0] w fun e w' => e = .returned (.tuple #[.string r1, .int .i64 r2]) ∧ Below w.heap.size w w' := by
  have HL := Aside0.mk (flat_Pairs.list k A0 c0 l0 r1 r2 w hr0 hc0 h)
  clear hr0 hc0 h
  go_enter Try.func17, Try.ntmps17
  go_wp2_with (go_at_call 57; (with_reducible refine HL.out.mono ?_); rintro e w5 ⟨rfl, hb⟩)
  go_ret2
  exact ⟨rfl, hb⟩


end Go.Proofs.Ythidkdlmpkeogaa.F
