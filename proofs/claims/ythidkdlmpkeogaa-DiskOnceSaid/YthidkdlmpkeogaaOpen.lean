/- Opening a law's arguments as rows of the print's kinds (Kd), whatever their type: ints, bools, strings, slices, structs of one-cell fields. -/
import Derived.Test.YthidkdlmpkeogaaWMore
import Derived.WalkKit
import Derived.ProofKit
import Derived.OpenShut
import Derived.ShutString
import Derived.ChangeOld
import Derived.Below
import Derived.SizedLaws
import Derived.Carry
import Derived.Deep.Fields
import Derived.Deep.Slices
import Derived.ChangeSame
namespace Go.Proofs.Ythidkdlmpkeogaa.Open
open Go.ChangeShapes Go.WideShapes Go.ChangeAt Go.RowKit Go.Deep
open Go.Proofs.YthidkdlmpkeogaaW.PrintWords Go.Proofs.YthidkdlmpkeogaaW.PrintMore

/-- What reads at type t is of kind d; Q says more of it. -/
def Opens {α : Type} (P : Program) (t : TypeId) (d : Kd α) (Q : α → Prop) : Prop :=
  ∀ {H : Type} {enc : TypeId × Value → H} {w : World} {fuel : Nat} {cs : List Value} {y : DataW H × List MemPlace},
    DataW.trod enc P w 0 (fun _ => true) true fuel t cs = some y → ∃ x, d.K w x cs ∧ Q x

section
variable {P : Program}
theorem opens_int {t : TypeId} {k : IntKind} (ht : P.underlying t = some (.int k)) : Opens P t (Kd.int k) (fun n => (Lit.int k n).wf = true) := by
  intro H enc w fuel cs y h
  obtain ⟨n, rfl, _, hw⟩ := DataW.trod_int ht h
  exact ⟨n, rfl, hw⟩
theorem opens_bool {t : TypeId} (ht : P.underlying t = some .bool) : Opens P t Kd.bool (fun _ => True) := by
  intro H enc w fuel cs y h
  obtain ⟨n, rfl, _⟩ := DataW.trod_bool ht h
  exact ⟨n, rfl, trivial⟩
theorem opens_string {t : TypeId} (ht : P.underlying t = some .string) : Opens P t Kd.string (fun s => s.size ≤ maxLen) := by
  intro H enc w fuel cs y h
  obtain ⟨s, rfl, _, hs⟩ := DataW.trod_string ht h
  exact ⟨s, rfl, hs⟩

/-- A list out of what each place of it has. -/
theorem list_of {α : Type} (n : Nat) (R : Nat → α → Prop) (h : ∀ i, i < n → ∃ x, R i x) : ∃ xs : List α, xs.length = n ∧ ∀ i x, xs[i]? = some x → R i x := by
  induction n with
  | zero => exact ⟨[], rfl, fun i x hx => by simp at hx⟩
  | succ n ih =>
    obtain ⟨xs, hl, hx⟩ := ih (fun i hi => h i (by omega))
    obtain ⟨x, hr⟩ := h n (by omega)
    refine ⟨xs ++ [x], by simp [hl], fun i y hy => ?_⟩
    by_cases hi : i < xs.length
    · rw [List.getElem?_append_left hi] at hy
      exact hx i y hy
    · have hlt := (List.getElem?_eq_some_iff.1 hy).1
      simp at hlt
      have e : i = n := by omega
      subst e
      rw [List.getElem?_append_right (by omega), hl] at hy
      simp at hy
      subst hy
      exact hr

theorem opens_slice {α : Type} {t e : TypeId} {d : Kd α} {Q : α → Prop} (ht : P.underlying t = some (.slice e)) (hc : P.cellsOf e = d.sz) (h : Opens P e d Q) :
    Opens P t (Kd.slice e d) (fun xs => (∀ x ∈ xs, Q x) ∧ xs.length ≤ maxLen) := by
  intro H enc w fuel cs y hy
  rcases DataW.trod_slice ht hy with ⟨rfl, _⟩ | ⟨a, len, cap, elems, rest, n, _, rfl, _, _, hl, hm, hlen, hel, _, _⟩
  · exact ⟨[], ⟨none, 0, rfl, Nat.le_refl _, rfl, by simp, fun h0 => absurd h0 (by simp)⟩, by simp, by simp⟩
  · obtain ⟨xs, hxl, hx⟩ := list_of len (fun i x => (∃ c, c.length = d.sz ∧ d.K w x c ∧ ∀ j u, c[j]? = some u → w.cell? (a.add (i * d.sz + j)) = some u) ∧ Q x) (fun i hi => by
      have h1 := hel i hi
      rw [List.getElem?_eq_getElem (by omega), Option.bind_eq_some_iff] at h1
      obtain ⟨c, hcs, hty⟩ := h1
      obtain ⟨x, hk, hq⟩ := h hty
      obtain ⟨_, hcl, hcell⟩ := World.cells?_some hcs
      refine ⟨x, ⟨c, d.K_len hk, hk, fun j u hu => ?_⟩, hq⟩
      have hj : j < c.length := (List.getElem?_eq_some_iff.1 hu).1
      rw [← hu, ← hcell j (by omega), Go.Deep.add_add, hc])
    subst hxl
    refine ⟨xs, ⟨some a, cap, rfl, hl, rfl, ?_, fun _ => ⟨a, rfl, fun j p hp => (hx j p hp).1⟩⟩, ?_, Nat.le_trans hl hm⟩
    · unfold maxLen at hm
      omega
    · intro x hxm
      obtain ⟨i, hi⟩ := List.getElem?_of_mem hxm
      exact (hx i x hi).2

section
variable {α0 α1 α2 α3 α4 α5 β : Type} {d0 : Kd α0} {d1 : Kd α1} {d2 : Kd α2} {d3 : Kd α3} {d4 : Kd α4} {d5 : Kd α5} {Q0 : α0 → Prop} {Q1 : α1 → Prop} {Q2 : α2 → Prop} {Q3 : α3 → Prop} {Q4 : α4 → Prop} {Q5 : α5 → Prop}

/-- The cells of a struct of one-cell fields, field by field. -/
theorem field_at {H : Type} {enc : TypeId × Value → H} {w : World} {fs : Array Field} {n : Nat} {cs : List Value} {xs : List (DataW H × List MemPlace)} (hone : oneCellFields P fs = true)
    (hl : cs.length = fs.size) (hxl : xs.length = fs.size) (hf : ∀ (i : Nat) (f : Field), fs[i]? = some f → DataW.trod enc P w 0 (fun _ => true) true n f.type ((cs.drop f.offset).take (P.cellsOf f.type)) = xs[i]?)
    (j : Nat) (f : Field) (hj : fs[j]? = some f) : ∃ (v : Value) (y : DataW H × List MemPlace), cs[j]? = some v ∧ DataW.trod enc P w 0 (fun _ => true) true n f.type [v] = some y := by
  obtain ⟨ho, hk⟩ := hone_of hone j f hj
  have hjl : j < fs.size := (Array.getElem?_eq_some_iff.1 hj).1
  have h1 := hf j f hj
  rw [ho, hk] at h1
  have e : (cs.drop j).take 1 = [cs[j]'(by omega)] := by
    rw [List.drop_eq_getElem_cons (by omega)]
    rfl
  rw [e, List.getElem?_eq_getElem (by omega)] at h1
  exact ⟨_, _, List.getElem?_eq_getElem (by omega), h1⟩

theorem opens_struct2 {t : TypeId} {f0 f1 : Field} (ht : P.underlying t = some (.struct #[f0, f1])) (hone : oneCellFields P #[f0, f1] = true) (hC : P.cellsOf t = 2)
    (h0 : Opens P f0.type d0 Q0) (h1 : Opens P f1.type d1 Q1) (f : β → α0 × α1) (g : α0 × α1 → β) (hfg : ∀ x, f (g x) = x) :
    Opens P t (Kd.iso (Kd.pair d0 d1) f) (fun x => Q0 (f x).1 ∧ Q1 (f x).2) := by
  intro H enc w fuel cs y hy
  obtain ⟨ys, n, _, _, hl, hyl, hf⟩ := DataW.trod_struct ht hy
  rw [hC] at hl
  obtain ⟨v0, y0, c0, t0⟩ := field_at hone hl hyl hf 0 f0 rfl
  obtain ⟨v1, y1, c1, t1⟩ := field_at hone hl hyl hf 1 f1 rfl
  obtain ⟨x0, k0, q0⟩ := h0 t0
  obtain ⟨x1, k1, q1⟩ := h1 t1
  match cs, hl with
  | [a0, a1], _ =>
    simp at c0 c1
    subst c0 c1
    exact ⟨g (x0, x1), by show (Kd.pair d0 d1).K w (f (g (x0, x1))) _; rw [hfg]; exact ⟨[a0], [a1], rfl, k0, k1⟩, by simp only [hfg]; exact ⟨q0, q1⟩⟩

theorem opens_struct3 {t : TypeId} {f0 f1 f2 : Field} (ht : P.underlying t = some (.struct #[f0, f1, f2])) (hone : oneCellFields P #[f0, f1, f2] = true) (hC : P.cellsOf t = 3)
    (h0 : Opens P f0.type d0 Q0) (h1 : Opens P f1.type d1 Q1) (h2 : Opens P f2.type d2 Q2) (f : β → α0 × α1 × α2) (g : α0 × α1 × α2 → β) (hfg : ∀ x, f (g x) = x) :
    Opens P t (Kd.iso (Kd.pair d0 (Kd.pair d1 d2)) f) (fun x => Q0 (f x).1 ∧ Q1 (f x).2.1 ∧ Q2 (f x).2.2) := by
  intro H enc w fuel cs y hy
  obtain ⟨ys, n, _, _, hl, hyl, hf⟩ := DataW.trod_struct ht hy
  rw [hC] at hl
  obtain ⟨v0, y0, c0, t0⟩ := field_at hone hl hyl hf 0 f0 rfl
  obtain ⟨v1, y1, c1, t1⟩ := field_at hone hl hyl hf 1 f1 rfl
  obtain ⟨v2, y2, c2, t2⟩ := field_at hone hl hyl hf 2 f2 rfl
  obtain ⟨x0, k0, q0⟩ := h0 t0
  obtain ⟨x1, k1, q1⟩ := h1 t1
  obtain ⟨x2, k2, q2⟩ := h2 t2
  match cs, hl with
  | [a0, a1, a2], _ =>
    simp at c0 c1 c2
    subst c0 c1 c2
    exact ⟨g (x0, x1, x2), by show (Kd.pair d0 (Kd.pair d1 d2)).K w (f (g (x0, x1, x2))) _; rw [hfg]; exact ⟨[a0], [a1, a2], rfl, k0, [a1], [a2], rfl, k1, k2⟩, by simp only [hfg]; exact ⟨q0, q1, q2⟩⟩

theorem opens_struct4 {t : TypeId} {f0 f1 f2 f3 : Field} (ht : P.underlying t = some (.struct #[f0, f1, f2, f3])) (hone : oneCellFields P #[f0, f1, f2, f3] = true) (hC : P.cellsOf t = 4)
    (h0 : Opens P f0.type d0 Q0) (h1 : Opens P f1.type d1 Q1) (h2 : Opens P f2.type d2 Q2) (h3 : Opens P f3.type d3 Q3) (f : β → α0 × α1 × α2 × α3) (g : α0 × α1 × α2 × α3 → β) (hfg : ∀ x, f (g x) = x) :
    Opens P t (Kd.iso (Kd.pair d0 (Kd.pair d1 (Kd.pair d2 d3))) f) (fun x => Q0 (f x).1 ∧ Q1 (f x).2.1 ∧ Q2 (f x).2.2.1 ∧ Q3 (f x).2.2.2) := by
  intro H enc w fuel cs y hy
  obtain ⟨ys, n, _, _, hl, hyl, hf⟩ := DataW.trod_struct ht hy
  rw [hC] at hl
  obtain ⟨v0, y0, c0, t0⟩ := field_at hone hl hyl hf 0 f0 rfl
  obtain ⟨v1, y1, c1, t1⟩ := field_at hone hl hyl hf 1 f1 rfl
  obtain ⟨v2, y2, c2, t2⟩ := field_at hone hl hyl hf 2 f2 rfl
  obtain ⟨v3, y3, c3, t3⟩ := field_at hone hl hyl hf 3 f3 rfl
  obtain ⟨x0, k0, q0⟩ := h0 t0
  obtain ⟨x1, k1, q1⟩ := h1 t1
  obtain ⟨x2, k2, q2⟩ := h2 t2
  obtain ⟨x3, k3, q3⟩ := h3 t3
  match cs, hl with
  | [a0, a1, a2, a3], _ =>
    simp at c0 c1 c2 c3
    subst c0 c1 c2 c3
    exact ⟨g (x0, x1, x2, x3), by show (Kd.pair d0 (Kd.pair d1 (Kd.pair d2 d3))).K w (f (g (x0, x1, x2, x3))) _; rw [hfg]; exact ⟨[a0], [a1, a2, a3], rfl, k0, [a1], [a2, a3], rfl, k1, [a2], [a3], rfl, k2, k3⟩, by simp only [hfg]; exact ⟨q0, q1, q2, q3⟩⟩

theorem opens_struct6 {t : TypeId} {f0 f1 f2 f3 f4 f5 : Field} (ht : P.underlying t = some (.struct #[f0, f1, f2, f3, f4, f5])) (hone : oneCellFields P #[f0, f1, f2, f3, f4, f5] = true) (hC : P.cellsOf t = 6)
    (h0 : Opens P f0.type d0 Q0) (h1 : Opens P f1.type d1 Q1) (h2 : Opens P f2.type d2 Q2) (h3 : Opens P f3.type d3 Q3) (h4 : Opens P f4.type d4 Q4) (h5 : Opens P f5.type d5 Q5)
    (f : β → α0 × α1 × α2 × α3 × α4 × α5) (g : α0 × α1 × α2 × α3 × α4 × α5 → β) (hfg : ∀ x, f (g x) = x) :
    Opens P t (Kd.iso (Kd.pair d0 (Kd.pair d1 (Kd.pair d2 (Kd.pair d3 (Kd.pair d4 d5))))) f) (fun x => Q0 (f x).1 ∧ Q1 (f x).2.1 ∧ Q2 (f x).2.2.1 ∧ Q3 (f x).2.2.2.1 ∧ Q4 (f x).2.2.2.2.1 ∧ Q5 (f x).2.2.2.2.2) := by
  intro H enc w fuel cs y hy
  obtain ⟨ys, n, _, _, hl, hyl, hf⟩ := DataW.trod_struct ht hy
  rw [hC] at hl
  obtain ⟨v0, y0, c0, t0⟩ := field_at hone hl hyl hf 0 f0 rfl
  obtain ⟨v1, y1, c1, t1⟩ := field_at hone hl hyl hf 1 f1 rfl
  obtain ⟨v2, y2, c2, t2⟩ := field_at hone hl hyl hf 2 f2 rfl
  obtain ⟨v3, y3, c3, t3⟩ := field_at hone hl hyl hf 3 f3 rfl
  obtain ⟨v4, y4, c4, t4⟩ := field_at hone hl hyl hf 4 f4 rfl
  obtain ⟨v5, y5, c5, t5⟩ := field_at hone hl hyl hf 5 f5 rfl
  obtain ⟨x0, k0, q0⟩ := h0 t0
  obtain ⟨x1, k1, q1⟩ := h1 t1
  obtain ⟨x2, k2, q2⟩ := h2 t2
  obtain ⟨x3, k3, q3⟩ := h3 t3
  obtain ⟨x4, k4, q4⟩ := h4 t4
  obtain ⟨x5, k5, q5⟩ := h5 t5
  match cs, hl with
  | [a0, a1, a2, a3, a4, a5], _ =>
    simp at c0 c1 c2 c3 c4 c5
    subst c0 c1 c2 c3 c4 c5
    exact ⟨g (x0, x1, x2, x3, x4, x5), by show (Kd.pair d0 (Kd.pair d1 (Kd.pair d2 (Kd.pair d3 (Kd.pair d4 d5))))).K w (f (g (x0, x1, x2, x3, x4, x5))) _; rw [hfg]; exact ⟨[a0], [a1, a2, a3, a4, a5], rfl, k0, [a1], [a2, a3, a4, a5], rfl, k1, [a2], [a3, a4, a5], rfl, k2, [a3], [a4, a5], rfl, k3, [a4], [a5], rfl, k4, k5⟩, by simp only [hfg]; exact ⟨q0, q1, q2, q3, q4, q5⟩⟩
end

section
variable {H : Type} {enc : TypeId × Value → H} {W : World} {r : Reach} {b0 : Nat} {v : Value} {dd : DataW H} {p : List MemPlace} {α : Type} {d : Kd α} {Q : α → Prop}
/-- An argument that is a slice. -/
theorem arg_slice {t e : TypeId} (ht : P.underlying t = some (.slice e)) (hv : Value.okWide P W r b0 t v) (hd : DataW.Trod enc P W 0 (fun _ => true) true t v dd p) {QL : List α → Prop} (h : Opens P t (Kd.slice e d) QL) :
    ∃ (A : Option Addr) (c : Nat) (xs : List α), v = .slice A xs.length c ∧ xs.length ≤ c ∧ d.C W A xs.length xs ∧ QL xs := by
  obtain ⟨a, len, cap, rfl⟩ := okWide_slice ht hv
  obtain ⟨fuel, hf⟩ := hd
  obtain ⟨xs, ⟨A, c, e, hl, hC⟩, hq⟩ := h hf
  simp [Value.cells] at e
  obtain ⟨rfl, rfl, rfl⟩ := e
  exact ⟨_, _, xs, rfl, hl, hC, hq⟩
/-- An argument that is a struct. -/
theorem arg_struct {t : TypeId} {fs : Array Field} (ht : P.underlying t = some (.struct fs)) (hv : Value.okWide P W r b0 t v) (hd : DataW.Trod enc P W 0 (fun _ => true) true t v dd p) (h : Opens P t d Q) :
    ∃ (cs : List Value) (x : α), v = .agg cs.toArray ∧ d.K W x cs ∧ Q x := by
  obtain ⟨cs, rfl, _⟩ := okWide_struct ht hv
  obtain ⟨fuel, hf⟩ := hd
  obtain ⟨x, hk, hq⟩ := h hf
  exact ⟨cs.toList, x, by simp, by simpa [Value.cells] using hk, hq⟩
end
/-- What was read reads so behind a call that only makes memory. -/
theorem trod_after {H : Type} {enc : TypeId × Value → H} {t : TypeId} {W W' : World} {v : Value} {dd : DataW H} {ps : List MemPlace} (hl : laidOutB P = true) (hr : P.readableRec t = true) (hrow : t < P.types.size)
    (h : DataW.Trod enc P W 0 (fun _ => true) true t v dd ps) (hb : Below W.heap.size W W') : DataW.Trod enc P W' 0 (fun b => decide (b < W.heap.size)) true t v dd ps := by
  obtain ⟨f, hf⟩ := h
  exact Below.trod hl hr hrow ⟨f, hf⟩ hb (DataW.trod_lt f _ _ _ hf)
end
end Go.Proofs.Ythidkdlmpkeogaa.Open
