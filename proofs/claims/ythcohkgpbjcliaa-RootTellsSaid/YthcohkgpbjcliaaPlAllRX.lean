import Derived.Test.YthcohkgpbjcliaaWMore
import Derived.WalkKit
import Derived.ProofKit
import Derived.OpenShut
import Derived.ShutString
import Derived.ChangeOld
import Derived.Below
import Derived.SizedLaws
import Derived.Carry
import Derived.Deep.Fields
import Derived.Deep.Slices
import Derived.ChangeSame
import Derived.Test.YthcohkgpbjcliaaFrootx0
import Derived.Test.YthcohkgpbjcliaaFrootx1
import Derived.Test.YthcohkgpbjcliaaFblockx0
import Derived.Test.YthcohkgpbjcliaaFblockx1
import Derived.Test.YthcohkgpbjcliaaBase
import Derived.Test.YthcohkgpbjcliaaFdiskD
import Derived.Test.YthcohkgpbjcliaaFdiskE
import Derived.Test.YthcohkgpbjcliaaJourSpec
import Derived.Test.YthcohkgpbjcliaaPlPackN
import Derived.Test.YthcohkgpbjcliaaFref04x2
import Derived.Test.YthcohkgpbjcliaaFref04x0
import Derived.Test.YthcohkgpbjcliaaFref04x1
import Derived.Test.YthcohkgpbjcliaaFlaw04Ref
import Derived.Test.YthcohkgpbjcliaaFref02
import Derived.Test.YthcohkgpbjcliaaFref01
import Derived.Test.YthcohkgpbjcliaaPackSpec
import Derived.Test.YthcohkgpbjcliaaFref06x0
import Derived.Test.YthcohkgpbjcliaaFref06x1
import Derived.Test.YthcohkgpbjcliaaFref07x1
import Derived.Test.YthcohkgpbjcliaaFref07x2
import Derived.Test.YthcohkgpbjcliaaFref07x0
import Derived.Test.YthcohkgpbjcliaaFlaw07awake
import Derived.Test.YthcohkgpbjcliaaFlaw07RootTells
namespace Go.Proofs.Ythcohkgpbjcliaa.Open
open Go.ChangeShapes Go.WideShapes Go.ChangeAt Go.RowKit Go.Deep
open Go.Proofs.YthcohkgpbjcliaaW.PrintWords Go.Proofs.YthcohkgpbjcliaaW.PrintMore
def Opens {α : Type} (P : Program) (t : TypeId) (d : Kd α) (Q : α → Prop) : Prop :=
  ∀ {H : Type} {enc : TypeId × Value → H} {w : World} {fuel : Nat} {cs : List Value} {y : DataW H × List MemPlace},
    DataW.trod enc P w 0 (fun _ => true) true fuel t cs = some y → ∃ x, d.K w x cs ∧ Q x
section
variable {P : Program}
theorem opens_int {t : TypeId} {k : IntKind} (ht : P.underlying t = some (.int k)) : Opens P t (Kd.int k) (fun n => (Lit.int k n).wf = true) := by
  intro H enc w fuel cs y h
  obtain ⟨n, rfl, _, hw⟩ := DataW.trod_int ht h
  exact ⟨n, rfl, hw⟩
theorem opens_bool {t : TypeId} (ht : P.underlying t = some .bool) : Opens P t Kd.bool (fun _ => True) := by
  intro H enc w fuel cs y h
  obtain ⟨n, rfl, _⟩ := DataW.trod_bool ht h
  exact ⟨n, rfl, trivial⟩
theorem opens_string {t : TypeId} (ht : P.underlying t = some .string) : Opens P t Kd.string (fun s => s.size ≤ maxLen) := by
  intro H enc w fuel cs y h
  obtain ⟨s, rfl, _, hs⟩ := DataW.trod_string ht h
  exact ⟨s, rfl, hs⟩
theorem list_of {α : Type} (n : Nat) (R : Nat → α → Prop) (h : ∀ i, i < n → ∃ x, R i x) : ∃ xs : List α, xs.length = n ∧ ∀ i x, xs[i]? = some x → R i x := by
  induction n with
  | zero => exact ⟨[], rfl, fun i x hx => by simp at hx⟩
  | succ n ih =>
    obtain ⟨xs, hl, hx⟩ := ih (fun i hi => h i (by omega))
    obtain ⟨x, hr⟩ := h n (by omega)
    refine ⟨xs ++ [x], by simp [hl], fun i y hy => ?_⟩
    by_cases hi : i < xs.length
    · rw [List.getElem?_append_left hi] at hy
      exact hx i y hy
    · have hlt := (List.getElem?_eq_some_iff.1 hy).1
      simp at hlt
      have e : i = n := by omega
      subst e
      rw [List.getElem?_append_right (by omega), hl] at hy
      simp at hy
      subst hy
      exact hr
theorem opens_slice {α : Type} {t e : TypeId} {d : Kd α} {Q : α → Prop} (ht : P.underlying t = some (.slice e)) (hc : P.cellsOf e = d.sz) (h : Opens P e d Q) :
    Opens P t (Kd.slice e d) (fun xs => (∀ x ∈ xs, Q x) ∧ xs.length ≤ maxLen) := by
  intro H enc w fuel cs y hy
  rcases DataW.trod_slice ht hy with ⟨rfl, _⟩ | ⟨a, len, cap, elems, rest, n, _, rfl, _, _, hl, hm, hlen, hel, _, _⟩
  · exact ⟨[], ⟨none, 0, rfl, Nat.le_refl _, rfl, by simp, fun h0 => absurd h0 (by simp)⟩, by simp, by simp⟩
  · obtain ⟨xs, hxl, hx⟩ := list_of len (fun i x => (∃ c, c.length = d.sz ∧ d.K w x c ∧ ∀ j u, c[j]? = some u → w.cell? (a.add (i * d.sz + j)) = some u) ∧ Q x) (fun i hi => by
      have h1 := hel i hi
      rw [List.getElem?_eq_getElem (by omega), Option.bind_eq_some_iff] at h1
      obtain ⟨c, hcs, hty⟩ := h1
      obtain ⟨x, hk, hq⟩ := h hty
      obtain ⟨_, hcl, hcell⟩ := World.cells?_some hcs
      refine ⟨x, ⟨c, d.K_len hk, hk, fun j u hu => ?_⟩, hq⟩
      have hj : j < c.length := (List.getElem?_eq_some_iff.1 hu).1
      rw [← hu, ← hcell j (by omega), Go.Deep.add_add, hc])
    subst hxl
    refine ⟨xs, ⟨some a, cap, rfl, hl, rfl, ?_, fun _ => ⟨a, rfl, fun j p hp => (hx j p hp).1⟩⟩, ?_, Nat.le_trans hl hm⟩
    · unfold maxLen at hm
      omega
    · intro x hxm
      obtain ⟨i, hi⟩ := List.getElem?_of_mem hxm
      exact (hx i x hi).2
section
variable {α0 α1 α2 α3 α4 α5 β : Type} {d0 : Kd α0} {d1 : Kd α1} {d2 : Kd α2} {d3 : Kd α3} {d4 : Kd α4} {d5 : Kd α5} {Q0 : α0 → Prop} {Q1 : α1 → Prop} {Q2 : α2 → Prop} {Q3 : α3 → Prop} {Q4 : α4 → Prop} {Q5 : α5 → Prop}
theorem field_at {H : Type} {enc : TypeId × Value → H} {w : World} {fs : Array Field} {n : Nat} {cs : List Value} {xs : List (DataW H × List MemPlace)} (hone : oneCellFields P fs = true)
    (hl : cs.length = fs.size) (hxl : xs.length = fs.size) (hf : ∀ (i : Nat) (f : Field), fs[i]? = some f → DataW.trod enc P w 0 (fun _ => true) true n f.type ((cs.drop f.offset).take (P.cellsOf f.type)) = xs[i]?)
    (j : Nat) (f : Field) (hj : fs[j]? = some f) : ∃ (v : Value) (y : DataW H × List MemPlace), cs[j]? = some v ∧ DataW.trod enc P w 0 (fun _ => true) true n f.type [v] = some y := by
  obtain ⟨ho, hk⟩ := hone_of hone j f hj
  have hjl : j < fs.size := (Array.getElem?_eq_some_iff.1 hj).1
  have h1 := hf j f hj
  rw [ho, hk] at h1
  have e : (cs.drop j).take 1 = [cs[j]'(by omega)] := by
    rw [List.drop_eq_getElem_cons (by omega)]
    rfl
  rw [e, List.getElem?_eq_getElem (by omega)] at h1
  exact ⟨_, _, List.getElem?_eq_getElem (by omega), h1⟩
theorem opens_struct2 {t : TypeId} {f0 f1 : Field} (ht : P.underlying t = some (.struct #[f0, f1])) (hone : oneCellFields P #[f0, f1] = true) (hC : P.cellsOf t = 2)
    (h0 : Opens P f0.type d0 Q0) (h1 : Opens P f1.type d1 Q1) (f : β → α0 × α1) (g : α0 × α1 → β) (hfg : ∀ x, f (g x) = x) :
    Opens P t (Kd.iso (Kd.pair d0 d1) f) (fun x => Q0 (f x).1 ∧ Q1 (f x).2) := by
  intro H enc w fuel cs y hy
  obtain ⟨ys, n, _, _, hl, hyl, hf⟩ := DataW.trod_struct ht hy
  rw [hC] at hl
  obtain ⟨v0, y0, c0, t0⟩ := field_at hone hl hyl hf 0 f0 rfl
  obtain ⟨v1, y1, c1, t1⟩ := field_at hone hl hyl hf 1 f1 rfl
  obtain ⟨x0, k0, q0⟩ := h0 t0
  obtain ⟨x1, k1, q1⟩ := h1 t1
  match cs, hl with
  | [a0, a1], _ =>
    simp at c0 c1
    subst c0 c1
    exact ⟨g (x0, x1), by show (Kd.pair d0 d1).K w (f (g (x0, x1))) _; rw [hfg]; exact ⟨[a0], [a1], rfl, k0, k1⟩, by simp only [hfg]; exact ⟨q0, q1⟩⟩
theorem opens_struct3 {t : TypeId} {f0 f1 f2 : Field} (ht : P.underlying t = some (.struct #[f0, f1, f2])) (hone : oneCellFields P #[f0, f1, f2] = true) (hC : P.cellsOf t = 3)
    (h0 : Opens P f0.type d0 Q0) (h1 : Opens P f1.type d1 Q1) (h2 : Opens P f2.type d2 Q2) (f : β → α0 × α1 × α2) (g : α0 × α1 × α2 → β) (hfg : ∀ x, f (g x) = x) :
    Opens P t (Kd.iso (Kd.pair d0 (Kd.pair d1 d2)) f) (fun x => Q0 (f x).1 ∧ Q1 (f x).2.1 ∧ Q2 (f x).2.2) := by
  intro H enc w fuel cs y hy
  obtain ⟨ys, n, _, _, hl, hyl, hf⟩ := DataW.trod_struct ht hy
  rw [hC] at hl
  obtain ⟨v0, y0, c0, t0⟩ := field_at hone hl hyl hf 0 f0 rfl
  obtain ⟨v1, y1, c1, t1⟩ := field_at hone hl hyl hf 1 f1 rfl
  obtain ⟨v2, y2, c2, t2⟩ := field_at hone hl hyl hf 2 f2 rfl
  obtain ⟨x0, k0, q0⟩ := h0 t0
  obtain ⟨x1, k1, q1⟩ := h1 t1
  obtain ⟨x2, k2, q2⟩ := h2 t2
  match cs, hl with
  | [a0, a1, a2], _ =>
    simp at c0 c1 c2
    subst c0 c1 c2
    exact ⟨g (x0, x1, x2), by show (Kd.pair d0 (Kd.pair d1 d2)).K w (f (g (x0, x1, x2))) _; rw [hfg]; exact ⟨[a0], [a1, a2], rfl, k0, [a1], [a2], rfl, k1, k2⟩, by simp only [hfg]; exact ⟨q0, q1, q2⟩⟩
theorem opens_struct4 {t : TypeId} {f0 f1 f2 f3 : Field} (ht : P.underlying t = some (.struct #[f0, f1, f2, f3])) (hone : oneCellFields P #[f0, f1, f2, f3] = true) (hC : P.cellsOf t = 4)
    (h0 : Opens P f0.type d0 Q0) (h1 : Opens P f1.type d1 Q1) (h2 : Opens P f2.type d2 Q2) (h3 : Opens P f3.type d3 Q3) (f : β → α0 × α1 × α2 × α3) (g : α0 × α1 × α2 × α3 → β) (hfg : ∀ x, f (g x) = x) :
    Opens P t (Kd.iso (Kd.pair d0 (Kd.pair d1 (Kd.pair d2 d3))) f) (fun x => Q0 (f x).1 ∧ Q1 (f x).2.1 ∧ Q2 (f x).2.2.1 ∧ Q3 (f x).2.2.2) := by
  intro H enc w fuel cs y hy
  obtain ⟨ys, n, _, _, hl, hyl, hf⟩ := DataW.trod_struct ht hy
  rw [hC] at hl
  obtain ⟨v0, y0, c0, t0⟩ := field_at hone hl hyl hf 0 f0 rfl
  obtain ⟨v1, y1, c1, t1⟩ := field_at hone hl hyl hf 1 f1 rfl
  obtain ⟨v2, y2, c2, t2⟩ := field_at hone hl hyl hf 2 f2 rfl
  obtain ⟨v3, y3, c3, t3⟩ := field_at hone hl hyl hf 3 f3 rfl
  obtain ⟨x0, k0, q0⟩ := h0 t0
  obtain ⟨x1, k1, q1⟩ := h1 t1
  obtain ⟨x2, k2, q2⟩ := h2 t2
  obtain ⟨x3, k3, q3⟩ := h3 t3
  match cs, hl with
  | [a0, a1, a2, a3], _ =>
    simp at c0 c1 c2 c3
    subst c0 c1 c2 c3
    exact ⟨g (x0, x1, x2, x3), by show (Kd.pair d0 (Kd.pair d1 (Kd.pair d2 d3))).K w (f (g (x0, x1, x2, x3))) _; rw [hfg]; exact ⟨[a0], [a1, a2, a3], rfl, k0, [a1], [a2, a3], rfl, k1, [a2], [a3], rfl, k2, k3⟩, by simp only [hfg]; exact ⟨q0, q1, q2, q3⟩⟩
theorem opens_struct6 {t : TypeId} {f0 f1 f2 f3 f4 f5 : Field} (ht : P.underlying t = some (.struct #[f0, f1, f2, f3, f4, f5])) (hone : oneCellFields P #[f0, f1, f2, f3, f4, f5] = true) (hC : P.cellsOf t = 6)
    (h0 : Opens P f0.type d0 Q0) (h1 : Opens P f1.type d1 Q1) (h2 : Opens P f2.type d2 Q2) (h3 : Opens P f3.type d3 Q3) (h4 : Opens P f4.type d4 Q4) (h5 : Opens P f5.type d5 Q5)
    (f : β → α0 × α1 × α2 × α3 × α4 × α5) (g : α0 × α1 × α2 × α3 × α4 × α5 → β) (hfg : ∀ x, f (g x) = x) :
    Opens P t (Kd.iso (Kd.pair d0 (Kd.pair d1 (Kd.pair d2 (Kd.pair d3 (Kd.pair d4 d5))))) f) (fun x => Q0 (f x).1 ∧ Q1 (f x).2.1 ∧ Q2 (f x).2.2.1 ∧ Q3 (f x).2.2.2.1 ∧ Q4 (f x).2.2.2.2.1 ∧ Q5 (f x).2.2.2.2.2) := by
  intro H enc w fuel cs y hy
  obtain ⟨ys, n, _, _, hl, hyl, hf⟩ := DataW.trod_struct ht hy
  rw [hC] at hl
  obtain ⟨v0, y0, c0, t0⟩ := field_at hone hl hyl hf 0 f0 rfl
  obtain ⟨v1, y1, c1, t1⟩ := field_at hone hl hyl hf 1 f1 rfl
  obtain ⟨v2, y2, c2, t2⟩ := field_at hone hl hyl hf 2 f2 rfl
  obtain ⟨v3, y3, c3, t3⟩ := field_at hone hl hyl hf 3 f3 rfl
  obtain ⟨v4, y4, c4, t4⟩ := field_at hone hl hyl hf 4 f4 rfl
  obtain ⟨v5, y5, c5, t5⟩ := field_at hone hl hyl hf 5 f5 rfl
  obtain ⟨x0, k0, q0⟩ := h0 t0
  obtain ⟨x1, k1, q1⟩ := h1 t1
  obtain ⟨x2, k2, q2⟩ := h2 t2
  obtain ⟨x3, k3, q3⟩ := h3 t3
  obtain ⟨x4, k4, q4⟩ := h4 t4
  obtain ⟨x5, k5, q5⟩ := h5 t5
  match cs, hl with
  | [a0, a1, a2, a3, a4, a5], _ =>
    simp at c0 c1 c2 c3 c4 c5
    subst c0 c1 c2 c3 c4 c5
    exact ⟨g (x0, x1, x2, x3, x4, x5), by show (Kd.pair d0 (Kd.pair d1 (Kd.pair d2 (Kd.pair d3 (Kd.pair d4 d5))))).K w (f (g (x0, x1, x2, x3, x4, x5))) _; rw [hfg]; exact ⟨[a0], [a1, a2, a3, a4, a5], rfl, k0, [a1], [a2, a3, a4, a5], rfl, k1, [a2], [a3, a4, a5], rfl, k2, [a3], [a4, a5], rfl, k3, [a4], [a5], rfl, k4, k5⟩, by simp only [hfg]; exact ⟨q0, q1, q2, q3, q4, q5⟩⟩
end
section
variable {H : Type} {enc : TypeId × Value → H} {W : World} {r : Reach} {b0 : Nat} {v : Value} {dd : DataW H} {p : List MemPlace} {α : Type} {d : Kd α} {Q : α → Prop}
theorem arg_slice {t e : TypeId} (ht : P.underlying t = some (.slice e)) (hv : Value.okWide P W r b0 t v) (hd : DataW.Trod enc P W 0 (fun _ => true) true t v dd p) {QL : List α → Prop} (h : Opens P t (Kd.slice e d) QL) :
    ∃ (A : Option Addr) (c : Nat) (xs : List α), v = .slice A xs.length c ∧ xs.length ≤ c ∧ d.C W A xs.length xs ∧ QL xs := by
  obtain ⟨a, len, cap, rfl⟩ := okWide_slice ht hv
  obtain ⟨fuel, hf⟩ := hd
  obtain ⟨xs, ⟨A, c, e, hl, hC⟩, hq⟩ := h hf
  simp [Value.cells] at e
  obtain ⟨rfl, rfl, rfl⟩ := e
  exact ⟨_, _, xs, rfl, hl, hC, hq⟩
theorem arg_struct {t : TypeId} {fs : Array Field} (ht : P.underlying t = some (.struct fs)) (hv : Value.okWide P W r b0 t v) (hd : DataW.Trod enc P W 0 (fun _ => true) true t v dd p) (h : Opens P t d Q) :
    ∃ (cs : List Value) (x : α), v = .agg cs.toArray ∧ d.K W x cs ∧ Q x := by
  obtain ⟨cs, rfl, _⟩ := okWide_struct ht hv
  obtain ⟨fuel, hf⟩ := hd
  obtain ⟨x, hk, hq⟩ := h hf
  exact ⟨cs.toList, x, by simp, by simpa [Value.cells] using hk, hq⟩
end
theorem trod_after {H : Type} {enc : TypeId × Value → H} {t : TypeId} {W W' : World} {v : Value} {dd : DataW H} {ps : List MemPlace} (hl : laidOutB P = true) (hr : P.readableRec t = true) (hrow : t < P.types.size)
    (h : DataW.Trod enc P W 0 (fun _ => true) true t v dd ps) (hb : Below W.heap.size W W') : DataW.Trod enc P W' 0 (fun b => decide (b < W.heap.size)) true t v dd ps := by
  obtain ⟨f, hf⟩ := h
  exact Below.trod hl hr hrow ⟨f, hf⟩ hb (DataW.trod_lt f _ _ _ hf)
end
end Go.Proofs.Ythcohkgpbjcliaa.Open
namespace Go.Proofs.Ythcohkgpbjcliaa.Open
open Go.ChangeShapes Go.WideShapes Go.ChangeAt Go.RowKit Go.Deep
open Go.Proofs.YthcohkgpbjcliaaW.PrintWords Go.Proofs.YthcohkgpbjcliaaW.PrintMore
def OpensZ {α : Type} (P : Program) (t : TypeId) (d : Kd α) (Q : α → Prop) : Prop :=
  ∀ {H : Type} {enc : TypeId × Value → H} {w : World} {fuel : Nat} {cs : List Value} {y : DataW H × List MemPlace},
    DataW.trod enc P w 0 (fun _ => true) true fuel t cs = some y → (∀ n ∈ y.1.weights P t, n ≤ reachBytes) → ∃ x, d.K w x cs ∧ Q x
section
variable {P : Program}
theorem OpensZ.of {α : Type} {t : TypeId} {d : Kd α} {Q : α → Prop} (h : Opens P t d Q) : OpensZ P t d Q := fun hy _ => h hy
theorem opensZ_slice {α : Type} {t e : TypeId} {d : Kd α} {Q : α → Prop} {B : Nat} (ht : P.underlying t = some (.slice e)) (hc : P.cellsOf e = d.sz) (hB : P.bytesOf e = B) (h : Opens P e d Q) :
    OpensZ P t (Kd.slice e d) (fun xs => ((∀ x ∈ xs, Q x) ∧ xs.length ≤ maxLen) ∧ xs.length * B ≤ 140737488351232) := by
  intro H enc w fuel cs y hy hz
  obtain ⟨xs, hk, hq⟩ := opens_slice ht hc h hy
  refine ⟨xs, hk, hq, ?_⟩
  obtain ⟨A, c, e0, hl, hC⟩ := hk
  rcases DataW.trod_slice ht hy with ⟨rfl, _⟩ | ⟨a, len, cap, elems, rest, n, _, rfl, rfl, _, _, hm, hlen, _, _, _⟩
  · simp at e0
    have : xs.length = 0 := e0.2.1.symm
    simp [this]
  · simp at e0
    obtain ⟨_, e1, _⟩ := e0
    have := hz ((elems.length + rest.length) * P.bytesOf e) (by simp [DataW.weights, ht])
    rw [hB] at this
    have hr : reachBytes = 140737488351232 := by decide
    have h2 : xs.length * B ≤ (elems.length + rest.length) * B := Nat.mul_le_mul_right _ (by omega)
    omega
theorem opensZ_struct2 {α0 α1 β : Type} {d0 : Kd α0} {d1 : Kd α1} {Q0 : α0 → Prop} {Q1 : α1 → Prop} {t : TypeId} {f0 f1 : Field} (ht : P.underlying t = some (.struct #[f0, f1])) (hone : oneCellFields P #[f0, f1] = true) (hC : P.cellsOf t = 2)
    (h0 : OpensZ P f0.type d0 Q0) (h1 : OpensZ P f1.type d1 Q1) (f : β → α0 × α1) (g : α0 × α1 → β) (hfg : ∀ x, f (g x) = x) :
    OpensZ P t (Kd.iso (Kd.pair d0 d1) f) (fun x => Q0 (f x).1 ∧ Q1 (f x).2) := by
  intro H enc w fuel cs y hy hz
  obtain ⟨ys, n, _, rfl, hl, hyl, hf⟩ := DataW.trod_struct ht hy
  rw [hC] at hl
  obtain ⟨v0, y0, c0, t0⟩ := field_at hone hl hyl hf 0 f0 rfl
  obtain ⟨v1, y1, c1, t1⟩ := field_at hone hl hyl hf 1 f1 rfl
  have hw : (DataW.agg (ys.map (·.1))).weights P t = DataW.weightsEach P [f0.type, f1.type] (ys.map (·.1)) := by simp [DataW.weights, ht]
  rw [hw] at hz
  have e0 : ys[0]? = some y0 := by
    have h2 := hf 0 f0 rfl
    obtain ⟨ho, hk⟩ := hone_of hone 0 f0 rfl
    rw [ho, hk, show (cs.drop 0).take 1 = [v0] by match cs, hl with | [a0, a1], _ => simp at c0; subst c0; rfl, t0] at h2
    exact h2.symm
  have e1 : ys[1]? = some y1 := by
    have h2 := hf 1 f1 rfl
    obtain ⟨ho, hk⟩ := hone_of hone 1 f1 rfl
    rw [ho, hk, show (cs.drop 1).take 1 = [v1] by match cs, hl with | [a0, a1], _ => simp at c1; subst c1; rfl, t1] at h2
    exact h2.symm
  obtain ⟨x0, k0, q0⟩ := h0 t0 (fun n hn => hz n (DataW.weights_mem_each (j := 0) rfl (by simp [e0]) n hn))
  obtain ⟨x1, k1, q1⟩ := h1 t1 (fun n hn => hz n (DataW.weights_mem_each (j := 1) rfl (by simp [e1]) n hn))
  match cs, hl with
  | [a0, a1], _ =>
    simp at c0 c1
    subst c0 c1
    exact ⟨g (x0, x1), by show (Kd.pair d0 d1).K w (f (g (x0, x1))) _; rw [hfg]; exact ⟨[a0], [a1], rfl, k0, k1⟩, by simp only [hfg]; exact ⟨q0, q1⟩⟩
section
variable {H : Type} {enc : TypeId × Value → H} {W : World} {r : Reach} {b0 : Nat} {v : Value} {dd : DataW H} {p : List MemPlace} {α : Type} {d : Kd α} {Q : α → Prop}
theorem argZ_struct {t : TypeId} {fs : Array Field} (ht : P.underlying t = some (.struct fs)) (hv : Value.okWide P W r b0 t v) (hd : DataW.Trod enc P W 0 (fun _ => true) true t v dd p) (h : OpensZ P t d Q)
    {ts : List TypeId} {ds : List (DataW H)} {j : Nat} (hsz : (DataW.weightsEach P ts ds).all (· ≤ reachBytes) = true) (htj : ts[j]? = some t) (hdj : ds[j]? = some dd) :
    ∃ (cs : List Value) (x : α), v = .agg cs.toArray ∧ d.K W x cs ∧ Q x := by
  obtain ⟨cs, rfl, _⟩ := okWide_struct ht hv
  obtain ⟨fuel, hf⟩ := hd
  obtain ⟨x, hk, hq⟩ := h hf (fun n hn => by
    have := List.all_eq_true.1 hsz n (DataW.weights_mem_each htj hdj n hn)
    simpa using this)
  exact ⟨cs.toList, x, by simp, by simpa [Value.cells] using hk, hq⟩
end
end
end Go.Proofs.Ythcohkgpbjcliaa.Open
namespace Go.Proofs.Ythcohkgpbjcliaa.F
open Go.RowKit Go.Proofs.YthcohkgpbjcliaaW.PrintWords Go.Proofs.YthcohkgpbjcliaaW.PrintLast Go.Proofs.YthcohkgpbjcliaaW.PrintMore
attribute [local go_sem] max2_int min2_int max_two min_two max_three min_three max_four min_four
set_option linter.unusedVariables false
set_option linter.unusedSimpArgs false
end Go.Proofs.Ythcohkgpbjcliaa.F
namespace Go.Proofs.Ythcohkgpbjcliaa.F
open Go.RowKit Go.Proofs.YthcohkgpbjcliaaW.PrintWords Go.Proofs.YthcohkgpbjcliaaW.PrintLast Go.Proofs.YthcohkgpbjcliaaW.PrintMore
attribute [local go_sem] max2_int min2_int max_two min_two max_three min_three max_four min_four
set_option linter.unusedVariables false
set_option linter.unusedSimpArgs false
end Go.Proofs.Ythcohkgpbjcliaa.F
namespace Go.Proofs.Ythcohkgpbjcliaa.Pl
open Go.RowKit Go.Proofs.Ythcohkgpbjcliaa.F Go.Proofs.YthcohkgpbjcliaaW.PrintWords Go.Proofs.YthcohkgpbjcliaaW.PrintLast Go.Proofs.YthcohkgpbjcliaaW.PrintMore
set_option linter.unusedVariables false
set_option linter.unusedSimpArgs false
abbrev Wr := F.S83
def datas (l : List ByteArray) : List UInt8 := (l.map (·.data.toList)).flatten
theorem joinB_eq (l : List ByteArray) : joinB l ⟨#[]⟩ = B (datas l) := by
  show (⟨(Lib.join (l.map (·.data.toList)) []).toArray⟩ : ByteArray) = _
  rw [joinB_nil]
  rfl
theorem datas_length (l : List ByteArray) (h : ∀ s ∈ l, s.size = 32) : (datas l).length = 32 * l.length := flatten_size l h
theorem right_iff (S : List ByteArray) (W : List Wr) : disk_right S W = true ↔ 1 ≤ S.length ∧ S.length ≤ 512 ∧ (∀ s ∈ S, s.size = 32) ∧ ∀ x ∈ W, x.f1.size = 32 ∧ 0 ≤ x.f0 ∧ x.f0 < (S.length : Int) := by
  simp only [disk_right, Bool.and_eq_true, decide_eq_true_eq, Bool.not_eq_true', List.any_eq_false, wBad, Bool.or_eq_true, not_or, bne_iff_ne, ne_eq, Decidable.not_not]
  constructor
  · rintro ⟨⟨⟨a, b⟩, c⟩, d⟩
    refine ⟨a, b, c, fun x hx => ?_⟩
    obtain ⟨h1, h2⟩ := d x hx
    refine ⟨h1, ?_⟩
    simpa using h2
  · rintro ⟨a, b, c, d⟩
    refine ⟨⟨⟨a, b⟩, c⟩, fun x hx => ?_⟩
    obtain ⟨h1, h2, h3⟩ := d x hx
    refine ⟨h1, ?_⟩
    simp [h2, h3]
theorem there_iff (N : Nat) (a n : Int) : thereB N a n = true ↔ 0 ≤ n ∧ n ≤ N ∧ 0 ≤ a ∧ a ≤ N - n := by
  simp [thereB, and_assoc]
theorem fit_of {S : List ByteArray} {W : List Wr} (hS : S.length ≤ 100000) (hW : W.length ≤ 100000) : disk_fit S W = true := by
  simp [disk_fit]
  omega
theorem zero32_size : zero32.size = 32 := by decide
theorem lasting_right {S : List ByteArray} {W : List Wr} (h : disk_right S W = true) (kept : Nat → Bool) : lastingW kept S W = (applyW kept 0 W S, []) := by simp [lastingW, h]
theorem Read_ok {S : List ByteArray} {W : List Wr} (hf : disk_fit S W = true) (h : disk_right S W = true) {a n : Int} (ht : thereB S.length a n = true) :
    disk_Read.f S W a n = some (B (datas (((applyW (fun _ => true) 0 W S).take (a + n).toNat).drop a.toNat)), 0) := by
  unfold disk_Read.f
  rw [if_pos hf, if_pos (by rw [h, ht]; rfl), readB, joinB_eq, lasting_right h]
theorem Read_bad {S : List ByteArray} {W : List Wr} (hf : disk_fit S W = true) {a n : Int} (h : (disk_right S W && thereB S.length a n) = false) : disk_Read.f S W a n = some (⟨#[]⟩, 1) := by
  unfold disk_Read.f
  rw [if_pos hf, h, if_neg (by decide)]
theorem Put_ok {S : List ByteArray} {W : List Wr} (hf : disk_fit S W = true) (h : disk_right S W = true) {a : Int} {T : List ByteArray} (ht : thereB S.length a (T.length : Int) = true) (hT : ∀ t ∈ T, t.size = 32) :
    disk_Put.f S W a T = some (S, W ++ putW a T, 0) := by
  unfold disk_Put.f
  have : (T.any fun s => s.size != 32) = false := by
    rw [List.any_eq_false]
    intro t ht
    simp [hT t ht]
  rw [if_pos hf, if_pos (by rw [h, ht, this]; rfl)]
theorem Put_bad {S : List ByteArray} {W : List Wr} (hf : disk_fit S W = true) {a : Int} {T : List ByteArray} (h : (disk_right S W && thereB S.length a (T.length : Int) && !(T.any fun s => s.size != 32)) = false) :
    disk_Put.f S W a T = some (S, W, 1) := by
  unfold disk_Put.f
  rw [if_pos hf, h, if_neg (by decide)]
theorem new_right {n : Nat} (h1 : 1 ≤ n) (h2 : n ≤ 512) : disk_right (List.replicate n zero32) [] = true := by
  rw [right_iff]
  refine ⟨by simpa using h1, by simpa using h2, fun s hs => by rw [(List.mem_replicate.1 hs).2]; exact zero32_size, fun x hx => by cases hx⟩
end Go.Proofs.Ythcohkgpbjcliaa.Pl
namespace Go.Proofs.Ythcohkgpbjcliaa.Pl
open Go.RowKit Go.Proofs.Ythcohkgpbjcliaa.F Go.Proofs.YthcohkgpbjcliaaW.PrintWords Go.Proofs.YthcohkgpbjcliaaW.PrintLast Go.Proofs.YthcohkgpbjcliaaW.PrintMore
set_option linter.unusedVariables false
set_option linter.unusedSimpArgs false
abbrev alw : Nat → Bool := fun _ => true
def ovr {α : Type} (a : Nat) (T S : List α) : List α := S.take a ++ T ++ S.drop (a + T.length)
theorem ovr_map {α β : Type} (f : α → β) (a : Nat) (T S : List α) : (ovr a T S).map f = ovr a (T.map f) (S.map f) := by
  simp only [ovr, List.map_append, List.map_take, List.map_drop, List.length_map]
theorem put_ovr : ∀ (T : List ByteArray) (a n : Nat) (S : List ByteArray), a + T.length ≤ S.length → applyW alw n (putW (a : Int) T) S = ovr a T S
  | [], a, n, S, h => by rw [putW, applyW, ovr, List.append_nil, List.length_nil, Nat.add_zero, List.take_append_drop]
  | t :: T, a, n, S, h => by
    rw [List.length_cons] at h
    have hs : S.set a t = S.take a ++ t :: S.drop (a + 1) := by rw [List.set_eq_take_append_cons_drop, if_pos (by omega)]
    have hl : (S.take a).length = a := by rw [List.length_take]; omega
    rw [putW, applyW, if_pos rfl, show ((a : Int) + 1) = ((a + 1 : Nat) : Int) by omega, Int.toNat_natCast, put_ovr T (a + 1) _ _ (by rw [List.length_set]; omega), hs, ovr, ovr, List.length_cons]
    have e1 : (S.take a ++ t :: S.drop (a + 1)).take (a + 1) = S.take a ++ [t] := by
      rw [List.take_append, hl, List.take_of_length_le (by omega), show a + 1 - a = 1 by omega]
      rfl
    have e2 : (S.take a ++ t :: S.drop (a + 1)).drop (a + 1 + T.length) = S.drop (a + (T.length + 1)) := by
      rw [List.drop_append, hl, List.drop_of_length_le (by omega), show a + 1 + T.length - a = T.length + 1 by omega, List.nil_append, List.drop_succ_cons, List.drop_drop]
      congr 1
      omega
    rw [e1, e2, List.append_assoc, List.append_assoc, List.append_assoc]
    rfl
theorem applyW_app (kept : Nat → Bool) : ∀ (W V : List Wr) (i : Nat) (S : List ByteArray), applyW kept i (W ++ V) S = applyW kept (i + W.length) V (applyW kept i W S)
  | [], V, i, S => rfl
  | x :: W, V, i, S => by
    rw [List.cons_append, applyW, applyW_app kept W, applyW, List.length_cons, show i + 1 + W.length = i + (W.length + 1) by omega]
theorem mem_put : ∀ (T : List ByteArray) (a : Int) (x : Wr), x ∈ putW a T → x.f1 ∈ T ∧ a ≤ x.f0 ∧ x.f0 < a + T.length
  | [], a, x, h => by cases h
  | t :: T, a, x, h => by
    rw [putW, List.mem_cons] at h
    rcases h with rfl | h
    · exact ⟨List.mem_cons_self, Int.le_refl _, by simp only [List.length_cons]; omega⟩
    · obtain ⟨h1, h2, h3⟩ := mem_put T (a + 1) x h
      exact ⟨List.mem_cons_of_mem _ h1, by omega, by simp only [List.length_cons]; omega⟩
structure Img (n : Nat) (S : List ByteArray) (W : List Wr) (I : List (List UInt8)) : Prop where
  few : W.length ≤ n
  right : disk_right S W = true
  img : applyW alw 0 W S = I.map B
theorem Img.len {n : Nat} {S : List ByteArray} {W : List Wr} {I : List (List UInt8)} (h : Img n S W I) : I.length = S.length := by
  rw [← applyW_length alw W 0 S, h.img, List.length_map]
theorem Img.le {n : Nat} {S : List ByteArray} {W : List Wr} {I : List (List UInt8)} (h : Img n S W I) : S.length ≤ 512 := ((right_iff S W).1 h.right).2.1
theorem Img.fit {n : Nat} {S : List ByteArray} {W : List Wr} {I : List (List UInt8)} (h : Img n S W I) (hn : n ≤ 100000) : disk_fit S W = true := fit_of (by have := h.le; omega) (by have := h.few; omega)
theorem Img.all32 {n : Nat} {S : List ByteArray} {W : List Wr} {I : List (List UInt8)} (h : Img n S W I) : ∀ s ∈ I, s.length = 32 := by
  obtain ⟨_, _, h3, h4⟩ := (right_iff S W).1 h.right
  intro s hs
  have := applyW_32 alw W 0 S (fun x hx => (h4 x hx).1) h3 (B s) (by rw [h.img]; exact List.mem_map_of_mem hs)
  rw [B_size] at this
  exact this
theorem Img.new : Img 0 (List.replicate 130 zero32) [] (List.replicate 130 (List.replicate 32 0)) := ⟨Nat.le_refl _, new_right (by omega) (by omega), by rw [List.map_replicate]; rfl⟩
theorem datas_B (I : List (List UInt8)) : datas (I.map B) = I.flatten := by
  rw [datas, List.map_map]
  congr 1
  conv => rhs; rw [← List.map_id I]
  exact List.map_congr_left (fun x _ => B_data x)
theorem Img.read {n : Nat} {S : List ByteArray} {W : List Wr} {I : List (List UInt8)} (h : Img n S W I) (hn : n ≤ 100000) (a m : Nat) (ha : a + m ≤ S.length) : disk_Read.f S W (a : Int) (m : Int) = some (B ((I.take (a + m)).drop a).flatten, 0) := by
  rw [Read_ok (h.fit hn) h.right ((there_iff _ _ _).2 ⟨by omega, by omega, by omega, by omega⟩), h.img, Int.toNat_natCast, show ((a : Int) + (m : Int)).toNat = a + m by omega, ← List.map_take, ← List.map_drop, datas_B]
theorem Img.put {n : Nat} {S : List ByteArray} {W : List Wr} {I : List (List UInt8)} (h : Img n S W I) (hn : n ≤ 100000) (a : Nat) (T : List (List UInt8)) (ha : a + T.length ≤ S.length) (hT : ∀ t ∈ T, t.length = 32) :
    disk_Put.f S W (a : Int) (T.map B) = some (S, W ++ putW (a : Int) (T.map B), 0) ∧ Img (n + T.length) S (W ++ putW (a : Int) (T.map B)) (ovr a T I) := by
  have hT2 : ∀ t ∈ T.map B, t.size = 32 := fun t ht => by
    obtain ⟨x, hx, rfl⟩ := List.mem_map.1 ht
    rw [B_size]
    exact hT x hx
  refine ⟨Put_ok (h.fit hn) h.right ((there_iff _ _ _).2 ⟨by omega, by rw [List.length_map]; omega, by omega, by rw [List.length_map]; omega⟩) hT2, ?_, ?_, ?_⟩
  · rw [List.length_append, putW_length, List.length_map]
    have := h.few
    omega
  · obtain ⟨h1, h2, h3, h4⟩ := (right_iff S W).1 h.right
    refine (right_iff S _).2 ⟨h1, h2, h3, fun x hx => ?_⟩
    rcases List.mem_append.1 hx with hx | hx
    · exact h4 x hx
    · obtain ⟨k1, k2, k3⟩ := mem_put _ _ _ hx
      rw [List.length_map] at k3
      exact ⟨hT2 _ k1, by omega, by omega⟩
  · rw [applyW_app, h.img, put_ovr _ _ _ _ (by rw [List.length_map, List.length_map, h.len]; omega), ← ovr_map]
end Go.Proofs.Ythcohkgpbjcliaa.Pl
namespace Go.Proofs.Ythcohkgpbjcliaa.Pl
open Go.RowKit Go.Proofs.Ythcohkgpbjcliaa.F Go.Proofs.YthcohkgpbjcliaaW.PrintWords Go.Proofs.YthcohkgpbjcliaaW.PrintLast Go.Proofs.YthcohkgpbjcliaaW.PrintMore
set_option linter.unusedVariables false
set_option linter.unusedSimpArgs false
theorem moreN_append : ∀ (a b : List UInt8) (s : Nat), moreN s (a ++ b) = moreN (moreN s a) b
  | [], b, s => rfl
  | c :: a, b, s => by rw [List.cons_append, moreN, moreN, moreN_append a b]
theorem moreN_lt : ∀ (l : List UInt8) (s : Nat), s < 16777216 → moreN s l < 16777216
  | [], s, h => h
  | c :: l, s, h => by
    rw [moreN]
    exact moreN_lt l _ (step_lt s c.toNat h c.toNat_lt).2
def sumN (l : List UInt8) : Nat := moreN 11994318 l
theorem more_eq (s : Nat) (hs : s < 16777216) (l : List UInt8) (hl : l.length ≤ 9000000000000) : check_More.f (s : Int) (B l) = some ((moreN s l : Nat) : Int) := by
  unfold check_More.f
  rw [if_pos ⟨by omega, by omega, by rw [B_size]; omega⟩, B_data]
  congr 3
  omega
theorem sum_eq (a b : List UInt8) (ha : a.length ≤ 9000000000000) (hb : b.length ≤ 9000000000000) (k : Nat) (hk : 5 ≤ k) : check_Sum.f k [B a, B b] = some ((sumN (a ++ b) : Nat) : Int) := by
  obtain ⟨k, rfl⟩ : ∃ j, k = j + 4 := ⟨k - 4, by omega⟩
  have h1 := moreN_lt a 11994318 (by decide)
  unfold check_Sum.f
  rw [check_Sum.l0, if_pos (by simp), if_pos (by omega), if_pos (by simp), show rdOf ByteArray.empty [B a, B b] 0 = B a from rfl, show (11994318 : Int) = ((11994318 : Nat) : Int) from rfl, more_eq _ (by decide) a ha, Option.bind_some, wrap64_in (by omega) (by omega),
    check_Sum.l0, if_pos (by simp), if_pos (by omega), if_pos (by simp), show rdOf ByteArray.empty [B a, B b] (0 + 1) = B b from rfl, more_eq _ h1 b hb, Option.bind_some, wrap64_in (by omega) (by omega), check_Sum.l0, if_neg (by simp), sumN, moreN_append]
def headB (t : List UInt8) : List UInt8 := be t.length 4 ++ be (sumN (be t.length 4 ++ t)) 3
theorem headB_length (t : List UInt8) : (headB t).length = 7 := by simp [headB, be_length]
theorem numR_in (n s : Nat) (h0 : 1 ≤ s) (h1 : s ≤ 8) (h : n < 256 ^ s) : numR n (s : Int) = (B (be n s), 0) := by
  unfold numR
  rw [if_pos ⟨by omega, by omega, by rw [Int.toNat_natCast]; exact h⟩, Int.toNat_natCast]
theorem heading_eq (t : List UInt8) (ht : t.length < 4294967296) (k : Nat) (hk : 14 ≤ k) : block_heading.f k (B t) = some (B (headB t)) := by
  have h1 := moreN_lt (be t.length 4 ++ t) 11994318 (by decide)
  have n1 : pack_Num.f k (t.length : Int) 4 = some (B (be t.length 4), 0) := (num_eq t.length (by omega) 4 (by decide) k (by omega)).trans (congrArg some (numR_in t.length 4 (by omega) (by omega) (by omega)))
  have n2 : pack_Num.f k ((sumN (be t.length 4 ++ t) : Nat) : Int) 3 = some (B (be (sumN (be t.length 4 ++ t)) 3), 0) := (num_eq _ (by unfold sumN; omega) 3 (by decide) k (by omega)).trans (congrArg some (numR_in _ 3 (by omega) (by omega) (by unfold sumN; omega)))
  unfold block_heading.f
  rw [B_size, u64_in (by omega) (by omega), n1, Option.bind_some]
  simp only
  rw [sum_eq _ t (by rw [be_length]; omega) (by omega) k (by omega), Option.bind_some, u64_in (by omega) (by unfold sumN; omega), n2, Option.bind_some]
  simp only
  rw [if_pos (by rw [B_size, B_size, be_length, be_length]; decide), B_append]
  rfl
def needB (n : Nat) : Nat := (n + 38) / 32
theorem bneed_eq (n : Nat) (h : n ≤ 65535) : block_Need.f (n : Int) = some ((needB n : Nat) : Int) := by
  unfold block_Need.f
  rw [if_neg (by omega), if_neg (by omega), wrap64_in (n := 7 + (n : Int)) (by omega) (by omega), wrap64_in (n := 7 + (n : Int) + 32) (by omega) (by omega), wrap64_in (n := 7 + (n : Int) + 32 - 1) (by omega) (by omega)]
  have : Int.tdiv (7 + (n : Int) + 32 - 1) 32 = ((needB n : Nat) : Int) := by
    rw [show 7 + (n : Int) + 32 - 1 = ((n + 38 : Nat) : Int) by omega, show (32 : Int) = ((32 : Nat) : Int) from rfl, ← Int.ofNat_tdiv]
    rfl
  rw [this, wrap64_in (by omega) (by unfold needB; omega)]
theorem cutB_B (l : List UInt8) (h : l.length ≤ 4398046511104) : block_Cut.f (B l) = some ((cutL l).map B) := by
  unfold block_Cut.f
  rw [if_pos (by rw [B_size]; exact h), cutB, B_data]
def secB (t : List UInt8) : List (List UInt8) := cutL (headB t ++ t)
theorem secB_length (t : List UInt8) : (secB t).length = needB t.length := by
  unfold secB needB
  rw [cutL_length _ _ (Nat.le_refl _), List.length_append, headB_length]
  congr 1
  omega
theorem secB_32 (t : List UInt8) : ∀ s ∈ secB t, s.length = 32 := cutL_32 _ _ (Nat.le_refl _)
theorem Img.write {n : Nat} {S : List ByteArray} {W : List Wr} {I : List (List UInt8)} (h : Img n S W I) (hn : n ≤ 100000) (a : Nat) (t : List UInt8) (ht : t.length ≤ 65535) (ha : a + needB t.length ≤ S.length) (k : Nat) (hk : 14 ≤ k) :
    block_Write.f k S W (a : Int) (B t) = some (S, W ++ putW (a : Int) ((secB t).map B), 0) ∧ Img (n + needB t.length) S (W ++ putW (a : Int) ((secB t).map B)) (ovr a (secB t) I) := by
  have hp := h.put hn a (secB t) (by rw [secB_length]; exact ha) (secB_32 t)
  rw [secB_length] at hp
  refine ⟨?_, hp.2⟩
  unfold block_Write.f
  rw [B_size, if_neg (by omega), heading_eq t (by omega) k hk, Option.bind_some, B_size, headB_length, if_pos (by omega), B_append, cutB_B _ (by rw [List.length_append, headB_length]; omega), Option.bind_some]
  show (disk_Put.f S W (a : Int) ((secB t).map B)).bind _ = _
  rw [hp.1, Option.bind_some]
  rfl
def readR (s : List UInt8) (n : Int) : ByteArray × Int :=
  if 4 ≤ s.length ∧ val (s.take 4) ≤ 65535 ∧ ((needB (val (s.take 4)) : Nat) : Int) = n then
    (if s = (secB ((s.drop 7).take (val (s.take 4)))).flatten then (B ((s.drop 7).take (val (s.take 4))), 0) else (B [], 4)) else (B [], 2)
theorem secB_flat (t : List UInt8) : (secB t).flatten = headB t ++ t ++ List.replicate (32 * needB t.length - (7 + t.length)) 0 := by
  unfold secB
  rw [cutL_text _ _ (Nat.le_refl _), List.length_append, headB_length]
  congr 3
  unfold needB
  omega
theorem flat32 : ∀ L : List (List UInt8), (∀ s ∈ L, s.length = 32) → L.flatten.length = 32 * L.length
  | [], _ => rfl
  | x :: r, hh => by rw [List.flatten_cons, List.length_append, flat32 r (fun s hs => hh s (List.mem_cons_of_mem _ hs)), hh x List.mem_cons_self, List.length_cons]; omega
theorem readB_eq (s : List UInt8) (n : Int) (hs : s.length ≤ 140737488351232) (h32 : s.length = 32 * n.toNat) (k : Nat) (hk : 16 ≤ k) (S : List ByteArray) (W : List Wr) (a : Int) (hr : disk_Read.f S W a n = some (B s, 0)) : block_Read.f k S W a n = some (readR s n) := by
  obtain ⟨k, rfl⟩ : ∃ j, k = j + 1 := ⟨k - 1, by omega⟩
  unfold block_Read.f readR
  rw [hr, Option.bind_some]
  simp only
  have ht : takeR s 4 = if s.length < 4 then (0, B [], 2) else (((val (s.take 4) : Nat) : Int), B (s.drop 4), 0) := by
    unfold takeR
    rw [if_pos (by decide)]
    rfl
  rw [if_pos trivial, take_eq s (by omega) 4 (k + 1) (by omega), Option.bind_some, ht]
  by_cases c1 : s.length < 4
  · rw [if_pos c1]
    simp only
    rw [if_neg (by decide), block_Read.j0, if_pos rfl, if_neg (by omega)]
    rfl
  · rw [if_neg c1]
    simp only
    have hv : val (s.take 4) < 4294967296 := by
      have := val_lt (s.take 4)
      rw [List.length_take, show min 4 s.length = 4 by omega] at this
      exact this
    rw [if_pos trivial]
    by_cases c2 : val (s.take 4) ≤ 65535
    · rw [if_neg (by omega), wrap64_in (by omega) (by omega), bneed_eq _ c2, Option.bind_some, block_Read.j0]
      by_cases c3 : ((needB (val (s.take 4)) : Nat) : Int) = n
      · have hb : 7 + val (s.take 4) ≤ s.length := by
          rw [h32, ← c3, Int.toNat_natCast]
          unfold needB
          omega
        have e1 : (B s).extract 7 (7 + val (s.take 4)) = B ((s.drop 7).take (val (s.take 4))) := by
          rw [B_extract]
          congr 1
          rw [List.drop_take]
          congr 1
          omega
        have hl : ((s.drop 7).take (val (s.take 4))).length = val (s.take 4) := by rw [List.length_take, List.length_drop]; omega
        rw [if_neg (by rw [bne_iff_ne]; exact fun h => h c3), wrap64_in (n := ((val (s.take 4) : Nat) : Int)) (by omega) (by omega), wrap64_in (by omega) (by omega), show (7 + ((val (s.take 4) : Nat) : Int)) = ((7 + val (s.take 4) : Nat) : Int) by omega, if_pos (by omega), if_pos (by rw [B_size]; omega), Int.toNat_natCast, e1, if_pos (show 4 ≤ s.length ∧ val (s.take 4) ≤ 65535 ∧ ((needB (val (s.take 4)) : Nat) : Int) = n from ⟨by omega, c2, c3⟩)]
        generalize (s.drop 7).take (val (s.take 4)) = t at hl ⊢
        have hj : strings_Join.f ((secB t).map B) ⟨#[]⟩ = some (B (secB t).flatten) := by
          have hx : joinB ((secB t).map B) ⟨#[]⟩ = B (secB t).flatten := by rw [joinB_eq, datas_B]
          have hfl := flat32 _ (secB_32 t)
          unfold strings_Join.f
          rw [hx, if_pos ⟨by rw [List.length_map, secB_length]; unfold needB; omega, by rw [B_size, hfl, secB_length]; unfold needB; omega⟩]
        rw [heading_eq t (by omega) k (by omega), Option.bind_some, B_size, B_size, headB_length, if_pos (by omega), B_append, cutB_B _ (by rw [List.length_append, headB_length]; omega), Option.bind_some]
        show ((strings_Join.f ((secB t).map B) ⟨#[]⟩).bind _) = _
        rw [hj, Option.bind_some, B_toList, B_toList]
        split <;> rfl
      · rw [if_pos (by rw [bne_iff_ne]; exact c3), if_neg (fun h => c3 h.2.2)]
        rfl
    · rw [if_pos (by omega), block_Read.j0, if_pos rfl, if_neg (fun h => c2 h.2.1)]
      rfl
theorem Img.bread {n : Nat} {S : List ByteArray} {W : List Wr} {I : List (List UInt8)} (h : Img n S W I) (hn : n ≤ 100000) (a m : Nat) (ha : a + m ≤ S.length) (k : Nat) (hk : 16 ≤ k) :
    block_Read.f k S W (a : Int) (m : Int) = some (readR ((I.take (a + m)).drop a).flatten (m : Int)) := by
  have hl := h.len
  have h5 := h.le
  have h32 := flat32 ((I.take (a + m)).drop a) (fun s hs => h.all32 s (List.mem_of_mem_take (List.mem_of_mem_drop hs)))
  rw [List.length_drop, List.length_take, show min (a + m) I.length - a = m by omega] at h32
  exact readB_eq _ _ (by omega) (by rw [Int.toNat_natCast]; exact h32) k hk S W _ (h.read hn a m ha)
theorem Img.of {S : List ByteArray} {W : List Wr} (h : disk_right S W = true) : Img W.length S W ((applyW alw 0 W S).map (·.data.toList)) :=
  ⟨Nat.le_refl _, h, by
    rw [List.map_map]
    conv => lhs; rw [← List.map_id (applyW alw 0 W S)]
    exact List.map_congr_left (fun x _ => B_of x)⟩
end Go.Proofs.Ythcohkgpbjcliaa.Pl
namespace Go.Proofs.Ythcohkgpbjcliaa.Pl
open Go.RowKit Go.Proofs.Ythcohkgpbjcliaa.F Go.Proofs.YthcohkgpbjcliaaW.PrintWords Go.Proofs.YthcohkgpbjcliaaW.PrintLast Go.Proofs.YthcohkgpbjcliaaW.PrintMore
set_option linter.unusedVariables false
set_option linter.unusedSimpArgs false
def rootT (g a m : Nat) : List UInt8 := be g 4 ++ be a 4 ++ be m 4
theorem rootT_length (g a m : Nat) : (rootT g a m).length = 12 := by simp [rootT, be_length]
theorem root_right (a b c : Int) : root_Right.f a b c = some (decide ((0 ≤ a ∧ a ≤ 2147483647) ∧ (0 ≤ b ∧ b ≤ 2147483647) ∧ (0 ≤ c ∧ c ≤ 2147483647))) := by
  have hf : ∀ x : Int, root_fits.f x = some (decide (0 ≤ x ∧ x ≤ 2147483647)) := fun x => by
    unfold root_fits.f
    by_cases c : x ≥ 0
    · rw [if_pos c]
      congr 1
      rw [decide_eq_decide]
      omega
    · rw [if_neg c]
      congr 1
      symm
      rw [decide_eq_false_iff_not]
      omega
  unfold root_Right.f
  rw [hf, hf, hf]
  by_cases h1 : 0 ≤ a ∧ a ≤ 2147483647 <;> by_cases h2 : 0 ≤ b ∧ b ≤ 2147483647 <;> simp [h1, h2]
theorem root_text (g a m : Nat) (hg : g ≤ 2147483647) (ha : a ≤ 2147483647) (hm : m ≤ 2147483647) (k : Nat) (hk : 30 ≤ k) (S : List ByteArray) (W : List Wr) :
    root_Write.l0 k (⟨#[]⟩ : ByteArray) [(g : Int), (a : Int), (m : Int)] (([(g : Int), (a : Int), (m : Int)] : List Int).length : Int) 0 S W (g : Int) (a : Int) (m : Int) = (block_Write.f (k - 4) S W (Int.tmod (g : Int) 2) (B (rootT g a m))).bind fun bt167 => (some (bt167.1, bt167.2.1, bt167.2.2)) := by
  obtain ⟨k, rfl⟩ : ∃ j, k = j + 4 := ⟨k - 4, by omega⟩
  have n : ∀ (x j : Nat), x ≤ 2147483647 → 14 ≤ j → pack_Num.f j (x : Int) 4 = some (B (be x 4), 0) := fun x j hx hj => (num_eq x (by omega) 4 (by decide) j (by omega)).trans (congrArg some (numR_in x 4 (by omega) (by omega) (by omega)))
  have e1 : wrap64 (0 + 1) = 1 := wrap64_in (by decide) (by decide)
  have e2 : wrap64 (1 + 1) = 2 := wrap64_in (by decide) (by decide)
  have e3 : wrap64 (2 + 1) = 3 := wrap64_in (by decide) (by decide)
  rw [root_Write.l0, if_pos (by simp), if_pos (by omega), if_pos (by simp), show rd [(g : Int), (a : Int), (m : Int)] 0 = (g : Int) from rfl, u64_in (by omega) (by omega), n g _ hg (by omega), Option.bind_some, B_nil]
  simp only
  rw [if_pos (by rw [B_size, B_size, be_length]; decide), B_append, List.nil_append, e1,
    root_Write.l0, if_pos (by simp), if_pos (by omega), if_pos (by simp), show rd [(g : Int), (a : Int), (m : Int)] 1 = (a : Int) from rfl, u64_in (by omega) (by omega), n a _ ha (by omega), Option.bind_some]
  simp only
  rw [if_pos (by rw [B_size, B_size, be_length, be_length]; decide), B_append, e2,
    root_Write.l0, if_pos (by simp), if_pos (by omega), if_pos (by simp), show rd [(g : Int), (a : Int), (m : Int)] 2 = (m : Int) from rfl, u64_in (by omega) (by omega), n m _ hm (by omega), Option.bind_some]
  simp only
  rw [if_pos (by rw [B_size, B_size, List.length_append, be_length, be_length, be_length]; decide), B_append, e3, root_Write.l0, if_neg (by simp)]
  rfl
theorem tmod2 (g : Nat) : Int.tmod (g : Int) 2 = ((g % 2 : Nat) : Int) := by
  rw [Int.tmod_eq_emod_of_nonneg (by omega)]
  omega
def rootS (s : List UInt8) (a : Int) : Int × Int × Int × Bool := rootR (readR s 1).1 (readR s 1).2 a
theorem readR_size (s : List UInt8) (n : Int) (h : s.length ≤ 9000000000000) : (readR s n).1.size ≤ 9000000000000 := by
  unfold readR
  split
  · split
    · rw [B_size, List.length_take, List.length_drop]; omega
    · rw [B_size]; simp
  · rw [B_size]; simp
theorem flatten_one (F : List (List UInt8)) (i : Nat) (h : i < F.length) : ((F.take (i + 1)).drop i).flatten = F[i] := by
  rw [List.take_succ_eq_append_getElem h, List.drop_append_of_le_length (by rw [List.length_take]; omega), List.drop_of_length_le (by rw [List.length_take]; omega), List.nil_append, List.flatten_singleton]
theorem Img.rread {n : Nat} {S : List ByteArray} {W : List Wr} {I : List (List UInt8)} (h : Img n S W I) (hn : n ≤ 100000) (a : Nat) (ha : a < I.length) : root_Read.f S W (a : Int) = some (rootS I[a] (a : Int)) := by
  have hl := h.len
  have h5 := h.le
  have hb := h.bread hn a 1 (by omega) 100 (by omega)
  rw [flatten_one I a ha] at hb
  have h32 := h.all32 I[a] (List.getElem_mem ha)
  unfold root_Read.f
  rw [show ((1 : Nat) : Int) = 1 from rfl] at hb
  rw [hb, Option.bind_some, if_pos (readR_size _ _ (by omega))]
  rfl
theorem rread_bad {S : List ByteArray} {W : List Wr} (hf : disk_fit S W = true) (a : Int) (h : ¬ (disk_right S W = true ∧ 0 ≤ a ∧ a < 2 ∧ a + 1 ≤ (S.length : Nat))) : root_Read.f S W a = some (0, 0, 0, false) := by
  have hz : ∀ (s : ByteArray) (e : Int), ¬ (e = 0 ∧ 0 ≤ a ∧ a < 2) → rootR s e a = (0, 0, 0, false) := fun s e hc => if_neg (fun hh => hc ⟨hh.1, hh.2.1, hh.2.2.1⟩)
  unfold root_Read.f
  by_cases c : (disk_right S W && thereB S.length a 1) = true
  · have hr : disk_right S W = true := by rw [Bool.and_eq_true] at c; exact c.1
    have ht : thereB S.length a 1 = true := by rw [Bool.and_eq_true] at c; exact c.2
    rw [there_iff] at ht
    obtain ⟨n, rfl⟩ := Int.eq_ofNat_of_zero_le ht.2.2.1
    have hI := Img.of hr
    have hW : W.length ≤ 100000 ∨ ¬ W.length ≤ 100000 := Decidable.em _
    have hrd := Read_ok hf hr (a := (n : Int)) (n := 1) (by rw [there_iff]; exact ht)
    have hsz : (datas (((applyW (fun _ => true) 0 W S).take ((n : Int) + 1).toNat).drop (n : Int).toNat)).length = 32 := by
      have hS := (right_iff S W).1 hr
      have hall := applyW_32 (fun _ => true) W 0 S (fun x hx => (hS.2.2.2 x hx).1) hS.2.2.1
      rw [datas_length _ (fun s hs => hall s (List.mem_of_mem_take (List.mem_of_mem_drop hs))), List.length_drop, List.length_take, applyW_length]
      omega
    have hrb := readB_eq _ 1 (by rw [hsz]; omega) (by rw [hsz]; rfl) 100 (by omega) S W (n : Int) hrd
    rw [hrb, Option.bind_some, if_pos (readR_size _ _ (by rw [hsz]; omega)), hz _ _ (fun hh => h ⟨hr, hh.2.1, hh.2.2, by omega⟩)]
  · have hrd := Read_bad hf (Bool.eq_false_iff.2 c)
    unfold block_Read.f
    rw [hrd, Option.bind_some]
    simp only
    rw [if_neg (by decide), Option.bind_some, if_pos (by show (0 : Nat) ≤ _; omega), hz _ _ (fun hh => absurd hh.1 (by decide))]
def bestR (x y : Int × Int × Int × Bool) : Int × Int × Int × Int :=
  if x.2.2.2 = true ∧ (y.2.2.2 = false ∨ x.1 > y.1) then (x.1, x.2.1, x.2.2.1, 0) else if y.2.2.2 = true then (y.1, y.2.1, y.2.2.1, 0) else (0, 0, 0, 3)
theorem best_eq (S : List ByteArray) (W : List Wr) (x y : Int × Int × Int × Bool) (hx : root_Read.f S W 0 = some x) (hy : root_Read.f S W 1 = some y) (k : Nat) (hk : 1 ≤ k) : root_Best.f k S W = some (bestR x y) := by
  obtain ⟨k, rfl⟩ : ∃ j, k = j + 1 := ⟨k - 1, by omega⟩
  obtain ⟨x0, x1, x2, x3⟩ := x
  obtain ⟨y0, y1, y2, y3⟩ := y
  unfold root_Best.f bestR
  rw [hx, Option.bind_some, hy, Option.bind_some]
  cases x3 <;> cases y3 <;> simp [root_Best.j0]
  all_goals (split <;> rfl)
end Go.Proofs.Ythcohkgpbjcliaa.Pl
namespace Go.Proofs.Ythcohkgpbjcliaa.Pl
open Go.RowKit Go.Proofs.Ythcohkgpbjcliaa.F Go.Proofs.YthcohkgpbjcliaaW.PrintWords Go.Proofs.YthcohkgpbjcliaaW.PrintLast Go.Proofs.YthcohkgpbjcliaaW.PrintMore
set_option linter.unusedVariables false
set_option linter.unusedSimpArgs false
abbrev RWr := F.S84
instance : DecidableEq RWr := fun a b => decidable_of_iff (a.f0 = b.f0 ∧ a.f1 = b.f1) (by cases a; cases b; simp)
theorem rdOf_at {α : Type} (d : α) (l : List α) (i : Nat) (h : i < l.length) : rdOf d l (i : Int) = l[i] := by
  show l.getD (i : Int).toNat d = _
  rw [Int.toNat_natCast, List.getD_eq_getElem?_getD, List.getElem?_eq_getElem h]
  rfl
theorem rdRW_at (l : List RWr) (i : Nat) (h : i < l.length) : rd_T84 l (i : Int) = l[i] := rdOf_at _ l i h
theorem str_eq {a b : ByteArray} : a.toList = b.toList ↔ a = b := by
  constructor
  · intro h
    rw [ByteArray.toList_eq, ByteArray.toList_eq] at h
    exact ByteArray.ext (Array.toList_inj.1 h)
  · rintro rfl; rfl
theorem rw_eq {a b : RWr} : (!(a.f0 == b.f0) || !(a.f1.toList == b.f1.toList)) = true ↔ a ≠ b := by
  obtain ⟨a0, a1⟩ := a
  obtain ⟨b0, b1⟩ := b
  simp only [Bool.or_eq_true, Bool.not_eq_true', beq_eq_false_iff_ne, ne_eq, S84.mk.injEq, str_eq]
  by_cases h : a0 = b0 <;> simp [h]
theorem same_l1 (S S' : List ByteArray) (W W' : List RWr) (h : W.length = W'.length) (hm : W.length ≤ 9223372036854775807) : ∀ (d i k : Nat), i + d = W.length → d < k →
    weirkeeperref04_Same.l1 k (i : Int) S W S' W' = some (decide (W.drop i = W'.drop i))
  | 0, i, k, hi, hk => by
    obtain ⟨k, rfl⟩ : ∃ m, k = m + 1 := ⟨k - 1, by omega⟩
    rw [weirkeeperref04_Same.l1, if_neg (by omega), List.drop_of_length_le (by omega), List.drop_of_length_le (by omega)]
    simp
  | d + 1, i, k, hi, hk => by
    obtain ⟨k, rfl⟩ : ∃ m, k = m + 1 := ⟨k - 1, by omega⟩
    have h1 : i < W.length := by omega
    have h2 : i < W'.length := by omega
    rw [weirkeeperref04_Same.l1, if_pos (by omega), if_pos (by omega), if_pos (by omega), rdRW_at _ _ h1, rdRW_at _ _ h2, List.drop_eq_getElem_cons h1, List.drop_eq_getElem_cons h2]
    by_cases c : W[i] = W'[i]
    · rw [if_neg (by rw [rw_eq]; exact fun h => h c), wrap64_in (by omega) (by omega), show ((i : Int) + 1) = ((i + 1 : Nat) : Int) by omega, same_l1 S S' W W' h hm d (i + 1) k (by omega) (by omega)]
      simp only [List.cons.injEq, c, true_and]
    · rw [if_pos (by rw [rw_eq]; exact c)]
      simp only [List.cons.injEq, c, false_and, decide_false]
theorem same_l0 (S S' : List ByteArray) (W W' : List RWr) (h0 : S.length = S'.length) (h : W.length = W'.length) (hn : S.length ≤ 9223372036854775807) (hm : W.length ≤ 9223372036854775807) : ∀ (d i k : Nat), i + d = S.length → d + W.length + 1 < k →
    weirkeeperref04_Same.l0 k (i : Int) S W S' W' = some (decide (S.drop i = S'.drop i ∧ W = W'))
  | 0, i, k, hi, hk => by
    obtain ⟨k, rfl⟩ : ∃ m, k = m + 1 := ⟨k - 1, by omega⟩
    rw [weirkeeperref04_Same.l0, if_neg (by omega), List.drop_of_length_le (by omega), List.drop_of_length_le (by omega)]
    have := same_l1 S S' W W' h hm W.length 0 k (by omega) (by omega)
    simpa using this
  | d + 1, i, k, hi, hk => by
    obtain ⟨k, rfl⟩ : ∃ m, k = m + 1 := ⟨k - 1, by omega⟩
    have h1 : i < S.length := by omega
    have h2 : i < S'.length := by omega
    rw [weirkeeperref04_Same.l0, if_pos (by omega), if_pos (by omega), if_pos (by omega), rdOf_at _ _ _ h1, rdOf_at _ _ _ h2, List.drop_eq_getElem_cons h1, List.drop_eq_getElem_cons h2]
    by_cases c : S[i] = S'[i]
    · rw [if_pos (str_eq.2 c), wrap64_in (by omega) (by omega), show ((i : Int) + 1) = ((i + 1 : Nat) : Int) by omega, same_l0 S S' W W' h0 h hn hm d (i + 1) k (by omega) (by omega)]
      simp only [List.cons.injEq, c, true_and]
    · rw [if_neg (fun h => c (str_eq.1 h))]
      simp only [List.cons.injEq, c, false_and, decide_false]
theorem same_eq (S S' : List ByteArray) (W W' : List RWr) (hn : S.length ≤ 9223372036854775807) (hm : W.length ≤ 9223372036854775807) (k : Nat) (hk : S.length + W.length + 2 < k) :
    weirkeeperref04_Same.f k S W S' W' = some (decide (S = S' ∧ W = W')) := by
  obtain ⟨k, rfl⟩ : ∃ m, k = m + 1 := ⟨k - 1, by omega⟩
  unfold weirkeeperref04_Same.f
  by_cases c : (S.length : Int) = (S'.length : Int)
  · rw [if_pos c, weirkeeperref04_Same.j0]
    by_cases c2 : W.length = W'.length
    · rw [if_neg (by simp [c2]), show (0 : Int) = ((0 : Nat) : Int) from rfl, same_l0 S S' W W' (by omega) c2 hn hm S.length 0 k (by omega) (by omega)]
      simp
    · rw [if_pos (by simp; omega)]
      have : W ≠ W' := fun h => c2 (by rw [h])
      simp [this]
  · rw [if_neg c, weirkeeperref04_Same.j0, if_pos rfl]
    have : S ≠ S' := fun h => c (by rw [h])
    simp [this]
theorem small_eq (S : List ByteArray) (W : List RWr) : weirkeeperref04_Small.f S W = some (decide (S.length ≤ 100 ∧ W.length ≤ 60)) := by
  unfold weirkeeperref04_Small.f
  by_cases c : (S.length : Int) ≤ 100
  · rw [if_pos c]
    congr 1
    rw [decide_eq_decide]
    omega
  · rw [if_neg c]
    congr 1
    symm
    rw [decide_eq_false_iff_not]
    omega
end Go.Proofs.Ythcohkgpbjcliaa.Pl
namespace Go.Proofs.Ythcohkgpbjcliaa.Pl
open Go.RowKit Go.Proofs.Ythcohkgpbjcliaa.F Go.Proofs.YthcohkgpbjcliaaW.PrintWords Go.Proofs.YthcohkgpbjcliaaW.PrintLast Go.Proofs.YthcohkgpbjcliaaW.PrintMore
set_option linter.unusedVariables false
set_option linter.unusedSimpArgs false
def toW (x : Wr) : RWr := ⟨x.f0, x.f1⟩
theorem rdTW_at (W : List Wr) (i : Nat) (h : i < W.length) : rd_T84 (W.map toW) (i : Int) = toW W[i] := by
  rw [rdRW_at _ _ (by rw [List.length_map]; exact h), List.getElem_map]
theorem refR4_l1 (S : List ByteArray) (W : List Wr) (n : Nat) (hW : W.length ≤ 100000) : ∀ (d i k : Nat), i + d = W.length → d < k → weirkeeperref04_Right.l1 k (n : Int) (i : Int) S (W.map toW) = some (!(W.drop i).any (wBad n))
  | 0, i, k, hi, hk => by
    obtain ⟨k, rfl⟩ : ∃ m, k = m + 1 := ⟨k - 1, by omega⟩
    rw [weirkeeperref04_Right.l1, if_neg (by rw [List.length_map]; omega), List.drop_of_length_le (by omega)]
    rfl
  | d + 1, i, k, hi, hk => by
    obtain ⟨k, rfl⟩ : ∃ m, k = m + 1 := ⟨k - 1, by omega⟩
    have hlt : i < W.length := by omega
    rw [weirkeeperref04_Right.l1, if_pos (by rw [List.length_map]; omega), if_pos (by omega), rdTW_at _ _ hlt, List.drop_eq_getElem_cons hlt, List.any_cons, wrap64_in (by omega) (by omega), show ((i : Int) + 1) = ((i + 1 : Nat) : Int) by omega]
    show (if ((W[i].f1.size : Int) = 32) then (if W[i].f0 < 0 then _ else (if W[i].f0 ≥ (n : Int) then _ else _)) else _) = _
    by_cases c1 : W[i].f1.size = 32
    · rw [if_pos (by omega)]
      by_cases c2 : W[i].f0 < 0
      · rw [if_pos c2, show wBad n W[i] = true by simp [wBad, c1]; omega]
        rfl
      · rw [if_neg c2]
        by_cases c3 : W[i].f0 ≥ (n : Int)
        · rw [if_pos c3, show wBad n W[i] = true by simp [wBad, c1]; omega]
          rfl
        · rw [if_neg c3, refR4_l1 S W n hW d (i + 1) k (by omega) (by omega), show wBad n W[i] = false by simp [wBad, c1]; omega]
          rfl
    · rw [if_neg (by omega), show wBad n W[i] = true by simp [wBad, c1]]
      rfl
theorem refR4_l0 (S : List ByteArray) (W : List Wr) (hS : S.length ≤ 100000) (hW : W.length ≤ 100000) : ∀ (d i k : Nat), i + d = S.length → d + W.length + 1 < k → weirkeeperref04_Right.l0 k (S.length : Int) (i : Int) S (W.map toW) = some (!((S.drop i).any fun s => s.size != 32) && !W.any (wBad S.length))
  | 0, i, k, hi, hk => by
    obtain ⟨k, rfl⟩ : ∃ m, k = m + 1 := ⟨k - 1, by omega⟩
    rw [weirkeeperref04_Right.l0, if_neg (by omega), List.drop_of_length_le (by omega), show (0 : Int) = ((0 : Nat) : Int) from rfl, refR4_l1 S W _ hW W.length 0 k (by omega) (by omega), List.drop_zero]
    rfl
  | d + 1, i, k, hi, hk => by
    obtain ⟨k, rfl⟩ : ∃ m, k = m + 1 := ⟨k - 1, by omega⟩
    have hlt : i < S.length := by omega
    rw [weirkeeperref04_Right.l0, if_pos (by omega), if_pos (by omega), if_pos (by omega), rdOf_at _ _ _ hlt, List.drop_eq_getElem_cons hlt, List.any_cons]
    by_cases c : S[i].size = 32
    · rw [if_pos (by omega), wrap64_in (by omega) (by omega), show ((i : Int) + 1) = ((i + 1 : Nat) : Int) by omega, refR4_l0 S W hS hW d (i + 1) k (by omega) (by omega), show (S[i].size != 32) = false by simp [c], Bool.false_or]
    · rw [if_neg (by omega), show (S[i].size != 32) = true by simp [c]]
      rfl
theorem refRight4_eq (S : List ByteArray) (W : List Wr) (hS : S.length ≤ 100000) (hW : W.length ≤ 100000) (k : Nat) (hk : S.length + W.length + 3 < k) : weirkeeperref04_Right.f k S (W.map toW) = some (disk_right S W) := by
  obtain ⟨k, rfl⟩ : ∃ m, k = m + 1 := ⟨k - 1, by omega⟩
  unfold weirkeeperref04_Right.f disk_right
  by_cases c1 : (S.length : Int) < 1
  · rw [if_pos c1, weirkeeperref04_Right.j0, if_pos rfl, decide_eq_false (by omega)]
    rfl
  rw [if_neg c1, weirkeeperref04_Right.j0, decide_eq_true (show 1 ≤ S.length by omega)]
  by_cases c2 : (S.length : Int) > 512
  · rw [if_pos (by simpa using c2), decide_eq_false (show ¬ S.length ≤ 512 by omega)]
    rfl
  · rw [if_neg (by simpa using c2), decide_eq_true (show S.length ≤ 512 by omega), show (0 : Int) = ((0 : Nat) : Int) from rfl, refR4_l0 S W hS hW S.length 0 k (by omega) (by omega), List.drop_zero]
    rfl
theorem sector_l0 (S : List ByteArray) (W : List Wr) (hW : W.length ≤ 100000) (hok : ∀ x ∈ W, 0 ≤ x.f0 ∧ x.f0 < (S.length : Int)) (i : Nat) (hi : i < S.length) : ∀ (j k : Nat), j ≤ W.length → j < k → weirkeeperref04_sector.l0 k (i : Int) ((j : Int) - 1) S (W.map toW) = (applyW alw 0 (W.take j) S)[i]?
  | 0, k, hj, hk => by
    obtain ⟨k, rfl⟩ : ∃ m, k = m + 1 := ⟨k - 1, by omega⟩
    rw [weirkeeperref04_sector.l0, if_neg (by omega), if_pos (by omega), if_pos (by omega), rdOf_at _ _ _ hi, List.take_zero]
    show _ = S[i]?
    rw [List.getElem?_eq_getElem hi]
  | j + 1, k, hj, hk => by
    obtain ⟨k, rfl⟩ : ∃ m, k = m + 1 := ⟨k - 1, by omega⟩
    have hlt : j < W.length := by omega
    have hx := hok W[j] (List.getElem_mem hlt)
    rw [weirkeeperref04_sector.l0, show ((j + 1 : Nat) : Int) - 1 = (j : Int) by omega, if_pos (by omega), if_pos (by omega), if_pos (by rw [List.length_map]; omega), rdTW_at _ _ hlt, wrap64_in (by omega) (by omega), List.take_add_one, List.getElem?_eq_getElem hlt]
    show (if W[j].f0 = (i : Int) then some W[j].f1 else _) = (applyW alw 0 (W.take j ++ [W[j]]) S)[i]?
    rw [applyW_app]
    show _ = ((applyW alw 0 (W.take j) S).set W[j].f0.toNat W[j].f1)[i]?
    by_cases c : W[j].f0 = (i : Int)
    · rw [if_pos c, c, Int.toNat_natCast, List.getElem?_set_self (by rw [applyW_length]; exact hi)]
    · rw [if_neg c, sector_l0 S W hW hok i hi j k (by omega) (by omega), List.getElem?_set_ne (by omega)]
theorem sector_eq {n : Nat} {S : List ByteArray} {W : List Wr} {I : List (List UInt8)} (h : Img n S W I) (hn : n ≤ 100000) (i : Nat) (hi : i < I.length) (k : Nat) (hk : W.length < k) : weirkeeperref04_sector.f k S (W.map toW) (i : Int) = some (B I[i]) := by
  have hl := h.len
  have hf := h.few
  unfold weirkeeperref04_sector.f
  rw [List.length_map, wrap64_in (by omega) (by omega), sector_l0 S W (by omega) (fun x hx => (((right_iff S W).1 h.right).2.2.2 x hx).2) i (by omega) W.length k (Nat.le_refl _) hk, List.take_length, h.img, List.getElem?_map, List.getElem?_eq_getElem hi]
  rfl
theorem readL_l0 {n : Nat} {S : List ByteArray} {W : List Wr} {I : List (List UInt8)} (h : Img n S W I) (hn : n ≤ 100000) (a m : Nat) (ha : a + m ≤ I.length) : ∀ (d i k : Nat) (x : List UInt8), i + d = m → d + W.length + 1 < k → x.length = 32 * i →
    weirkeeperref04_Read.l0 k (a : Int) (m : Int) (B x) (i : Int) S (W.map toW) = some (B (x ++ ((I.take (a + m)).drop (a + i)).flatten), 0)
  | 0, i, k, x, hi, hk, hx => by
    obtain ⟨k, rfl⟩ : ∃ m, k = m + 1 := ⟨k - 1, by omega⟩
    rw [weirkeeperref04_Read.l0, if_neg (by omega), List.drop_of_length_le (by rw [List.length_take]; omega)]
    simp
  | d + 1, i, k, x, hi, hk, hx => by
    obtain ⟨k, rfl⟩ : ∃ m, k = m + 1 := ⟨k - 1, by omega⟩
    have hl := h.len
    have hS := h.le
    have hlt : a + i < I.length := by omega
    have h32 := h.all32 I[a + i] (List.getElem_mem hlt)
    have hcons : (I.take (a + m)).drop (a + i) = I[a + i] :: (I.take (a + m)).drop (a + (i + 1)) := by
      rw [List.drop_eq_getElem_cons (by rw [List.length_take]; omega), List.getElem_take]
      rfl
    rw [weirkeeperref04_Read.l0, if_pos (by omega), wrap64_in (by omega) (by omega), show ((a : Int) + (i : Int)) = ((a + i : Nat) : Int) by omega, sector_eq h hn (a + i) hlt k (by omega), Option.bind_some, if_pos (by rw [B_size, B_size]; omega), B_append, wrap64_in (by omega) (by omega), show ((i : Int) + 1) = ((i + 1 : Nat) : Int) by omega,
      readL_l0 h hn a m ha d (i + 1) k (x ++ I[a + i]) (by omega) (by omega) (by rw [List.length_append]; omega), hcons, List.flatten_cons, List.append_assoc]
theorem refRead_ok {n : Nat} {S : List ByteArray} {W : List Wr} {I : List (List UInt8)} (h : Img n S W I) (hn : n ≤ 100000) (a m : Nat) (ha : a + m ≤ I.length) (k : Nat) (hk : S.length + W.length + m + 5 < k) : weirkeeperref04_Read.f k S (W.map toW) (a : Int) (m : Int) = some (B ((I.take (a + m)).drop a).flatten, 0) := by
  obtain ⟨k, rfl⟩ : ∃ m, k = m + 1 := ⟨k - 1, by omega⟩
  have hl := h.len
  have hS := h.le
  have hf := h.few
  unfold weirkeeperref04_Read.f
  rw [refRight4_eq S W (by omega) (by omega) (k + 1) (by omega), Option.bind_some, h.right, if_pos rfl, if_neg (by omega), if_neg (by omega), if_neg (by omega), wrap64_in (by omega) (by omega), decide_eq_false (by omega), weirkeeperref04_Read.j0, if_neg (by simp), show (0 : Int) = ((0 : Nat) : Int) from rfl, B_nil, readL_l0 h hn a m ha m 0 k [] (by omega) (by omega) rfl]
  rfl
theorem refRead_bad (S : List ByteArray) (W : List Wr) (hS : S.length ≤ 100000) (hW : W.length ≤ 100000) (a m : Int) (h : (disk_right S W && thereB S.length a m) = false) (k : Nat) (hk : S.length + W.length + 5 < k) : weirkeeperref04_Read.f k S (W.map toW) a m = some (⟨#[]⟩, 1) := by
  obtain ⟨k, rfl⟩ : ∃ m, k = m + 1 := ⟨k - 1, by omega⟩
  have jt : weirkeeperref04_Read.j0 (k + 1) a m true S (W.map toW) = some (⟨#[]⟩, 1) := by rw [weirkeeperref04_Read.j0, if_pos rfl]
  unfold weirkeeperref04_Read.f
  rw [refRight4_eq S W hS hW (k + 1) (by omega), Option.bind_some]
  cases hr : disk_right S W with
  | false => rw [if_neg (by simp), jt]
  | true =>
    rw [hr, Bool.true_and] at h
    rw [if_pos rfl]
    by_cases c1 : m < 0
    · rw [if_pos c1, jt]
    by_cases c2 : a < 0
    · rw [if_neg c1, if_pos c2, jt]
    by_cases c3 : m > (S.length : Int)
    · rw [if_neg c1, if_neg c2, if_pos c3, jt]
    rw [if_neg c1, if_neg c2, if_neg c3, wrap64_in (by omega) (by omega)]
    have c4 : a > (S.length : Int) - m := by
      by_cases c : a > (S.length : Int) - m
      · exact c
      · have : thereB S.length a m = true := (there_iff _ _ _).2 ⟨by omega, by omega, by omega, by omega⟩
        rw [this] at h
        cases h
    rw [decide_eq_true c4, jt]
theorem putL_l0 (S : List ByteArray) (W : List Wr) (hW : W.length ≤ 100000) (a : Int) (ha : 0 ≤ a) (ha2 : a ≤ 100000) (T : List ByteArray) (hT : T.length ≤ 100000) (X Y : List RWr) : ∀ (d i k : Nat) (V : List Wr), i + d = T.length → d < k → V.length ≤ 200000 + i → (∀ t ∈ T, t.size = 32) →
    weirkeeperref04_Put.l0 k a T (i : Int) S X S (V.map toW) = some (S, (V ++ putW (a + i) (T.drop i)).map toW, 0)
  | 0, i, k, V, hi, hk, hV, hT2 => by
    obtain ⟨k, rfl⟩ : ∃ m, k = m + 1 := ⟨k - 1, by omega⟩
    rw [weirkeeperref04_Put.l0, if_neg (by omega), List.drop_of_length_le (by omega), putW, List.append_nil]
  | d + 1, i, k, V, hi, hk, hV, hT2 => by
    obtain ⟨k, rfl⟩ : ∃ m, k = m + 1 := ⟨k - 1, by omega⟩
    have hlt : i < T.length := by omega
    have h32 := hT2 T[i] (List.getElem_mem hlt)
    have hm : V.map toW ++ [(⟨a + i, T[i]⟩ : RWr)] = (V ++ [(⟨a + i, T[i]⟩ : Wr)]).map toW := by rw [List.map_append]; rfl
    rw [weirkeeperref04_Put.l0, if_pos (by omega), if_pos (by omega), rdOf_at _ _ _ hlt, if_pos (by omega), if_pos (by rw [List.length_map]; omega), wrap64_in (n := (i : Int) + 1) (by omega) (by omega), wrap64_in (n := a + (i : Int)) (by omega) (by omega), show ((i : Int) + 1) = ((i + 1 : Nat) : Int) by omega, hm,
      putL_l0 S W hW a ha ha2 T hT X Y d (i + 1) k _ (by omega) (by omega) (by rw [List.length_append]; simp; omega) hT2, List.drop_eq_getElem_cons hlt, putW, List.append_assoc]
    rw [show a + ((i + 1 : Nat) : Int) = a + (i : Int) + 1 by omega]
    rfl
theorem putL_bad (S : List ByteArray) (W : List Wr) (a : Int) (ha : 0 ≤ a) (ha2 : a ≤ 100000) (T : List ByteArray) (hT : T.length ≤ 100000) (X : List RWr) : ∀ (d i k : Nat) (V : List RWr), i + d = T.length → d < k → V.length ≤ 200000 + i → ((T.drop i).any fun s => s.size != 32) = true →
    weirkeeperref04_Put.l0 k a T (i : Int) S X S V = some (S, X, 1)
  | 0, i, k, V, hi, hk, hV, hb => by
    rw [List.drop_of_length_le (by omega)] at hb
    cases hb
  | d + 1, i, k, V, hi, hk, hV, hb => by
    obtain ⟨k, rfl⟩ : ∃ m, k = m + 1 := ⟨k - 1, by omega⟩
    have hlt : i < T.length := by omega
    rw [weirkeeperref04_Put.l0, if_pos (by omega), if_pos (by omega), rdOf_at _ _ _ hlt]
    by_cases c : T[i].size = 32
    · rw [List.drop_eq_getElem_cons hlt, List.any_cons, show (T[i].size != 32) = false by simp [c], Bool.false_or] at hb
      rw [if_pos (by omega), if_pos (by omega), wrap64_in (n := (i : Int) + 1) (by omega) (by omega), show ((i : Int) + 1) = ((i + 1 : Nat) : Int) by omega]
      exact putL_bad S W a ha ha2 T hT X d (i + 1) k _ (by omega) (by omega) (by rw [List.length_append]; simp; omega) hb
    · rw [if_neg (by omega)]
theorem refPut_eq (S : List ByteArray) (W : List Wr) (hS : S.length ≤ 100000) (hW : W.length ≤ 100000) (a : Int) (T : List ByteArray) (hT : T.length ≤ 100000) (k : Nat) (hk : S.length + W.length + T.length + 600 < k) :
    ∃ V e, disk_Put.f S W a T = some (S, V, e) ∧ weirkeeperref04_Put.f k S (W.map toW) a T = some (S, V.map toW, e) ∧ V.length ≤ W.length + T.length ∧ (e = 0 ∨ e = 1 ∧ V = W) := by
  have hfit := fit_of hS hW
  unfold weirkeeperref04_Put.f
  cases hr : disk_right S W && thereB S.length a (T.length : Int) with
  | false =>
    refine ⟨W, 1, Put_bad hfit (by rw [hr]; rfl), ?_, by omega, .inr ⟨rfl, rfl⟩⟩
    rw [refRead_bad S W hS hW a _ hr k (by omega), Option.bind_some, if_neg (by decide)]
  | true =>
    rw [Bool.and_eq_true] at hr
    obtain ⟨h1, h2⟩ := hr
    have h3 := (there_iff _ _ _).1 h2
    have hI := (right_iff S W).1 h1
    obtain ⟨a', rfl⟩ : ∃ a' : Nat, a = a' := ⟨a.toNat, by omega⟩
    have himg : Img W.length S W ((applyW alw 0 W S).map (·.data.toList)) := ⟨Nat.le_refl _, h1, by
      rw [List.map_map]
      conv => lhs; rw [← List.map_id (applyW alw 0 W S)]
      apply List.map_congr_left
      intro s _
      exact (B_of s)⟩
    have hr := refRead_ok himg hW a' T.length (by rw [himg.len]; omega) k (by omega)
    rw [hr, Option.bind_some, if_pos rfl, if_pos (by rw [List.length_map]; simp; omega), List.nil_append, show (0 : Int) = ((0 : Nat) : Int) from rfl]
    cases hb : T.any fun s => s.size != 32 with
    | true =>
      refine ⟨W, 1, Put_bad hfit (by rw [hb, h1, h2]; rfl), ?_, by omega, .inr ⟨rfl, rfl⟩⟩
      rw [putL_bad S W a' (by omega) (by omega) T hT _ T.length 0 k _ (by omega) (by omega) (by rw [List.length_map]; omega) (by rw [List.drop_zero]; exact hb)]
    | false =>
      have hT2 : ∀ t ∈ T, t.size = 32 := fun t ht => by
        have := List.any_eq_false.1 hb t ht
        simpa using this
      refine ⟨W ++ putW a' T, 0, Put_ok hfit h1 h2 hT2, ?_, by rw [List.length_append, putW_length]; omega, .inl rfl⟩
      rw [putL_l0 S W hW a' (by omega) (by omega) T hT _ [] T.length 0 k W (by omega) (by omega) (by omega) hT2, List.drop_zero]
      simp
theorem law4ref_eq (S : List ByteArray) (W : List Wr) (hW : W.length * 24 ≤ 140737488351232) (k : Nat) : weirkeeperlaw04_Ref.f k S W = some (S, W.map toW) := if_pos hW
end Go.Proofs.Ythcohkgpbjcliaa.Pl
namespace Go.Proofs.Ythcohkgpbjcliaa.Pl
open Go.RowKit Go.Proofs.Ythcohkgpbjcliaa.F Go.Proofs.YthcohkgpbjcliaaW.PrintWords Go.Proofs.YthcohkgpbjcliaaW.PrintLast Go.Proofs.YthcohkgpbjcliaaW.PrintMore
set_option linter.unusedVariables false
set_option linter.unusedSimpArgs false
def dbl (n : Nat) : Nat := (n * 2 % 16777216) ^^^ (n / 8388608 % 2 * 8801531)
theorem xor_two (x y : Nat) (hx : x < 2) (hy : y < 2) : (x ^^^ y) * 8801531 = (x * 8801531) ^^^ (y * 8801531) := by
  obtain rfl | rfl : x = 0 ∨ x = 1 := by omega
  all_goals obtain rfl | rfl : y = 0 ∨ y = 1 := by omega
  all_goals decide
theorem xor_swap (a b c d : Nat) : (a ^^^ b) ^^^ (c ^^^ d) = (a ^^^ c) ^^^ (b ^^^ d) := by rw [Nat.xor_assoc, Nat.xor_assoc, ← Nat.xor_assoc b c d, Nat.xor_comm b c, Nat.xor_assoc c b d]
theorem dbl_xor (x y : Nat) : dbl (x ^^^ y) = dbl x ^^^ dbl y := by
  unfold dbl
  have e1 : (x ^^^ y) * 2 % 16777216 = (x * 2 % 16777216) ^^^ (y * 2 % 16777216) := by
    have := Nat.shiftLeft_xor_distrib (a := x) (b := y) (i := 1)
    simp only [Nat.shiftLeft_eq, Nat.pow_one] at this
    rw [this, show (16777216 : Nat) = 2 ^ 24 from rfl, Nat.xor_mod_two_pow]
  have e2 : (x ^^^ y) / 8388608 % 2 = (x / 8388608 % 2) ^^^ (y / 8388608 % 2) := by
    have := Nat.shiftRight_xor_distrib (a := x) (b := y) (i := 23)
    simp only [Nat.shiftRight_eq_div_pow] at this
    rw [show (8388608 : Nat) = 2 ^ 23 from rfl, this]
    exact Nat.xor_mod_two_pow (n := 1)
  rw [e1, e2, xor_two _ _ (by omega) (by omega)]
  exact xor_swap _ _ _ _
def bitN (n b : Nat) : Nat := if n / 8388608 % 2 + b = 1 then (n * 2 % 16777216) ^^^ 8801531 else n * 2 % 16777216
theorem bitN_eq (n b : Nat) (hb : b < 2) : bitN n b = dbl n ^^^ (b * 8801531) := by
  unfold bitN dbl
  have h2 : n / 8388608 % 2 < 2 := by omega
  generalize n / 8388608 % 2 = t at *
  generalize n * 2 % 16777216 = m
  obtain rfl | rfl : t = 0 ∨ t = 1 := by omega
  all_goals obtain rfl | rfl : b = 0 ∨ b = 1 := by omega
  · simp
  · simp
  · simp
  · rw [if_neg (by decide), Nat.xor_assoc]
    simp
def D (n : Nat) : Nat := dbl (dbl (dbl (dbl (dbl (dbl (dbl (dbl n)))))))
theorem D_xor (x y : Nat) : D (x ^^^ y) = D x ^^^ D y := by unfold D; simp only [dbl_xor]
def byteN (n c : Nat) : Nat := bitN (bitN (bitN (bitN (bitN (bitN (bitN (bitN n (c / 128 % 2)) (c / 64 % 2)) (c / 32 % 2)) (c / 16 % 2)) (c / 8 % 2)) (c / 4 % 2)) (c / 2 % 2)) (c / 1 % 2)
theorem byteN_lin (n c : Nat) : byteN n c = D n ^^^ byteN 0 c := by
  have h0 : dbl 0 = 0 := by decide
  unfold byteN D
  simp only [bitN_eq _ _ (Nat.mod_lt _ (by decide : 0 < 2)), dbl_xor, h0, Nat.zero_xor, Nat.xor_assoc]
theorem byte_all : (List.range 256).all (fun c => byteN 0 c == tabNat c && D (c * 65536) == tabNat c) = true := by decide +kernel
theorem byte_tab (c : Nat) (hc : c < 256) : byteN 0 c = tabNat c ∧ D (c * 65536) = tabNat c := by
  have := List.all_eq_true.1 byte_all c (List.mem_range.2 hc)
  simpa using this
theorem dbl_low (n : Nat) (h : n < 8388608) : dbl n = n * 2 := by
  unfold dbl
  rw [show n / 8388608 % 2 = 0 by omega, Nat.zero_mul, Nat.xor_zero]
  omega
theorem D_low (n : Nat) (h : n < 65536) : D n = n * 256 := by
  unfold D
  rw [dbl_low n (by omega), dbl_low (n * 2) (by omega), dbl_low (n * 2 * 2) (by omega), dbl_low (n * 2 * 2 * 2) (by omega), dbl_low (n * 2 * 2 * 2 * 2) (by omega), dbl_low (n * 2 * 2 * 2 * 2 * 2) (by omega), dbl_low (n * 2 * 2 * 2 * 2 * 2 * 2) (by omega), dbl_low (n * 2 * 2 * 2 * 2 * 2 * 2 * 2) (by omega)]
  omega
theorem split16 (n : Nat) : n = (n / 65536 * 65536) ^^^ (n % 65536) := by
  apply Nat.eq_of_testBit_eq
  intro i
  rw [Nat.testBit_xor, show (65536 : Nat) = 2 ^ 16 from rfl, Nat.testBit_mul_two_pow, Nat.testBit_mod_two_pow, Nat.testBit_div_two_pow]
  by_cases h : 16 ≤ i
  · rw [decide_eq_true h, decide_eq_false (by omega), Nat.sub_add_cancel h]
    simp
  · rw [decide_eq_false h, decide_eq_true (by omega)]
    simp
theorem byteN_eq (n c : Nat) (hn : n < 16777216) (hc : c < 256) : byteN n c = (n * 256 % 16777216) ^^^ tabNat ((n / 65536) ^^^ c) := by
  have h1 : n / 65536 < 256 := by omega
  have e1 : D n = tabNat (n / 65536) ^^^ (n * 256 % 16777216) := by
    conv => lhs; rw [split16 n]
    rw [D_xor, (byte_tab _ h1).2, D_low _ (by omega)]
    congr 1
    omega
  have e2 : tabNat ((n / 65536) ^^^ c) = tabNat (n / 65536) ^^^ tabNat c := by
    have h2 : (n / 65536) ^^^ c < 2 ^ 8 := Nat.xor_lt_two_pow (by omega) (by omega)
    have := Nat.shiftLeft_xor_distrib (a := n / 65536) (b := c) (i := 16)
    simp only [Nat.shiftLeft_eq] at this
    rw [← (byte_tab _ h2).2, show (65536 : Nat) = 2 ^ 16 from rfl, this, D_xor]
    have a1 := (byte_tab _ h1).2
    have a2 := (byte_tab _ hc).2
    rw [show (65536 : Nat) = 2 ^ 16 from rfl] at a1 a2
    rw [a1, a2]
  rw [byteN_lin, e1, (byte_tab c hc).1, e2, Nat.xor_comm (tabNat (n / 65536)), Nat.xor_assoc]
theorem bit_eq (n b : Nat) (hn : n < 16777216) (hb : b < 2) : weirkeeperref02_bit.f (n : Int) (b : Int) = some ((bitN n b : Nat) : Int) := by
  unfold weirkeeperref02_bit.f bitN
  have e1 : Int.tdiv (n : Int) 8388608 = ((n / 8388608 : Nat) : Int) := by
    rw [Int.tdiv_eq_ediv_of_nonneg (by omega)]
    omega
  have e2 : ((((n : Int) * 2) % 4294967296) % 16777216) = ((n * 2 % 16777216 : Nat) : Int) := by omega
  rw [e1, e2]
  have e3 : ((((((n / 8388608 : Nat) : Int) % 4294967296) % 2) + (b : Int)) % 4294967296) = ((n / 8388608 % 2 + b : Nat) : Int) := by omega
  rw [e3]
  by_cases c : n / 8388608 % 2 + b = 1
  · rw [if_pos (by omega), if_pos c]
    have := xor_u32 (n * 2 % 16777216) 8801531 (by omega) (by decide)
    rw [← this]
    rfl
  · rw [if_neg (by omega), if_neg c]
theorem bitN_lt (n b : Nat) : bitN n b < 16777216 := by
  unfold bitN
  split
  · exact Nat.xor_lt_two_pow (n := 24) (by omega) (by decide)
  · omega
theorem shr_bit (c j : Nat) (hc : c < 256) (hj : j < 8) : ((Int.tmod (shr .u8 (c : Int) (IntKind.u64.wrap (j : Int))) 2) % 4294967296) = ((c / 2 ^ j % 2 : Nat) : Int) := by
  rw [u64_in (by omega) (by omega)]
  unfold shr
  rw [show (j : Int).toNat = j from Int.toNat_natCast j, Nat.min_eq_left (show j ≤ IntKind.bits .u8 from by show j ≤ 8; omega), Int.tmod_eq_emod_of_nonneg (Int.ediv_nonneg (by omega) (by exact_mod_cast Nat.zero_le (2 ^ j)))]
  have : ((c : Int) / 2 ^ j) = ((c / 2 ^ j : Nat) : Int) := by rw [Int.natCast_ediv]; norm_cast
  rw [this]
  omega
theorem more_l1 (l : List UInt8) (hl : l.length ≤ 9000000000000) (i : Nat) (hi : i < l.length) : ∀ (k : Nat) (n : Nat), n < 16777216 → weirkeeperref02_More.l1 (k + 9) (n : Int) (B l) (i : Int) 7 = weirkeeperref02_More.l0 k ((byteN n l[i].toNat : Nat) : Int) (B l) ((i + 1 : Nat) : Int) := by
  intro k n hn
  have hc := l[i].toNat_lt
  have hb : bt (B l) (i : Int) = (l[i].toNat : Int) := by rw [bt_B l i (by simpa using hi)]; simp
  have step : ∀ (m j : Nat) (k : Nat), m < 16777216 → j < 8 → weirkeeperref02_More.l1 (k + 1) (m : Int) (B l) (i : Int) (j : Int) = weirkeeperref02_More.l1 k ((bitN m (l[i].toNat / 2 ^ j % 2) : Nat) : Int) (B l) (i : Int) ((j : Int) - 1) := fun m j k hm hj => by
    rw [weirkeeperref02_More.l1, if_pos (by omega), if_pos (by omega), if_pos (by rw [B_size]; omega), if_pos (by rw [u64_in (by omega) (by omega)]; omega), hb, shr_bit _ _ hc hj, bit_eq _ _ hm (Nat.mod_lt _ (by decide)), Option.bind_some, wrap64_in (by omega) (by omega)]
  rw [show k + 9 = (k + 8) + 1 from rfl, show (7 : Int) = ((7 : Nat) : Int) from rfl, step n 7 _ hn (by decide), show ((7 : Nat) : Int) - 1 = ((6 : Nat) : Int) from rfl, show k + 8 = (k + 7) + 1 from rfl, step _ 6 _ (bitN_lt _ _) (by decide), show ((6 : Nat) : Int) - 1 = ((5 : Nat) : Int) from rfl, show k + 7 = (k + 6) + 1 from rfl, step _ 5 _ (bitN_lt _ _) (by decide), show ((5 : Nat) : Int) - 1 = ((4 : Nat) : Int) from rfl, show k + 6 = (k + 5) + 1 from rfl, step _ 4 _ (bitN_lt _ _) (by decide), show ((4 : Nat) : Int) - 1 = ((3 : Nat) : Int) from rfl, show k + 5 = (k + 4) + 1 from rfl, step _ 3 _ (bitN_lt _ _) (by decide), show ((3 : Nat) : Int) - 1 = ((2 : Nat) : Int) from rfl, show k + 4 = (k + 3) + 1 from rfl, step _ 2 _ (bitN_lt _ _) (by decide), show ((2 : Nat) : Int) - 1 = ((1 : Nat) : Int) from rfl, show k + 3 = (k + 2) + 1 from rfl, step _ 1 _ (bitN_lt _ _) (by decide), show ((1 : Nat) : Int) - 1 = ((0 : Nat) : Int) from rfl, show k + 2 = (k + 1) + 1 from rfl, step _ 0 _ (bitN_lt _ _) (by decide),
    weirkeeperref02_More.l1, if_neg (by decide), wrap64_in (by omega) (by omega), show ((i : Int) + 1) = ((i + 1 : Nat) : Int) by omega]
  rfl
theorem more_l0 (l : List UInt8) (hl : l.length ≤ 9000000000000) : ∀ (d i k n : Nat), i + d = l.length → 10 * d < k → n < 16777216 → weirkeeperref02_More.l0 k (n : Int) (B l) (i : Int) = some ((moreN n (l.drop i) : Nat) : Int)
  | 0, i, k, n, hi, hk, hn => by
    obtain ⟨k, rfl⟩ : ∃ m, k = m + 1 := ⟨k - 1, by omega⟩
    rw [weirkeeperref02_More.l0, if_neg (by rw [B_size]; omega), List.drop_of_length_le (by omega)]
    rfl
  | d + 1, i, k, n, hi, hk, hn => by
    obtain ⟨k, rfl⟩ : ∃ m, k = m + 10 := ⟨k - 10, by omega⟩
    have hlt : i < l.length := by omega
    rw [weirkeeperref02_More.l0, if_pos (by rw [B_size]; omega), more_l1 l hl i hlt k n hn, byteN_eq n _ hn l[i].toNat_lt, more_l0 l hl d (i + 1) k _ (by omega) (by omega) (step_lt n _ hn l[i].toNat_lt).2, List.drop_eq_getElem_cons hlt]
    rfl
theorem sumR_eq (l : List UInt8) (hl : l.length ≤ 9000000000000) (k : Nat) (hk : 10 * l.length < k) : weirkeeperref02_Sum.f k (B l) = some ((sumN l : Nat) : Int) := by
  unfold weirkeeperref02_Sum.f weirkeeperref02_More.f
  have := more_l0 l hl l.length 0 k 11994318 (by omega) hk (by decide)
  rw [List.drop_zero] at this
  rw [show Int.tmod 11994318 16777216 = ((11994318 : Nat) : Int) by decide, show (0 : Int) = ((0 : Nat) : Int) from rfl, this]
  rfl
end Go.Proofs.Ythcohkgpbjcliaa.Pl
namespace Go.Proofs.Ythcohkgpbjcliaa.Pl
open Go.RowKit Go.Proofs.Ythcohkgpbjcliaa.F Go.Proofs.YthcohkgpbjcliaaW.PrintWords Go.Proofs.YthcohkgpbjcliaaW.PrintLast Go.Proofs.YthcohkgpbjcliaaW.PrintMore
set_option linter.unusedVariables false
set_option linter.unusedSimpArgs false
theorem rnum_loop (n s : Nat) (hn : n < 18446744073709551616) (hs : s ≤ 8) (d : Nat) : ∀ (k i : Nat), i + d = s → d < k →
    weirkeeperref01_Num.l0 k ((n / 256 ^ i : Nat) : Int) (s : Int) (B (be n i)) (i : Int) = some (if n < 256 ^ s then (B (be n s), 0) else (B [], 1)) := by
  induction d with
  | zero =>
    intro k i hi hk
    obtain ⟨k, rfl⟩ : ∃ m, k = m + 1 := ⟨k - 1, by omega⟩
    have e : i = s := by omega
    subst e
    simp only [weirkeeperref01_Num.l0]
    rw [if_neg (by omega)]
    by_cases hb : n < 256 ^ i
    · rw [if_pos hb, if_neg (by simp [Nat.div_eq_of_lt hb])]
    · have : 0 < n / 256 ^ i := Nat.div_pos (by omega) (Nat.pow_pos (by decide))
      rw [if_neg hb, if_pos (by omega)]
      rfl
  | succ d ih =>
    intro k i hi hk
    obtain ⟨k, rfl⟩ : ∃ m, k = m + 1 := ⟨k - 1, by omega⟩
    have w4 : wrap64 ((i : Int) + 1) = ((i + 1 : Nat) : Int) := by rw [wrap64_in (by omega) (by omega)]; omega
    have hle : n / 256 ^ i ≤ n := Nat.div_le_self _ _
    have e1 := tmod256 (n / 256 ^ i)
    have e2 : IntKind.u64.wrap (Int.tdiv ((n / 256 ^ i : Nat) : Int) 256) = ((n / 256 ^ (i + 1) : Nat) : Int) := by
      rw [tdiv256 _ (by omega), Nat.pow_succ, ← Nat.div_div_eq_div_mul]
    have e3 : strOfNums [((n / 256 ^ i % 256 : Nat) : Int)] = B [UInt8.ofNat (n / 256 ^ i % 256)] := rfl
    simp only [weirkeeperref01_Num.l0]
    rw [if_pos (by omega), e1, e2, Option.bind_some, e3, B_size, B_size, if_pos (by simp [be_length]; omega), B_append, w4]
    exact ih k (i + 1) (by omega) (by omega)
theorem rnum_eq (n : Nat) (hn : n < 18446744073709551616) (size : Int) (k : Nat) (hk : 12 ≤ k) :
    weirkeeperref01_Num.f k (n : Int) size = some (numR n size) := by
  obtain ⟨k, rfl⟩ : ∃ m, k = m + 1 := ⟨k - 1, by omega⟩
  unfold weirkeeperref01_Num.f numR
  by_cases h1 : size < 1
  · rw [if_pos h1, if_neg (by omega)]
    simp only [weirkeeperref01_Num.j0]
    rfl
  · rw [if_neg h1]
    simp only [weirkeeperref01_Num.j0]
    by_cases h2 : size > 8
    · rw [decide_eq_true h2, if_pos rfl, if_neg (by omega)]
      rfl
    · obtain ⟨s, rfl⟩ := Int.eq_ofNat_of_zero_le (show 0 ≤ size by omega)
      have := rnum_loop n s hn (by omega) s k 0 (by omega) (by omega)
      simp only [Nat.pow_zero, Nat.div_one, be] at this
      rw [decide_eq_false h2, if_neg (by decide), Int.toNat_natCast]
      refine this.trans ?_
      congr 1
      by_cases hb : n < 256 ^ s
      · rw [if_pos hb, if_pos ⟨by omega, by omega, hb⟩]
      · rw [if_neg hb, if_neg (fun hh => hb hh.2.2)]
theorem rtake_loop (l : List UInt8) (s : Nat) (hs : s ≤ 8) (hl : s ≤ l.length) (d : Nat) : ∀ (k i : Nat), i + d = s → d < k →
    weirkeeperref01_Take.l0 k (B l) (s : Int) ((val (l.take i) : Nat) : Int) (i : Int) = some (((val (l.take s) : Nat) : Int), B (l.drop s), 0) := by
  induction d with
  | zero =>
    intro k i hi hk
    obtain ⟨k, rfl⟩ : ∃ m, k = m + 1 := ⟨k - 1, by omega⟩
    have e : i = s := by omega
    subst e
    simp only [weirkeeperref01_Take.l0]
    rw [if_neg (by omega), if_pos (by omega), if_pos (by rw [B_size]; omega), Int.toNat_natCast, B_extract_all]
  | succ d ih =>
    intro k i hi hk
    obtain ⟨k, rfl⟩ : ∃ m, k = m + 1 := ⟨k - 1, by omega⟩
    have w4 : wrap64 ((i : Int) + 1) = ((i + 1 : Nat) : Int) := by rw [wrap64_in (by omega) (by omega)]; omega
    have hv : val (l.take i) < 256 ^ 7 := by
      have h1 := val_lt (l.take i)
      have h2 : (l.take i).length = i := by simp; omega
      rw [h2] at h1
      exact Nat.lt_of_lt_of_le h1 (Nat.pow_le_pow_right (by decide) (by omega))
    have hb : l[i].toNat < 256 := l[i].toNat_lt
    have hbt : bt (B l) (i : Int) = (l[i].toNat : Int) := bt_B l i (by simp; omega)
    have e1 : IntKind.u64.wrap (((val (l.take i) : Nat) : Int) * 256) = ((val (l.take i) : Nat) : Int) * 256 := u64_in (by omega) (by omega)
    have e2 : IntKind.u64.wrap (l[i].toNat : Int) = (l[i].toNat : Int) := u64_in (by omega) (by omega)
    have e3 : IntKind.u64.wrap (((val (l.take i) : Nat) : Int) * 256 + (l[i].toNat : Int)) = ((val (l.take (i + 1)) : Nat) : Int) := by
      rw [u64_in (by omega) (by omega), List.take_succ_eq_append_getElem (by omega), val_append_one]
      omega
    simp only [weirkeeperref01_Take.l0]
    rw [if_pos (by omega), if_pos (by omega), if_pos (by rw [B_size]; omega), hbt, e1, e2, e3, w4]
    exact ih k (i + 1) (by omega) (by omega)
theorem rtake_eq (l : List UInt8) (size : Int) (k : Nat) (hk : 12 ≤ k) :
    weirkeeperref01_Take.f k (B l) size = some (takeR l size) := by
  obtain ⟨k, rfl⟩ : ∃ m, k = m + 1 := ⟨k - 1, by omega⟩
  unfold weirkeeperref01_Take.f takeR
  by_cases h1 : size < 1
  · rw [if_pos h1, if_neg (by omega)]
    simp only [weirkeeperref01_Take.j0]
    rfl
  · rw [if_neg h1]
    simp only [weirkeeperref01_Take.j0]
    by_cases h2 : size > 8
    · rw [decide_eq_true h2, if_pos rfl, if_neg (by omega)]
      rfl
    · obtain ⟨s, rfl⟩ := Int.eq_ofNat_of_zero_le (show 0 ≤ size by omega)
      rw [decide_eq_false h2, if_neg (by decide), B_size, if_pos (show 1 ≤ (s : Int) ∧ (s : Int) ≤ 8 by omega), Int.toNat_natCast]
      by_cases hc : l.length < s
      · rw [if_pos (by omega), if_pos hc]
        rfl
      · rw [if_neg (by omega), if_neg hc]
        have := rtake_loop l s (by omega) (by omega) s k 0 (by omega) (by omega)
        simpa [val] using this
end Go.Proofs.Ythcohkgpbjcliaa.Pl
namespace Go.Proofs.Ythcohkgpbjcliaa.Pl
open Go.RowKit Go.Proofs.Ythcohkgpbjcliaa.F Go.Proofs.YthcohkgpbjcliaaW.PrintWords Go.Proofs.YthcohkgpbjcliaaW.PrintLast Go.Proofs.YthcohkgpbjcliaaW.PrintMore
set_option linter.unusedVariables false
set_option linter.unusedSimpArgs false
theorem cutR_B (l : List UInt8) (h : l.length ≤ 4398046511104) : weirkeeperref06_Cut.f (B l) = some ((cutL l).map B) := cutB_B l h
theorem bytes_eq (t : List UInt8) (ht : t.length ≤ 65535) (k : Nat) (hk : 10 * t.length + 60 < k) : weirkeeperref06_Bytes.f k (B t) = some (B (headB t ++ t)) := by
  have h1 := moreN_lt (be t.length 4 ++ t) 11994318 (by decide)
  have n1 : weirkeeperref01_Num.f k (t.length : Int) 4 = some (B (be t.length 4), 0) := (rnum_eq t.length (by omega) 4 k (by omega)).trans (congrArg some (numR_in t.length 4 (by omega) (by omega) (by omega)))
  have n2 : weirkeeperref01_Num.f k ((sumN (be t.length 4 ++ t) : Nat) : Int) 3 = some (B (be (sumN (be t.length 4 ++ t)) 3), 0) := (rnum_eq _ (by unfold sumN; omega) 3 k (by omega)).trans (congrArg some (numR_in _ 3 (by omega) (by omega) (by unfold sumN; omega)))
  unfold weirkeeperref06_Bytes.f
  rw [B_size, u64_in (by omega) (by omega), n1, Option.bind_some]
  simp only
  rw [if_pos (by rw [B_size, be_length]; omega), B_append, sumR_eq _ (by rw [List.length_append, be_length]; omega) k (by rw [List.length_append, be_length]; omega), Option.bind_some, u64_in (by omega) (by unfold sumN; omega), n2, Option.bind_some]
  simp only
  rw [if_pos (by rw [B_size, B_size, be_length, be_length]; decide), B_append, if_pos (by rw [B_size, List.length_append, be_length, be_length]; omega), B_append]
  rfl
theorem needR_l0 (n : Nat) (hn : n ≤ 65535) : ∀ (d x k : Nat), x + d = needB n → d < k → weirkeeperref06_Need.l0 k (n : Int) (x : Int) = some ((needB n : Nat) : Int)
  | 0, x, k, hx, hk => by
    obtain ⟨k, rfl⟩ : ∃ m, k = m + 1 := ⟨k - 1, by omega⟩
    unfold needB at *
    rw [weirkeeperref06_Need.l0, wrap64_in (by omega) (by omega), wrap64_in (by omega) (by omega), if_neg (by omega)]
    congr 1
    omega
  | d + 1, x, k, hx, hk => by
    obtain ⟨k, rfl⟩ : ∃ m, k = m + 1 := ⟨k - 1, by omega⟩
    have ih := needR_l0 n hn d (x + 1) k (by omega) (by omega)
    unfold needB at hx
    rw [weirkeeperref06_Need.l0, wrap64_in (by omega) (by omega), wrap64_in (n := (n : Int) + 7) (by omega) (by omega), if_pos (by omega), wrap64_in (by omega) (by omega), show ((x : Int) + 1) = ((x + 1 : Nat) : Int) by omega, ih]
theorem needR_eq (n : Nat) (hn : n ≤ 65535) (k : Nat) (hk : 2100 < k) : weirkeeperref06_Need.f k (n : Int) = some ((needB n : Nat) : Int) := by
  obtain ⟨k, rfl⟩ : ∃ m, k = m + 1 := ⟨k - 1, by omega⟩
  unfold weirkeeperref06_Need.f
  rw [if_neg (by omega), decide_eq_false (by omega), weirkeeperref06_Need.j0, if_neg (by simp), show (0 : Int) = ((0 : Nat) : Int) from rfl]
  exact needR_l0 n hn (needB n) 0 k (by omega) (by unfold needB; omega)
theorem bwrite_both (S : List ByteArray) (W : List Wr) (hS : S.length ≤ 1000) (hW : W.length ≤ 1000) (a : Int) (t : List UInt8) (ht : t.length ≤ 9000000000000) (k : Nat) (hk : 700000 < k) :
    ∃ V e, block_Write.f k S W a (B t) = some (S, V, e) ∧ weirkeeperref06_Write.f k S (W.map toW) a (B t) = some (S, V.map toW, e) ∧ V.length ≤ W.length + 2100 := by
  unfold block_Write.f weirkeeperref06_Write.f
  rw [B_size]
  by_cases c : t.length ≤ 65535
  · have hl : ((secB t).map B).length ≤ 2100 := by rw [List.length_map, secB_length]; unfold needB; omega
    obtain ⟨V, e, h1, h2, h4, h3⟩ := refPut_eq S W (by omega) (by omega) a ((secB t).map B) (by omega) k (by omega)
    rw [if_neg (by omega), if_neg (by omega), heading_eq t (by omega) k (by omega), Option.bind_some, B_size, headB_length, if_pos (by omega), B_append, cutB_B _ (by rw [List.length_append, headB_length]; omega), Option.bind_some,
      bytes_eq t c k (by omega), Option.bind_some, cutR_B _ (by rw [List.length_append, headB_length]; omega), Option.bind_some]
    show ∃ V e, ((disk_Put.f S W a ((secB t).map B)).bind _) = _ ∧ ((weirkeeperref04_Put.f k S (W.map toW) a ((secB t).map B)).bind _) = _ ∧ _
    rw [h1, h2, Option.bind_some, Option.bind_some]
    rcases h3 with rfl | ⟨rfl, rfl⟩
    · exact ⟨V, 0, by simp, rfl, by omega⟩
    · exact ⟨V, 1, by simp, rfl, by omega⟩
  · rw [if_pos (by omega), if_pos (by omega)]
    exact ⟨W, 1, rfl, rfl, by omega⟩
theorem zeroR_l0 (s t : List UInt8) (z : Nat) (q : Int) (hs : s.length ≤ 4000000000000) (ht : t.length ≤ 4000000000000) (hz : z ≤ t.length) : ∀ (d i k : Nat), i + d = t.length → d + 10 * (t.length + 4) + 5 < k → 4 ≤ s.length →
    weirkeeperref06_Read.l0 k (B s) (z : Int) q (B t) (i : Int) = some (if (∀ c ∈ t.drop i, c = 0) ∧ ((sumN (s.take 4 ++ t.take z) : Nat) : Int) = q then (B (t.take z), 0) else (B [], 4))
  | 0, i, k, hi, hk, h4 => by
    obtain ⟨k, rfl⟩ : ∃ m, k = m + 1 := ⟨k - 1, by omega⟩
    have h1 := moreN_lt (s.take 4 ++ t.take z) 11994318 (by decide)
    rw [weirkeeperref06_Read.l0, if_neg (by rw [B_size]; omega), if_pos (by omega), if_pos (by rw [B_size]; omega), if_pos (by omega), if_pos (by rw [B_size]; omega), B_extract, B_extract, Int.toNat_natCast, List.drop_zero, List.drop_zero,
      if_pos (by rw [B_size, B_size, List.length_take, List.length_take]; omega), B_append, sumR_eq _ (by rw [List.length_append, List.length_take, List.length_take]; omega) k (by rw [List.length_append, List.length_take, List.length_take]; omega), Option.bind_some, u64_in (by omega) (by unfold sumN; omega), List.drop_of_length_le (by omega)]
    by_cases c : ((sumN (s.take 4 ++ t.take z) : Nat) : Int) = q
    · rw [if_pos c, if_pos ⟨fun c hc => (by cases hc), c⟩]
    · rw [if_neg c, if_neg (fun h => c h.2)]
      rfl
  | d + 1, i, k, hi, hk, h4 => by
    obtain ⟨k, rfl⟩ : ∃ m, k = m + 1 := ⟨k - 1, by omega⟩
    have hlt : i < t.length := by omega
    have hb : bt (B t) (i : Int) = (t[i].toNat : Int) := by rw [bt_B t i (by simpa using hlt)]; simp
    rw [weirkeeperref06_Read.l0, if_pos (by rw [B_size]; omega), if_pos (by omega), hb, List.drop_eq_getElem_cons hlt]
    by_cases c : t[i] = 0
    · rw [if_pos (by rw [c]; rfl), wrap64_in (by omega) (by omega), show ((i : Int) + 1) = ((i + 1 : Nat) : Int) by omega, zeroR_l0 s t z q hs ht hz d (i + 1) k (by omega) (by omega) h4]
      simp only [List.mem_cons, forall_eq_or_imp, c, true_and]
    · rw [if_neg (by intro h; exact c (UInt8.toNat_inj.1 (by simpa using h))), if_neg (fun h => c (h.1 _ List.mem_cons_self))]
      rfl
theorem split_read (s : List UInt8) (z : Nat) (h : 7 + z ≤ s.length) : s = s.take 4 ++ ((s.drop 4).take 3 ++ ((s.drop 7).take z ++ (s.drop 7).drop z)) := by
  rw [List.take_append_drop, show s.drop 7 = (s.drop 4).drop 3 by rw [List.drop_drop], List.take_append_drop, List.take_append_drop]
theorem read_iff (s : List UInt8) (z : Nat) (hz : val (s.take 4) = z) (hz2 : z ≤ 65535) (h : s.length = 32 * needB z) :
    (s = (secB ((s.drop 7).take z)).flatten) ↔ ((∀ c ∈ (s.drop 7).drop z, c = 0) ∧ ((sumN (s.take 4 ++ (s.drop 7).take z) : Nat) : Int) = ((val ((s.drop 4).take 3) : Nat) : Int)) := by
  have h7 : 7 + z ≤ s.length := by rw [h]; unfold needB; omega
  have hT : ((s.drop 7).take z).length = z := by rw [List.length_take, List.length_drop]; omega
  have ha : (s.take 4).length = 4 := by rw [List.length_take]; omega
  have hb : ((s.drop 4).take 3).length = 3 := by rw [List.length_take, List.length_drop]; omega
  have hr : ((s.drop 7).drop z).length = 32 * needB z - (7 + z) := by rw [List.length_drop, List.length_drop, h]; omega
  have he : be z 4 = s.take 4 := by rw [← hz]; exact be_val 4 _ ha
  have hσ := moreN_lt (s.take 4 ++ (s.drop 7).take z) 11994318 (by decide)
  have hs := split_read s z h7
  rw [secB_flat, hT, headB, hT, he, List.append_assoc, List.append_assoc]
  constructor
  · intro e
    have e' := hs.symm.trans e
    have e1 := List.append_inj e' rfl
    have e2 := List.append_inj e1.2 (by rw [hb, be_length])
    have e3 := List.append_inj e2.2 rfl
    refine ⟨fun c hc => (List.eq_replicate_iff.1 e3.2).2 c hc, ?_⟩
    rw [e2.1, val_be]
    unfold sumN
    omega
  · rintro ⟨e1, e2⟩
    have e3 : (s.drop 7).drop z = List.replicate (32 * needB z - (7 + z)) 0 := List.eq_replicate_iff.2 ⟨hr, e1⟩
    have e4 : be (sumN (s.take 4 ++ (s.drop 7).take z)) 3 = (s.drop 4).take 3 := by
      rw [show sumN (s.take 4 ++ (s.drop 7).take z) = val ((s.drop 4).take 3) by omega]
      exact be_val 3 _ hb
    rw [e4, ← e3]
    exact hs
theorem readRef_eq (s : List UInt8) (n : Nat) (h32 : s.length = 32 * n) (hs : n ≤ 100000) (k : Nat) (hk : 40 * s.length + 3000 < k) (S : List ByteArray) (W' : List RWr) (a : Int) (hr : weirkeeperref04_Read.f k S W' a (n : Int) = some (B s, 0)) :
    weirkeeperref06_Read.f k S W' a (n : Int) = some (readR s (n : Int)) := by
  obtain ⟨k, rfl⟩ : ∃ m, k = m + 1 := ⟨k - 1, by omega⟩
  unfold weirkeeperref06_Read.f readR
  rw [hr, Option.bind_some]
  simp only
  have ht : takeR s 4 = if s.length < 4 then (0, B [], 2) else (((val (s.take 4) : Nat) : Int), B (s.drop 4), 0) := by
    unfold takeR
    rw [if_pos (by decide)]
    rfl
  rw [if_pos trivial, rtake_eq s 4 (k + 1) (by omega), Option.bind_some, ht]
  by_cases c1 : s.length < 4
  · rw [if_pos c1]
    simp only
    rw [if_neg (by decide), weirkeeperref06_Read.j0, if_pos rfl, if_neg (by omega)]
    rfl
  · rw [if_neg c1]
    simp only
    have hv : val (s.take 4) < 4294967296 := by
      have := val_lt (s.take 4)
      rw [List.length_take, show min 4 s.length = 4 by omega] at this
      exact this
    rw [if_pos trivial]
    by_cases c2 : val (s.take 4) ≤ 65535
    · rw [if_neg (by omega), wrap64_in (by omega) (by omega), needR_eq _ c2 _ (by omega), Option.bind_some, weirkeeperref06_Read.j0]
      by_cases c3 : ((needB (val (s.take 4)) : Nat) : Int) = n
      · have hn : needB (val (s.take 4)) = n := by omega
        have h7 : 7 + val (s.take 4) ≤ s.length := by rw [h32, ← hn]; unfold needB; omega
        have ht3 : takeR (s.drop 4) 3 = (((val ((s.drop 4).take 3) : Nat) : Int), B ((s.drop 4).drop 3), 0) := by
          unfold takeR
          rw [if_pos (by decide), if_neg (by rw [List.length_drop]; omega)]
          rfl
        rw [if_neg (by rw [bne_iff_ne]; exact fun h => h c3), rtake_eq (s.drop 4) 3 k (by omega), Option.bind_some, ht3]
        simp only
        rw [if_pos (show 4 ≤ s.length ∧ val (s.take 4) ≤ 65535 ∧ ((needB (val (s.take 4)) : Nat) : Int) = (n : Int) from ⟨by omega, c2, c3⟩), wrap64_in (by omega) (by omega), List.drop_drop, zeroR_l0 s (s.drop 7) (val (s.take 4)) _ (by omega) (by rw [List.length_drop]; omega) (by rw [List.length_drop]; omega) (s.length - 7 - val (s.take 4)) (val (s.take 4)) k (by rw [List.length_drop]; omega) (by rw [List.length_drop]; omega) (by omega)]
        by_cases c4 : s = (secB ((s.drop 7).take (val (s.take 4)))).flatten
        · rw [if_pos c4, if_pos ((read_iff s _ rfl c2 (by rw [hn]; exact h32)).1 c4)]
        · rw [if_neg c4, if_neg (fun h => c4 ((read_iff s _ rfl c2 (by rw [hn]; exact h32)).2 h))]
      · rw [if_pos (by rw [bne_iff_ne]; exact c3), if_neg (fun h => c3 h.2.2)]
        rfl
    · rw [if_pos (by omega), weirkeeperref06_Read.j0, if_pos rfl, if_neg (fun h => c2 h.2.1)]
      rfl
end Go.Proofs.Ythcohkgpbjcliaa.Pl
namespace Go.Proofs.Ythcohkgpbjcliaa.Pl
open Go.RowKit Go.Proofs.Ythcohkgpbjcliaa.F Go.Proofs.YthcohkgpbjcliaaW.PrintWords Go.Proofs.YthcohkgpbjcliaaW.PrintLast Go.Proofs.YthcohkgpbjcliaaW.PrintMore
set_option linter.unusedVariables false
set_option linter.unusedSimpArgs false
theorem right7 (a b c : Int) : weirkeeperref07_Right.f a b c = some (decide ((0 ≤ a ∧ a ≤ 2147483647) ∧ (0 ≤ b ∧ b ≤ 2147483647) ∧ (0 ≤ c ∧ c ≤ 2147483647))) := by
  unfold weirkeeperref07_Right.f
  by_cases h1 : a < 0
  · rw [if_pos h1, decide_eq_false (by omega)]
  by_cases h2 : b < 0
  · rw [if_neg h1, if_pos h2, decide_eq_false (by omega)]
  by_cases h3 : c < 0
  · rw [if_neg h1, if_neg h2, if_pos h3, decide_eq_false (by omega)]
  rw [if_neg h1, if_neg h2, if_neg h3]
  by_cases h4 : a ≤ 2147483647
  · by_cases h5 : b ≤ 2147483647
    · rw [if_pos h4, if_pos h5]
      congr 1
      rw [decide_eq_decide]
      omega
    · rw [if_pos h4, if_neg h5, decide_eq_false (by omega)]
  · rw [if_neg h4, decide_eq_false (by omega)]
theorem text7 (g a m : Nat) (hg : g ≤ 2147483647) (ha : a ≤ 2147483647) (hm : m ≤ 2147483647) (k : Nat) (hk : 20 ≤ k) : weirkeeperref07_text.f k (g : Int) (a : Int) (m : Int) = some (B (rootT g a m)) := by
  have n : ∀ x : Nat, x ≤ 2147483647 → weirkeeperref01_Num.f k (IntKind.u64.wrap (x : Int)) 4 = some (B (be x 4), 0) := fun x hx => by
    rw [u64_in (by omega) (by omega)]
    exact (rnum_eq x (by omega) 4 k (by omega)).trans (congrArg some (numR_in x 4 (by omega) (by omega) (by omega)))
  unfold weirkeeperref07_text.f
  rw [n g hg, Option.bind_some, n a ha, Option.bind_some, n m hm, Option.bind_some]
  simp only
  rw [if_pos (by rw [B_size, B_size, be_length, be_length]; decide), B_append, if_pos (by rw [B_size, B_size, List.length_append, be_length, be_length, be_length]; decide), B_append]
  rfl
theorem rwrite_both (S : List ByteArray) (W : List Wr) (hS : S.length ≤ 1000) (hW : W.length ≤ 1000) (g a m : Int) (k : Nat) (hk : 700010 < k) :
    ∃ V e, root_Write.f k S W g a m = some (S, V, e) ∧ weirkeeperref07_Write.f k S (W.map toW) g a m = some (S, V.map toW, e) ∧ V.length ≤ W.length + 2100 := by
  unfold root_Write.f weirkeeperref07_Write.f
  rw [root_right, right7]
  by_cases c : (0 ≤ g ∧ g ≤ 2147483647) ∧ (0 ≤ a ∧ a ≤ 2147483647) ∧ (0 ≤ m ∧ m ≤ 2147483647)
  · rw [decide_eq_true c, Option.bind_some, if_pos rfl, Option.bind_some, Option.bind_some, if_pos rfl]
    obtain ⟨⟨g0, g1⟩, ⟨a0, a1⟩, m0, m1⟩ := c
    obtain ⟨g, rfl⟩ := Int.eq_ofNat_of_zero_le g0
    obtain ⟨a, rfl⟩ := Int.eq_ofNat_of_zero_le a0
    obtain ⟨m, rfl⟩ := Int.eq_ofNat_of_zero_le m0
    obtain ⟨V, e, h1, h2, h3⟩ := bwrite_both S W hS hW (Int.tmod (g : Int) 2) (rootT g a m) (by rw [rootT_length]; omega) (k - 4) (by omega)
    have h2' := at_rounds (weirkeeperref06_Write.mono S (W.map toW) (Int.tmod (g : Int) 2) (B (rootT g a m))) (show k - 4 ≤ k by omega) h2
    refine ⟨V, e, ?_, ?_, h3⟩
    · rw [root_text g a m (by omega) (by omega) (by omega) k (by omega), h1]
      rfl
    · rw [text7 g a m (by omega) (by omega) (by omega) k (by omega), Option.bind_some, h2']
      rfl
  · rw [decide_eq_false c]
    exact ⟨W, 1, rfl, rfl, by omega⟩
theorem read7 (S : List ByteArray) (W' : List RWr) (a : Int) (t : List UInt8) (e : Int) (ht : t.length ≤ 4000000000000) (k : Nat) (hk : 20 ≤ k) (h : weirkeeperref06_Read.f k S W' a 1 = some (B t, e)) :
    weirkeeperref07_Read.f k S W' a = some (rootR (B t) e a) := by
  obtain ⟨k, rfl⟩ : ∃ m, k = m + 1 := ⟨k - 1, by omega⟩
  have jt : weirkeeperref07_Read.j0 (k + 1) a (B t) true = some (0, 0, 0, false) := by rw [weirkeeperref07_Read.j0, if_pos rfl]
  unfold weirkeeperref07_Read.f rootR
  rw [h, Option.bind_some, B_data]
  simp only
  by_cases c1 : e = 0
  · by_cases c2 : a < 0
    · rw [if_pos c1, if_pos c2, jt, if_neg (fun h => absurd h.2.1 (by omega))]
    by_cases c3 : a > 1
    · rw [if_pos c1, if_neg c2, if_pos c3, jt, if_neg (fun h => absurd h.2.2.1 (by omega))]
    rw [if_pos c1, if_neg c2, if_neg c3]
    by_cases c4 : t.length = 12
    · have hb : (((B t).size : Int) != 12) = false := bne_eq_false_iff_eq.2 (by rw [B_size]; omega)
      have tk : ∀ l : List UInt8, 4 ≤ l.length → weirkeeperref01_Take.f k (B l) 4 = some (((val (l.take 4) : Nat) : Int), B (l.drop 4), 0) := fun l hl => by
        rw [rtake_eq l 4 k (by omega)]
        unfold takeR
        rw [if_pos (by decide), if_neg (by show ¬ l.length < 4; omega)]
        rfl
      have hv : ∀ l : List UInt8, val (l.take 4) < 4294967296 := fun l => by
        have := val_lt (l.take 4)
        have h2 : (l.take 4).length ≤ 4 := by rw [List.length_take]; omega
        exact Nat.lt_of_lt_of_le this (Nat.pow_le_pow_right (by decide) h2)
      have r0 : val (t.take 4) = rootN t 0 := by unfold rootN; rw [Nat.mul_zero, List.drop_zero]
      have r1 : val ((t.drop 4).take 4) = rootN t 1 := rfl
      have r2 : val ((t.drop 8).take 4) = rootN t 2 := rfl
      have v0 := hv t
      have v1 := hv (t.drop 4)
      have v2 := hv (t.drop 8)
      rw [hb, weirkeeperref07_Read.j0, if_neg (by simp), tk t (by omega), Option.bind_some]
      simp only
      rw [tk (t.drop 4) (by rw [List.length_drop]; omega), Option.bind_some]
      simp only
      rw [List.drop_drop, tk (t.drop (4 + 4)) (by rw [List.length_drop]; omega), Option.bind_some]
      simp only
      rw [show 4 + 4 = 8 from rfl]
      rw [r0] at v0 ⊢
      rw [r1] at v1 ⊢
      rw [r2] at v2 ⊢
      rw [wrap64_in (by omega) (by omega), wrap64_in (by omega) (by omega), wrap64_in (by omega) (by omega), right7, Option.bind_some, tmod2]
      by_cases c5 : rootN t 0 ≤ 2147483647 ∧ rootN t 1 ≤ 2147483647 ∧ rootN t 2 ≤ 2147483647
      · rw [if_pos (decide_eq_true ⟨⟨by omega, by omega⟩, ⟨by omega, by omega⟩, by omega, by omega⟩)]
        by_cases c6 : ((rootN t 0 % 2 : Nat) : Int) = a
        · rw [if_pos c6, if_pos ⟨c1, by omega, by omega, by unfold rootB; simp [c4, c5.1, c5.2.1, c5.2.2, c6]⟩]
        · rw [if_neg c6, if_neg (fun h => c6 (by have := h.2.2.2; unfold rootB at this; simp only [Bool.and_eq_true, decide_eq_true_eq] at this; exact this.2))]
      · rw [if_neg (by rw [decide_eq_true_eq]; omega), if_neg (fun h => c5 (by have := h.2.2.2; unfold rootB at this; simp only [Bool.and_eq_true, decide_eq_true_eq] at this; omega))]
    · have hb : (((B t).size : Int) != 12) = true := bne_iff_ne.2 (by rw [B_size]; omega)
      rw [hb, jt, if_neg (fun h => c4 (by have := h.2.2.2; unfold rootB at this; simp only [Bool.and_eq_true, decide_eq_true_eq] at this; omega))]
  · rw [if_neg c1, jt, if_neg (fun h => c1 h.1)]
theorem rootR_shape (s : ByteArray) (e a : Int) : rootR s e a = (0, 0, 0, false) ∨ ∃ x y z : Int, rootR s e a = (x, y, z, true) ∧ Int.emod x 2 = a := by
  unfold rootR
  split
  · rename_i h
    refine .inr ⟨_, _, _, rfl, ?_⟩
    have := h.2.2.2
    unfold rootB at this
    simp only [Bool.and_eq_true, decide_eq_true_eq] at this
    have h2 := this.2
    show ((rootN s.data.toList 0 : Nat) : Int) % 2 = a
    omega
  · exact .inl rfl
theorem rread_both (S : List ByteArray) (W : List Wr) (hS : S.length ≤ 1000) (hW : W.length ≤ 1000) (a : Int) (k : Nat) (hk : 10000 < k) :
    ∃ r, root_Read.f S W a = some r ∧ weirkeeperref07_Read.f k S (W.map toW) a = some r ∧ (r = (0, 0, 0, false) ∨ ∃ x y z : Int, r = (x, y, z, true) ∧ Int.emod x 2 = a) := by
  have hf := fit_of (S := S) (W := W) (by omega) (by omega)
  by_cases c : (disk_right S W && thereB S.length a 1) = true
  · rw [Bool.and_eq_true] at c
    have h3 := (there_iff _ _ _).1 c.2
    obtain ⟨a, rfl⟩ : ∃ a' : Nat, a = a' := ⟨a.toNat, by omega⟩
    have himg : Img W.length S W ((applyW alw 0 W S).map (·.data.toList)) := ⟨Nat.le_refl _, c.1, by
      rw [List.map_map]
      conv => lhs; rw [← List.map_id (applyW alw 0 W S)]
      apply List.map_congr_left
      intro s _
      exact (B_of s)⟩
    generalize (applyW alw 0 W S).map (·.data.toList) = I at himg
    have hl := himg.len
    have hr := refRead_ok himg (by omega) a 1 (by omega) k (by omega)
    rw [flatten_one I a (by omega)] at hr
    have h32 := himg.all32 I[a] (List.getElem_mem (by omega))
    have h6 := readRef_eq I[a] 1 (by omega) (by decide) k (by omega) S (W.map toW) (a : Int) hr
    have hp := himg.rread (by omega) a (by omega)
    obtain ⟨t, ht⟩ : ∃ t, (readR I[a] 1).1 = B t := ⟨(readR I[a] 1).1.data.toList, (B_of _)⟩
    have hsz : t.length ≤ 4000000000000 := by
      have h7 : (readR I[a] 1).1.size ≤ 32 := by
        unfold readR
        split
        · split
          · rw [B_size, List.length_take, List.length_drop]; omega
          · rw [B_size]; simp
        · rw [B_size]; simp
      rw [ht, B_size] at h7
      omega
    have h7 := read7 S (W.map toW) (a : Int) t (readR I[a] 1).2 hsz k (by omega) (by rw [← ht]; exact h6)
    rw [← ht] at h7
    exact ⟨rootS I[a] (a : Int), hp, h7, rootR_shape _ _ _⟩
  · have c' := Bool.eq_false_iff.2 c
    have hr := refRead_bad S W (by omega) (by omega) a 1 c' k (by omega)
    have h6 : weirkeeperref06_Read.f k S (W.map toW) a 1 = some (B [], 1) := by
      unfold weirkeeperref06_Read.f
      rw [hr, Option.bind_some, if_neg (by decide)]
      rfl
    have h7 := read7 S (W.map toW) a [] 1 (by simp) k (by omega) h6
    have hz : rootR (B []) 1 a = (0, 0, 0, false) := if_neg (fun h => absurd h.1 (by decide))
    rw [hz] at h7
    refine ⟨_, rread_bad hf a (fun h => c ?_), h7, .inl rfl⟩
    rw [Bool.and_eq_true]
    exact ⟨h.1, (there_iff _ _ _).2 ⟨by omega, by omega, by omega, by omega⟩⟩
theorem best_both (S : List ByteArray) (W : List Wr) (hS : S.length ≤ 1000) (hW : W.length ≤ 1000) (k : Nat) (hk : 10000 < k) :
    ∃ (x y z : Int) (e : Int) (b : Bool), root_Best.f k S W = some (x, y, z, e) ∧ weirkeeperref07_Best.f k S (W.map toW) = some (x, y, z, b) ∧ (b = true ∧ e = 0 ∨ b = false ∧ e = 3) := by
  obtain ⟨r0, p0, q0, s0⟩ := rread_both S W hS hW 0 k hk
  obtain ⟨r1, p1, q1, s1⟩ := rread_both S W hS hW 1 k hk
  rw [best_eq S W r0 r1 p0 p1 k (by omega)]
  unfold weirkeeperref07_Best.f bestR
  rw [q0, q1, Option.bind_some, Option.bind_some]
  rcases s0 with rfl | ⟨x0, y0, z0, rfl, m0⟩ <;> rcases s1 with rfl | ⟨x1, y1, z1, rfl, m1⟩
  · exact ⟨0, 0, 0, 3, false, rfl, rfl, .inr ⟨rfl, rfl⟩⟩
  · exact ⟨x1, y1, z1, 0, true, rfl, rfl, .inl ⟨rfl, rfl⟩⟩
  · exact ⟨x0, y0, z0, 0, true, by simp, rfl, .inl ⟨rfl, rfl⟩⟩
  · have hne : x0 ≠ x1 := by
      rintro rfl
      rw [m0] at m1
      cases m1
    by_cases c : x0 > x1
    · refine ⟨x0, y0, z0, 0, true, by simp [c], ?_, .inl ⟨rfl, rfl⟩⟩
      simp only
      rw [if_pos trivial, if_pos trivial, if_neg (by omega)]
    · refine ⟨x1, y1, z1, 0, true, by simp [c], ?_, .inl ⟨rfl, rfl⟩⟩
      simp only
      rw [if_pos trivial, if_pos trivial, if_pos (by omega)]
end Go.Proofs.Ythcohkgpbjcliaa.Pl
namespace Go.Proofs.Ythcohkgpbjcliaa.Pl
open Go.RowKit Go.Proofs.Ythcohkgpbjcliaa.F Go.Proofs.YthcohkgpbjcliaaW.PrintWords
theorem awake7 : weirkeeperlaw07_awake.f 100 = some true := by kernel_rfl
theorem awake7At (k : Nat) (hk : 100 ≤ k) : weirkeeperlaw07_awake.f k = some true := at_rounds weirkeeperlaw07_awake.mono hk awake7
end Go.Proofs.Ythcohkgpbjcliaa.Pl
namespace Go.Proofs.Ythcohkgpbjcliaa.PlRootTells
open Go.RowKit Go.Proofs.Ythcohkgpbjcliaa.F Go.Proofs.YthcohkgpbjcliaaW.PrintWords Go.Proofs.YthcohkgpbjcliaaW.PrintLast Go.Proofs.YthcohkgpbjcliaaW.PrintMore Go.Proofs.Ythcohkgpbjcliaa.Pl
set_option linter.unusedVariables false
set_option linter.unusedSimpArgs false
theorem pure : ∀ (l0_0 : List ByteArray) (l0_1 : List F.S83) (a1_0 : Int) (a1_1 : Int) (a1_2 : Int) (a2 : Int), (((∀ yy ∈ l0_0, yy.size ≤ maxLen) ∧ l0_0.length ≤ maxLen) ∧ l0_0.length * 16 ≤ 140737488351232) → (((∀ yy ∈ l0_1, ((Lit.int .i64 yy.f0).wf = true ∧ yy.f1.size ≤ maxLen)) ∧ l0_1.length ≤ maxLen) ∧ l0_1.length * 24 ≤ 140737488351232) → (Lit.int .i64 a1_0).wf = true → (Lit.int .i64 a1_1).wf = true → (Lit.int .i64 a1_2).wf = true → (Lit.int .i64 a2).wf = true → ∃ k, F.weirkeeperlaw07_RootTells.f k l0_0 l0_1 a1_0 a1_1 a1_2 a2 = some true := by
  intro S W g a m p hS hW _ _ _ _
  refine ⟨800000, ?_⟩
  unfold weirkeeperlaw07_RootTells.f
  rw [law4ref_eq S W hW.2, Option.bind_some]
  simp only
  rw [small_eq, Option.bind_some, List.length_map]
  by_cases c : S.length ≤ 100 ∧ W.length ≤ 60
  · obtain ⟨V, e, w1, w2, w3⟩ := rwrite_both S W (by omega) (by omega) g a m 800000 (by omega)
    obtain ⟨⟨x0, x1, x2, x3⟩, r1, r2, _⟩ := rread_both S W (by omega) (by omega) p 800000 (by omega)
    obtain ⟨y0, y1, y2, e2, b, b1, b2, b3⟩ := best_both S W (by omega) (by omega) 800000 (by omega)
    rw [if_pos (decide_eq_true c), w1, Option.bind_some, w2, Option.bind_some, r1, Option.bind_some, r2, Option.bind_some, b1, Option.bind_some, b2, Option.bind_some, root_right, Option.bind_some, right7, Option.bind_some, if_pos (beq_self_eq_true _)]
    simp only
    rw [law4ref_eq S V (by omega), Option.bind_some]
    simp only
    rw [same_eq S S (V.map toW) (V.map toW) (by omega) (by rw [List.length_map]; omega) 800000 (by rw [List.length_map]; omega), Option.bind_some, if_pos (decide_eq_true ⟨rfl, rfl⟩), if_pos trivial, if_pos (by simp), if_pos (by simp), if_pos (by simp), awake7At _ (by omega)]
    rcases b3 with ⟨rfl, rfl⟩ | ⟨rfl, rfl⟩
    · simp
    · simp
  · rw [if_neg (by rw [decide_eq_true_eq]; exact c), awake7At _ (by omega)]
    rfl
end Go.Proofs.Ythcohkgpbjcliaa.PlRootTells
