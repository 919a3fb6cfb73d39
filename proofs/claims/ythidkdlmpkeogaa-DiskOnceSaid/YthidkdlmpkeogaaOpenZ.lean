/- Opening a law's arguments that are structs of slices: beside what Open.lean tells, how long the slices may be, by the reach. -/
import Derived.Test.YthidkdlmpkeogaaOpen
namespace Go.Proofs.Ythidkdlmpkeogaa.Open
open Go.ChangeShapes Go.WideShapes Go.ChangeAt Go.RowKit Go.Deep
open Go.Proofs.YthidkdlmpkeogaaW.PrintWords Go.Proofs.YthidkdlmpkeogaaW.PrintMore

/-- What reads at type t, and weighs no more than the reach, is of kind d; Q says more of it. -/
def OpensZ {α : Type} (P : Program) (t : TypeId) (d : Kd α) (Q : α → Prop) : Prop :=
  ∀ {H : Type} {enc : TypeId × Value → H} {w : World} {fuel : Nat} {cs : List Value} {y : DataW H × List MemPlace},
    DataW.trod enc P w 0 (fun _ => true) true fuel t cs = some y → (∀ n ∈ y.1.weights P t, n ≤ reachBytes) → ∃ x, d.K w x cs ∧ Q x
section
variable {P : Program}
theorem OpensZ.of {α : Type} {t : TypeId} {d : Kd α} {Q : α → Prop} (h : Opens P t d Q) : OpensZ P t d Q := fun hy _ => h hy
theorem opensZ_slice {α : Type} {t e : TypeId} {d : Kd α} {Q : α → Prop} {B : Nat} (ht : P.underlying t = some (.slice e)) (hc : P.cellsOf e = d.sz) (hB : P.bytesOf e = B) (h : Opens P e d Q) :
    OpensZ P t (Kd.slice e d) (fun xs => ((∀ x ∈ xs, Q x) ∧ xs.length ≤ maxLen) ∧ xs.length * B ≤ 140737488351232) := by
  intro H enc w fuel cs y hy hz
  obtain ⟨xs, hk, hq⟩ := opens_slice ht hc h hy
  refine ⟨xs, hk, hq, ?_⟩
  obtain ⟨A, c, e0, hl, hC⟩ := hk
  rcases DataW.trod_slice ht hy with ⟨rfl, _⟩ | ⟨a, len, cap, elems, rest, n, _, rfl, rfl, _, _, hm, hlen, _, _, _⟩
  · simp at e0
    have : xs.length = 0 := e0.2.1.symm
    simp [this]
  · simp at e0
    obtain ⟨_, e1, _⟩ := e0
    have := hz ((elems.length + rest.length) * P.bytesOf e) (by simp [DataW.weights, ht])
    rw [hB] at this
    have hr : reachBytes = 140737488351232 := by decide
    have h2 : xs.length * B ≤ (elems.length + rest.length) * B := Nat.mul_le_mul_right _ (by omega)
    omega
theorem opensZ_struct2 {α0 α1 β : Type} {d0 : Kd α0} {d1 : Kd α1} {Q0 : α0 → Prop} {Q1 : α1 → Prop} {t : TypeId} {f0 f1 : Field} (ht : P.underlying t = some (.struct #[f0, f1])) (hone : oneCellFields P #[f0, f1] = true) (hC : P.cellsOf t = 2)
    (h0 : OpensZ P f0.type d0 Q0) (h1 : OpensZ P f1.type d1 Q1) (f : β → α0 × α1) (g : α0 × α1 → β) (hfg : ∀ x, f (g x) = x) :
    OpensZ P t (Kd.iso (Kd.pair d0 d1) f) (fun x => Q0 (f x).1 ∧ Q1 (f x).2) := by
  intro H enc w fuel cs y hy hz
  obtain ⟨ys, n, _, rfl, hl, hyl, hf⟩ := DataW.trod_struct ht hy
  rw [hC] at hl
  obtain ⟨v0, y0, c0, t0⟩ := field_at hone hl hyl hf 0 f0 rfl
  obtain ⟨v1, y1, c1, t1⟩ := field_at hone hl hyl hf 1 f1 rfl
  have hw : (DataW.agg (ys.map (·.1))).weights P t = DataW.weightsEach P [f0.type, f1.type] (ys.map (·.1)) := by simp [DataW.weights, ht]
  rw [hw] at hz
  have e0 : ys[0]? = some y0 := by
    have h2 := hf 0 f0 rfl
    obtain ⟨ho, hk⟩ := hone_of hone 0 f0 rfl
    rw [ho, hk, show (cs.drop 0).take 1 = [v0] by match cs, hl with | [a0, a1], _ => simp at c0; subst c0; rfl, t0] at h2
    exact h2.symm
  have e1 : ys[1]? = some y1 := by
    have h2 := hf 1 f1 rfl
    obtain ⟨ho, hk⟩ := hone_of hone 1 f1 rfl
    rw [ho, hk, show (cs.drop 1).take 1 = [v1] by match cs, hl with | [a0, a1], _ => simp at c1; subst c1; rfl, t1] at h2
    exact h2.symm
  obtain ⟨x0, k0, q0⟩ := h0 t0 (fun n hn => hz n (DataW.weights_mem_each (j := 0) rfl (by simp [e0]) n hn))
  obtain ⟨x1, k1, q1⟩ := h1 t1 (fun n hn => hz n (DataW.weights_mem_each (j := 1) rfl (by simp [e1]) n hn))
  match cs, hl with
  | [a0, a1], _ =>
    simp at c0 c1
    subst c0 c1
    exact ⟨g (x0, x1), by show (Kd.pair d0 d1).K w (f (g (x0, x1))) _; rw [hfg]; exact ⟨[a0], [a1], rfl, k0, k1⟩, by simp only [hfg]; exact ⟨q0, q1⟩⟩
section
variable {H : Type} {enc : TypeId × Value → H} {W : World} {r : Reach} {b0 : Nat} {v : Value} {dd : DataW H} {p : List MemPlace} {α : Type} {d : Kd α} {Q : α → Prop}
/-- An argument that is a struct. -/
theorem argZ_struct {t : TypeId} {fs : Array Field} (ht : P.underlying t = some (.struct fs)) (hv : Value.okWide P W r b0 t v) (hd : DataW.Trod enc P W 0 (fun _ => true) true t v dd p) (h : OpensZ P t d Q)
    {ts : List TypeId} {ds : List (DataW H)} {j : Nat} (hsz : (DataW.weightsEach P ts ds).all (· ≤ reachBytes) = true) (htj : ts[j]? = some t) (hdj : ds[j]? = some dd) :
    ∃ (cs : List Value) (x : α), v = .agg cs.toArray ∧ d.K W x cs ∧ Q x := by
  obtain ⟨cs, rfl, _⟩ := okWide_struct ht hv
  obtain ⟨fuel, hf⟩ := hd
  obtain ⟨x, hk, hq⟩ := h hf (fun n hn => by
    have := List.all_eq_true.1 hsz n (DataW.weights_mem_each htj hdj n hn)
    simpa using this)
  exact ⟨cs.toList, x, by simp, by simpa [Value.cells] using hk, hq⟩
end
end
end Go.Proofs.Ythidkdlmpkeogaa.Open
