/- What is taken of any bytes is written as just these, and the rest. -/
import Derived.Test.YthidkdlmpkeogaaFlaw13FlatOnce
import Derived.Test.YthidkdlmpkeogaaPlAwake13
import Derived.Test.YthidkdlmpkeogaaPlFlatR2
namespace Go.Proofs.Ythidkdlmpkeogaa.PlFlatOnce
open Go.RowKit Go.Proofs.Ythidkdlmpkeogaa.F Go.Proofs.YthidkdlmpkeogaaW.PrintWords Go.Proofs.YthidkdlmpkeogaaW.PrintLast Go.Proofs.YthidkdlmpkeogaaW.PrintMore Go.Proofs.Ythidkdlmpkeogaa.Pl
set_option linter.unusedVariables false
set_option linter.unusedSimpArgs false

/-- one list: what was taken is written as it was, or nothing was taken -/
theorem one {α : Type} {may : α → Bool} {enc : α → List UInt8} {g : List UInt8 → α × List UInt8 × Bool} {Pr : α → Prop} (hback : ∀ s, (g s).2.2 = false → enc (g s).1 ++ (g s).2.1 = s) (hpr : ∀ s, Pr (g s).1) (s : List UInt8) :
    ∃ (l : List α) (q : ByteArray) (e : Int) (b : ByteArray) (i : Int), takeLR g may s = (l, q, e) ∧ listR may enc l = (b, i) ∧ l.length ≤ 65535 ∧ (∀ x ∈ l, Pr x) ∧ ((e = 0 ∧ i = 0 ∧ b.size + q.size ≤ s.length ∧ (b ++ q).toList = (B s).toList) ∨ e = 2) := by
  unfold takeLR
  cases h : takeL g may s with
  | none => exact ⟨[], B [], 2, _, _, rfl, rfl, by simp, fun x hx => absurd hx (by simp), Or.inr rfl⟩
  | some r =>
    obtain ⟨h1, h2, h3, h4⟩ := takeL_back hback hpr s r h
    refine ⟨r.1, B r.2, 0, B (be r.1.length 2 ++ r.1.flatMap enc), 0, rfl, if_pos ⟨h1, h2⟩, h1, h3, Or.inl ⟨rfl, rfl, ?_, ?_⟩⟩
    · rw [B_size, B_size, ← List.length_append, h4]
      exact Nat.le_refl _
    · rw [B_append, h4]
theorem oneR (s : List UInt8) : ∃ (lo hi : ByteArray) (op : Bool) (q : ByteArray) (e : Int) (b : ByteArray) (i : Int), takeRangeR s = (lo, hi, op, q, e) ∧ rangeR lo hi op = (b, i) ∧ lo.size ≤ 65535 ∧ hi.size ≤ 65535 ∧ ((e = 0 ∧ i = 0 ∧ b.size + q.size ≤ s.length ∧ (b ++ q).toList = (B s).toList) ∨ e = 2) := by
  unfold takeRangeR
  cases h : takeRangeO s with
  | none => exact ⟨B [], B [], false, B [], 2, _, _, rfl, rfl, by decide, by decide, Or.inr rfl⟩
  | some r =>
    obtain ⟨h1, h2⟩ := takeRange_back s r h
    have h3 := h1
    unfold rright at h3
    rw [decide_eq_true_iff] at h3
    refine ⟨r.1.1, r.1.2.1, r.1.2.2, B r.2, 0, B (encR r.1.1 r.1.2.1 r.1.2.2), 0, rfl, if_pos h1, by omega, by omega, Or.inl ⟨rfl, rfl, ?_, ?_⟩⟩
    · rw [B_size, B_size, ← List.length_append, h2]
      exact Nat.le_refl _
    · rw [B_append, h2]

theorem pure : ∀ (a0 : ByteArray), a0.size ≤ 140737488351232 → ∃ k, F.weirkeeperlaw13_FlatOnce.f k a0 = some true := by
  intro a0 _
  obtain ⟨K, hK⟩ := awake13_holds
  obtain ⟨s, rfl⟩ : ∃ s, a0 = B s := ⟨bl a0, (bl_B a0).symm⟩
  refine ⟨K + 80000, ?_⟩
  have aw := hK (K + 80000) (by omega)
  unfold weirkeeperlaw13_FlatOnce.f
  by_cases h : ((B s).size : Int) > 300
  · rw [if_pos h, aw]; rfl
  rw [if_neg h]
  rw [B_size] at h
  obtain ⟨ln, qn, en, bn, jn, n1, n2, n3, n4, n5⟩ := one (may := nright) (enc := encN) (g := gN) (Pr := nfine) gN_back gN_fine s
  obtain ⟨lp, qp, ep, bp, jp, p1, p2, p3, -, p5⟩ := one (may := pright) (enc := encP) (g := gP) (Pr := fun _ => True) gP_back (fun _ => trivial) s
  obtain ⟨lc, qc, ec, bc, jc, c1, c2, c3, -, c5⟩ := one (may := cmay) (enc := encC) (g := gC) (Pr := fun _ => True) gC_back (fun _ => trivial) s
  obtain ⟨lo, hi, op, qr, er, br, jr, r1, r2, r3, r4, r5⟩ := oneR s
  rw [takeNotes_eq s (by omega) _ (by omega), takePairs_eq s (by omega) _ (by omega), takeChanges_eq s (by omega) _ (by omega), takeRange_eq s (by omega) _ (by omega), n1, p1, c1, r1]
  simp only [Option.bind_some]
  rw [notes_eq ln n4 _ (by omega), pairs_eq lp _ (by omega), changes_eq lc _ (by omega), range_eq lo hi op r3 r4 _ (by omega), n2, p2, c2, r2]
  simp only [Option.bind_some, aw]
  clear n1 p1 c1 r1 n2 p2 c2 r2 hK aw
  have two : ¬((2 : Int) = 0) := by decide
  have z : ∀ {b q : ByteArray}, b.size + q.size ≤ s.length → b.size + q.size ≤ 9223372036854775807 := fun h => by omega
  rcases n5 with ⟨x1, x2, x3, x4⟩ | x1 <;> rcases p5 with ⟨y1, y2, y3, y4⟩ | y1 <;> rcases c5 with ⟨z1, z2, z3, z4⟩ | z1 <;> rcases r5 with ⟨u1, u2, u3, u4⟩ | u1 <;>
    (try replace x3 := z x3) <;> (try replace y3 := z y3) <;> (try replace z3 := z z3) <;> (try replace u3 := z u3) <;> simp only [*, if_true, if_false]
end Go.Proofs.Ythidkdlmpkeogaa.PlFlatOnce
