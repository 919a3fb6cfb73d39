/- Words for the walks that are told by hand: where a row's cells lie. -/
import Derived.Test.YthidkdlmpkeogaaFPre
namespace Go.Proofs.Ythidkdlmpkeogaa.F
open Go.RowKit Go.Proofs.YthidkdlmpkeogaaW.PrintWords Go.Proofs.YthidkdlmpkeogaaW.PrintLast Go.Proofs.YthidkdlmpkeogaaW.PrintMore

theorem spot_none {w : World} {ad : Addr} {v : Value} (h : w.cell? ad = some v) : ad.spot = none := by
  unfold World.cell? at h
  split at h
  · split at h
    · exact absurd h (by simp)
    · rename_i c
      simpa using c
  · exact absurd h (by simp)
theorem add_row {b o j : Nat} : (⟨b, o, none⟩ : Addr).add j = ⟨b, o + j, none⟩ := by
  unfold Addr.add
  split <;> simp_all
/-- A row of cells, however many cells an element has: it begins at a plain place. -/
theorem cells_row {α : Type} {d : Kd α} {w : World} {A : Option Addr} {n : Nat} {xs : List α} (h : d.C w A n xs) (hs : 0 < d.sz) (hn : 0 < n) :
    ∃ b o, A = some ⟨b, o, none⟩ ∧ b < w.heap.size ∧ ∀ j p, xs[j]? = some p → ∃ c, c.length = d.sz ∧ d.K w p c ∧ ∀ i u, c[i]? = some u → w.cell? ⟨b, o + (j * d.sz + i), none⟩ = some u := by
  obtain ⟨hl, hm, hc0⟩ := h
  obtain ⟨ad, rfl, hc⟩ := hc0 hn
  obtain ⟨b, o, s⟩ := ad
  have h0 : 0 < xs.length := by omega
  obtain ⟨c, c1, c2, c3⟩ := hc 0 xs[0] (List.getElem?_eq_getElem h0)
  have c4 := c3 0 c[0] (List.getElem?_eq_getElem (by omega))
  have c5 : (⟨b, o, s⟩ : Addr).add (0 * d.sz + 0) = ⟨b, o, s⟩ := by simp [Addr.add]
  rw [c5] at c4
  have : s = none := spot_none c4
  subst this
  refine ⟨b, o, rfl, World.block_lt_of_cell? _ _ c4, fun j p hj => ?_⟩
  obtain ⟨c, c1, c2, c3⟩ := hc j p hj
  exact ⟨c, c1, c2, fun i u hi => by rw [← add_row]; exact c3 i u hi⟩
theorem cells_str {w : World} {A : Option Addr} {n : Nat} {xs : List ByteArray} (h : Kd.string.C w A n xs) (hn : 0 < n) :
    ∃ b o, A = some ⟨b, o, none⟩ ∧ b < w.heap.size ∧ ∀ j x, xs[j]? = some x → w.cell? ⟨b, o + j, none⟩ = some (.string x) := by
  obtain ⟨b, o, e, hb, hc⟩ := cells_row h (by decide) hn
  refine ⟨b, o, e, hb, fun j x hj => ?_⟩
  obtain ⟨c, c1, c2, c3⟩ := hc j x hj
  have c2' : c = [.string x] := c2
  subst c2'
  have := c3 0 _ rfl
  rw [show j * Kd.string.sz + 0 = j from Nat.mul_one j] at this
  exact this
end Go.Proofs.Ythidkdlmpkeogaa.F
