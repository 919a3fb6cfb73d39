/- Growing: append. -/
import Derived.Test.YthfjcplhjbaplaaAb13
set_option linter.all false
namespace Go.Ab
set_option linter.unusedVariables false
variable {P : Program}

/-- The cells of rows, as they are read. -/
theorem rows_read {X n fr hp a w} (h : Sim X n fr hp a w) {k : Nat} {x : AV} {u : Value} {l : List AV} (hx : Rep (un X hp) w x u) (hl : rowsOf hp k x = some l) :
    ∃ (news : List Value) (ad : Option Addr) (c : Nat), u = .slice ad l.length c ∧ news.length = l.length * k ∧ (∀ w1 : World, w1.heap = w.heap → (Builtin.firstCells k l.length u).run P w1 = .ok news.toArray w1) ∧
      (∀ v ∈ news, v.oneCell' = true) ∧ (∀ (i : Nat) x, l[i]? = some x → x.cells.length = k) ∧
      ∀ (i : Nat) x (j : Nat) z, l[i]? = some x → x.cells[j]? = some z → ∃ v, news[i * k + j]? = some v ∧ oneA z = true ∧ Rep (un X hp) w z v := by
  obtain ⟨ad, c, rfl, hc⟩ := rowsOf_ok h hx hl
  cases l with
  | nil =>
    refine ⟨[], ad, c, rfl, by simp, fun w1 _ => ?_, by simp, by simp, by simp⟩
    cases ad with
    | none => simp [Builtin.firstCells]
    | some ad => simp [Builtin.firstCells, loadCells, loadCellsFrom]
  | cons y l =>
    obtain ⟨b, off, rfl, hk, hcell⟩ := hc (by simp)
    generalize hL : y :: l = L at *
    have hall : ∀ q, q < L.length * k → ∃ i x j z, L[i]? = some x ∧ x.cells[j]? = some z ∧ q = i * k + j := by
      intro q hq
      have hk0 : 0 < k := by
        rcases Nat.eq_zero_or_pos k with e | e
        · subst e; simp at hq
        · exact e
      have hi : q / k < L.length := Nat.div_lt_of_lt_mul (by rw [Nat.mul_comm]; exact hq)
      have hlen := hk (q / k) L[q / k] (List.getElem?_eq_getElem hi)
      have hj : q % k < L[q / k].cells.length := by rw [hlen]; exact Nat.mod_lt _ hk0
      refine ⟨q / k, L[q / k], q % k, L[q / k].cells[q % k], List.getElem?_eq_getElem hi, List.getElem?_eq_getElem hj, ?_⟩
      rw [Nat.mul_comm]; exact (Nat.div_add_mod q k).symm
    have hget : ∀ q, q < L.length * k → ∃ v, w.cell? ⟨b, off + q, none⟩ = some v ∧ v.oneCell' = true := by
      intro q hq
      obtain ⟨i, x, j, z, h1, h2, rfl⟩ := hall q hq
      obtain ⟨v, g1, g2, g3⟩ := hcell i x j z h1 h2
      exact ⟨v, by rw [← Nat.add_assoc]; exact g1, oneA_value g3 g2⟩
    refine ⟨(List.range (L.length * k)).map fun q => (w.cell? ⟨b, off + q, none⟩).getD undef, _, c, rfl, by simp, fun w1 hw1 => ?_, fun v hv => ?_, hk, fun i x j z hi hj => ?_⟩
    · refine run_firstCells_some w1 k L.length ⟨b, off, none⟩ _ c _ (by simp) fun j v hv => ?_
      simp only [List.getElem?_map, Option.map_eq_some_iff] at hv
      obtain ⟨q, hq, rfl⟩ := hv
      obtain ⟨hq1, hq2⟩ := List.getElem?_eq_some_iff.1 hq
      simp at hq1 hq2
      subst hq2
      obtain ⟨v, g1, _⟩ := hget j hq1
      rw [add_addr]
      have : w1.cell? ⟨b, off + j, none⟩ = w.cell? ⟨b, off + j, none⟩ := by simp [World.cell?, hw1]
      rw [this, g1]; rfl
    · simp only [List.mem_map, List.mem_range] at hv
      obtain ⟨q, hq, rfl⟩ := hv
      obtain ⟨v, g1, g2⟩ := hget q hq
      rw [g1]; exact g2
    · obtain ⟨v, g1, g2, g3⟩ := hcell i x j z hi hj
      have hlt : i * k + j < L.length * k := by
        have h1 := (List.getElem?_eq_some_iff.1 hi).1
        have h2 := (List.getElem?_eq_some_iff.1 hj).1
        rw [hk i x hi] at h2
        have := mul_lt h1 h2; exact this
      refine ⟨v, ?_, g2, g3⟩
      simp only [List.getElem?_map]
      rw [List.getElem?_range hlt]
      simp [← Nat.add_assoc, g1]

/-- append, where there is no room. -/
theorem append_grow (w : World) {t t' ty e e' : TypeId} {i : TypeInfo} {z : Value} (ht : P.underlying t = some (.slice e)) (ht' : P.underlying t' = some (.slice e')) (hi : P.info? e = some i) (hz : i.zero = some z)
    {ad sd : Option Addr} {len c m c' : Nat} {olds news : List Value} (ho : ∀ w1 : World, w1.heap = w.heap → (Builtin.firstCells i.size len (.slice ad len c)).run P w1 = .ok olds.toArray w1)
    (hn : ∀ w1 : World, w1.heap = w.heap → (Builtin.firstCells i.size m (.slice sd m c')).run P w1 = .ok news.toArray w1) (hg : c < len + m) (hb : (len + m) * i.bytes ≤ 140737488355328) (h63 : len + m ≤ 9223372036854775807) :
    (Builtin.append_ #[t, t'] ty #[.slice ad len c, .slice sd m c']).run P w =
      .ok (.slice (some ⟨w.heap.size, 0, none⟩) (len + m) (grownCap w (len + m) c e)) (w.drew.alloc (.cells (olds.toArray ++ news.toArray ++ Builtin.zeroCells z.cells (grownCap w (len + m) c e - (len + m))) e)) := by
  have h1 : ¬ (len + m ≤ c) := by omega
  have h2 : ¬ (9223372036854775807 < ((len : Int) + (m : Int))) := by omega
  have h3 : ¬ (281474976710656 < Builtin.nextslicecap (len + m) c * i.bytes) := by have := growslice_fits (old := c) hg hb; omega
  have e1 := ho w.drew rfl
  have e2 := hn w.drew rfl
  simp [Builtin.append_, run_underlying ht, run_underlying ht', sizeOf, typeInfo, zeroValue, hi, hz, Builtin.lenOf, h1, h2, h3, Question.forced, e1, e2, newRow, grownCap]
  congr 2
  apply Array.ext'
  simp [List.append_assoc]

/-- append, where there is room. -/
theorem append_room (w : World) {t t' ty e e' : TypeId} {i : TypeInfo} (ht : P.underlying t = some (.slice e)) (ht' : P.underlying t' = some (.slice e')) (hi : P.info? e = some i)
    {b : Nat} {sd : Option Addr} {len c m c' : Nat} {cur : Array Value} {u : TypeId} {news : List Value} (hg : w.heap[b]? = some (.cells cur u (0, 0))) (hl : news.length = m * i.size)
    (hn : ∀ w1 : World, w1.heap = w.heap → (Builtin.firstCells i.size m (.slice sd m c')).run P w1 = .ok news.toArray w1) (h1 : ∀ v ∈ news, v.oneCell' = true) (hroom : len + m ≤ c) (hfit : len * i.size + news.length ≤ cur.size) :
    (Builtin.append_ #[t, t'] ty #[.slice (some ⟨b, 0, none⟩) len c, .slice sd m c']).run P w =
      .ok (.slice (some ⟨b, 0, none⟩) (len + m) c) (w.setRow b (cur.toList.take (len * i.size) ++ news ++ cur.toList.drop (len * i.size + news.length)).toArray) := by
  have hst := run_storeCells_at P b (len * i.size) u news 0 cur w hg (by simpa using hfit) h1
  simp only [Nat.add_zero] at hst
  have e2 := hn w rfl
  simp [Builtin.append_, run_underlying ht, run_underlying ht', sizeOf, typeInfo, hi, Builtin.lenOf, hroom, e2, add_addr, hst]

/-- append of nothing to what has no room. -/
theorem append_none (w : World) {t t' ty e e' : TypeId} {i : TypeInfo} (ht : P.underlying t = some (.slice e)) (ht' : P.underlying t' = some (.slice e')) (hi : P.info? e = some i)
    {ad sd : Option Addr} {c' : Nat} (hn : ∀ w1 : World, w1.heap = w.heap → (Builtin.firstCells i.size 0 (.slice sd 0 c')).run P w1 = .ok #[] w1) :
    (Builtin.append_ #[t, t'] ty #[.slice ad 0 0, .slice sd 0 c']).run P w = .ok (.slice ad 0 0) w := by
  have e2 := hn w rfl
  cases ad <;> simp [Builtin.append_, run_underlying ht, run_underlying ht', sizeOf, typeInfo, hi, Builtin.lenOf, e2, storeCells]
end Go.Ab
