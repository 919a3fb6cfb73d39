/- append, at abstract values. -/
import Derived.Test.YthfjcplhjbaplaaAb14
set_option linter.all false
namespace Go.Ab
set_option linter.unusedVariables false
variable {P : Program}

/-- A slice's elements: their type, how many cells, how many bytes one takes. -/
def sleB (P : Program) (t : TypeId) : Option (TypeId × Nat × Nat) :=
  match sle P t, zcl P ((sle P t).getD (0, 0)).1 with
  | some (e, s), some z => if z.length = s ∧ 0 < s then (P.info? e).map fun i => (e, s, i.bytes) else none
  | _, _ => none

theorem sleB_some {t e : TypeId} {s b : Nat} (h : sleB P t = some (e, s, b)) : ∃ i z, P.underlying t = some (.slice e) ∧ P.info? e = some i ∧ i.size = s ∧ i.bytes = b ∧ i.zero = some z ∧ z.cells.size = s ∧ 0 < s := by
  unfold sleB at h
  split at h
  · rename_i e' s' z h1 h2
    split at h
    · rename_i hc
      simp only [Option.map_eq_some_iff, Prod.mk.injEq] at h
      obtain ⟨i, g1, rfl, rfl, rfl⟩ := h
      obtain ⟨i', k1, k2, k3⟩ := sle_some h1
      rw [g1] at k2; cases k2
      rw [h1] at h2
      simp only [Option.getD_some, zcl, g1] at h2
      split at h2
      · rename_i zv hz
        split at h2
        · cases h2
          exact ⟨i, zv, k1, g1, k3, rfl, hz, by simpa using hc.1, hc.2⟩
        · cases h2
      · cases h2
    · cases h
  · cases h

/-- What a slice becomes that grows: where it stands among the blocks, and the blocks with it, once its place is known. -/
structure AppB where
  p : Nat
  k : Nat
  n : Nat
  hp : Option Nat → List Blk

def appA (P : Program) (hp : List Blk) (t t' : TypeId) (x y : AV) : Option AppB :=
  match sleB P t, sle P t' with
  | some (e, s, by_), some _ => match rowsOf hp s y with
    | some l => match x with
      | .nils => if l.length * by_ ≤ 70368744177664 ∧ l.length ≤ 70368744177664 then some ⟨hp.length, s, l.length, fun b => hp ++ [⟨true, b, s, e, l⟩]⟩ else none
      | .own p k b off len => match blkAt hp p k b with
        | some B => if k = s ∧ off = 0 ∧ B.c.length = len ∧ B.t = e ∧ (len + l.length) * by_ ≤ 70368744177664 ∧ len + l.length ≤ 70368744177664 then
            some ⟨p, s, len + l.length, fun b => hp.set p { B with b := b, c := B.c ++ l }⟩ else none
        | none => none
      | _ => none
    | none => none
  | _, _ => none

theorem news_cells {Y : Nat → Prop} {w : World} {k : Nat} {l m : List AV} {olds news : List Value} {rest : Array Value} (ho : olds.length = l.length * k)
    (h1 : ∀ (i : Nat) x (j : Nat) z, l[i]? = some x → x.cells[j]? = some z → ∃ v, olds[i * k + j]? = some v ∧ oneA z = true ∧ Rep Y w z v) (hk : ∀ (i : Nat) x, l[i]? = some x → x.cells.length = k)
    (h2 : ∀ (i : Nat) x (j : Nat) z, m[i]? = some x → x.cells[j]? = some z → ∃ v, news[i * k + j]? = some v ∧ oneA z = true ∧ Rep Y w z v) :
    ∀ (i : Nat) x (j : Nat) z, (l ++ m)[i]? = some x → x.cells[j]? = some z → ∃ v, (olds.toArray ++ news.toArray ++ rest)[i * k + j]? = some v ∧ oneA z = true ∧ Rep Y w z v := by
  intro i x j z hi hj
  by_cases c : i < l.length
  · rw [List.getElem?_append_left c] at hi
    obtain ⟨v, g1, g2⟩ := h1 i x j z hi hj
    refine ⟨v, ?_, g2⟩
    have hlt := (List.getElem?_eq_some_iff.1 g1).1
    rw [Array.append_assoc, Array.getElem?_append_left (by simpa using hlt)]
    simpa using g1
  · rw [List.getElem?_append_right (by omega)] at hi
    obtain ⟨v, g1, g2⟩ := h2 _ x j z hi hj
    refine ⟨v, ?_, g2⟩
    have hlt := (List.getElem?_eq_some_iff.1 g1).1
    have e : i * k + j = olds.length + ((i - l.length) * k + j) := by
      rw [ho]
      have : (l.length + (i - l.length)) * k = i * k := by congr 1; omega
      rw [Nat.add_mul] at this; omega
    rw [Array.getElem?_append_left (by simp; omega), Array.getElem?_append_right (by simp; omega)]
    simp only [List.size_toArray, e, Nat.add_sub_cancel_left]
    simpa using g1

/-- A block is replaced by a new one. -/
theorem HeapOk.renew {X hp w} (h : HeapOk X hp w) {p k : Nat} {B : Blk} (hp1 : hp[p]? = some B) {t : TypeId} {c : List AV} {cs : Array Value} (hlen : c.length * k ≤ cs.size) (hk : ∀ (i : Nat) x, c[i]? = some x → x.cells.length = k)
    (hc : ∀ (i : Nat) x (j : Nat) y, c[i]? = some x → x.cells[j]? = some y → ∃ u, cs[i * k + j]? = some u ∧ oneA y = true ∧ Rep (un X hp) w y u) :
    Ext (Tr hp) w (w.alloc (.cells cs t)) (Tr (hp.set p ⟨true, some w.heap.size, k, t, c⟩)) ∧ HeapOk X (hp.set p ⟨true, some w.heap.size, k, t, c⟩) (w.alloc (.cells cs t)) := by
  have e : Ext (Tr hp) w (w.alloc (.cells cs t)) (Tr (hp.set p ⟨true, some w.heap.size, k, t, c⟩)) :=
    ⟨rfl, rfl, rfl, (by show _ ≤ (w.heap.push _).size; rw [Array.size_push]; omega), fun b hb _ => heap_push_old w _ b hb, fun b cs' e' z hb => ⟨cs', z, by rw [heap_push_old w _ b (Array.getElem?_eq_some_iff.1 hb).1]; exact hb, rfl⟩, fun b hb => by
      rcases Tr_set hb with ⟨_, h1⟩ | h1
      · cases h1; exact .inr (Nat.le_refl _)
      · exact .inl h1⟩
  refine ⟨e, h.step e (fun q C hq hl => ?_) fun p' q C D n hp' hq' hl hl' hB hC => ?_⟩
  · rcases get_set hq with ⟨rfl, rfl, _⟩ | ⟨_, hq⟩
    · refine .inr ⟨fun h => (by cases h), fun n hn => ?_⟩
      cases hn
      refine ⟨cs, heap_push_new w _, hlen, hk, fun i x j y hx hy => ?_⟩
      obtain ⟨u, u1, u2, u3⟩ := hc i x j y hx hy
      exact ⟨u, u1, u2, Rep.ext e u3⟩
    · exact .inl ⟨hq, fun n hn => heap_push_old w _ n (h.tlt ⟨q, C, hq, hl, hn⟩)⟩
  · rcases get_set hp' with ⟨e1, e2, _⟩ | ⟨_, g1⟩ <;> rcases get_set hq' with ⟨e3, e4, _⟩ | ⟨_, g2⟩
    · rw [e1, e3]
    · subst e2; cases hB; exact absurd (h.tlt ⟨q, D, g2, hl', hC⟩) (by omega)
    · subst e4; cases hC; exact absurd (h.tlt ⟨p', C, g1, hl, hB⟩) (by omega)
    · exact h.one p' q C D n g1 g2 hl hl' hB hC

theorem Ext.ofDrew {T T' : Nat → Prop} {w w' : World} (h : Ext T w.drew w' T') : Ext T w w' T' := ⟨h.os, h.tape, h.output, h.size, h.old, h.rows, h.tr⟩
theorem HeapOk.drew {X hp w} (h : HeapOk X hp w) : HeapOk X hp w.drew := by
  have e : Ext (Tr hp) w w.drew (Tr hp) := (Ext.refl (Tr hp) w fun _ h => h).drew (w.drawn + 1)
  exact h.step e (fun q B hq hl => .inl ⟨hq, fun n hn => rfl⟩) h.one
theorem Rep.drew {Y : Nat → Prop} {w : World} {x : AV} {u : Value} (h : Rep Y w x u) : Rep Y w.drew x u :=
  Rep.mono (w := w) (w' := w.drew) (fun b hb hn => ⟨rfl, hn⟩) (Nat.le_refl _) (fun b cs e z h => ⟨cs, z, h, rfl⟩) h

theorem own_inv {Y : Nat → Prop} {w : World} {p k : Nat} {b : Option Nat} {off len : Nat} {u : Value} (h : Rep Y w (.own p k b off len) u) :
    (∃ a, u = .slice a 0 0 ∧ len = 0) ∨ ∃ b0 c cs e z, b = some b0 ∧ u = .slice (some ⟨b0, off * k, none⟩) len c ∧ len ≤ c ∧ w.heap[b0]? = some (.cells cs e z) ∧ (off + c) * k ≤ cs.size := by
  cases h with
  | ownE => exact .inl ⟨_, rfl, rfl⟩
  | own _ _ b _ _ c hc cs e z hb hs => exact .inr ⟨b, c, cs, e, z, rfl, rfl, hc, hb, hs⟩

theorem appA_ok {X n fr hp a w} (h : Sim X n fr hp a w) {t t' ty : TypeId} {x y : AV} {u v : Value} {ab : AppB} (hx : Rep (un X hp) w x u) (hy : Rep (un X hp) w y v) (ha : appA P hp t t' x y = some ab) :
    ∃ b r w', (Builtin.append_ #[t, t'] ty #[u, v]).run P w = .ok r w' ∧ Ext (Tr hp) w w' (Tr (ab.hp b)) ∧ HeapOk X (ab.hp b) w' ∧ Rep (un X (ab.hp b)) w' (.own ab.p ab.k b 0 ab.n) r := by
  unfold appA at ha
  split at ha
  · rename_i e s by_ es h1 h2
    obtain ⟨i, z, g1, g2, rfl, rfl, g5, g6, g7⟩ := sleB_some h1
    obtain ⟨e', s'⟩ := es
    obtain ⟨i', k1, k2, k3⟩ := sle_some h2
    split at ha
    · rename_i l hl
      obtain ⟨news, sd, c', rfl, nlen, nread, none1, nk, ncell⟩ := rows_read (P := P) h hy hl
      split at ha
      · split at ha
        · rename_i hb
          cases ha
          cases hx
          rename_i ad
          cases l with
          | nil =>
            have : news = [] := List.eq_nil_of_length_eq_zero (by simpa using nlen)
            subst this
            refine ⟨none, _, w, append_none w g1 k1 g2 nread, ?_, ?_, .ownE _ _ _ _ _⟩
            · exact Ext.refl _ _ fun b hb => by
                rcases Tr_app hb with ⟨_, h1⟩ | h1
                · cases h1
                · exact h1
            · refine h.heap.step (Ext.refl _ _ fun b hb => by
                rcases Tr_app hb with ⟨_, h1⟩ | h1
                · cases h1
                · exact h1) (fun q B hq hl => ?_) fun p q B C n hp' hq' hl hl' hB hC => ?_
              · rcases get_app hq with ⟨rfl, rfl⟩ | hq
                · exact .inr ⟨fun _ => rfl, fun n hn => by cases hn⟩
                · exact .inl ⟨hq, fun _ _ => rfl⟩
              · rcases get_app hp' with ⟨_, e1⟩ | g1 <;> rcases get_app hq' with ⟨_, e2⟩ | g2
                · subst e1; cases hB
                · subst e1; cases hB
                · subst e2; cases hC
                · exact h.heap.one p q B C n g1 g2 hl hl' hB hC
          | cons q l =>
            have hgr := append_grow (P := P) (ty := ty) w (olds := []) (ad := ad) (len := 0) (c := 0) g1 k1 g2 g5 (fun w1 _ => by cases ad <;> simp [Builtin.firstCells, loadCells, loadCellsFrom]) nread (by simp) (by simp at hb ⊢; omega) (by simp at hb ⊢; omega)
            simp only [Nat.zero_add] at hgr
            have hnew := h.heap.drew.new (k := i.size) (t := e) (c := q :: l) (cs := #[] ++ news.toArray ++ Builtin.zeroCells z.cells (grownCap w (q :: l).length 0 e - (q :: l).length)) (by
              simp only [Array.size_append, List.size_toArray, nlen, Array.size_empty]; omega) nk (fun i' x j y hi hj => by
                have := news_cells (Y := un X hp) (w := w) (l := []) (olds := []) (rest := Builtin.zeroCells z.cells (grownCap w (q :: l).length 0 e - (q :: l).length)) (by simp) (by simp) (by simp) ncell i' x j y hi hj
                obtain ⟨v, v1, v2, v3⟩ := this
                exact ⟨v, v1, v2, v3.drew⟩)
            refine ⟨some w.heap.size, _, _, hgr, Ext.ofDrew hnew.1, hnew.2, ?_⟩
            have hrep := Rep.own (X := un X (hp ++ [⟨true, some w.heap.size, i.size, e, q :: l⟩])) (w := w.drew.alloc (.cells (#[] ++ news.toArray ++ Builtin.zeroCells z.cells (grownCap w (q :: l).length 0 e - (q :: l).length)) e)) hp.length i.size w.heap.size 0 (q :: l).length (grownCap w (q :: l).length 0 e) (grownCap_ge w _ _ _) _ e (0, 0) (heap_push_new w.drew _) (by
              simp only [Array.size_append, List.size_toArray, nlen, size_zeroCells, g6, Nat.zero_add, List.length_nil]
              have := grownCap_ge w (q :: l).length 0 e
              rw [← Nat.add_mul]; apply Nat.mul_le_mul_right; omega)
            simpa using hrep
        · cases ha
      · rename_i p k b off len
        split at ha
        · rename_i B hB
          split at ha
          · rename_i hb
            obtain ⟨rfl, rfl, rfl, rfl, hb1, hb2⟩ := hb
            cases ha
            obtain ⟨b1, b2, b3, b4⟩ := blkAt_some hB
            have hrow : rowsOf hp i.size (.own p i.size b 0 B.c.length) = some B.c := by
              simp [rowsOf, hB]
            obtain ⟨olds, ad, c, hu, olen, oread, oone, ok, ocell⟩ := rows_read (P := P) h hx hrow
            subst hu
            have hkk : ∀ (j : Nat) x, (B.c ++ l)[j]? = some x → x.cells.length = i.size := by
              intro j x hj
              by_cases c1 : j < B.c.length
              · rw [List.getElem?_append_left c1] at hj; exact ok j x hj
              · rw [List.getElem?_append_right (by omega)] at hj; exact nk _ x hj
            by_cases hroom : B.c.length + l.length ≤ c ∧ (l ≠ [] ∨ c ≠ 0)
            · -- in place
              rcases own_inv hx with ⟨a0, e0, e1⟩ | ⟨b, c1, cs, e1, z1, rfl, e2, hc, hb', hs⟩
              · simp only [Value.slice.injEq] at e0
                exfalso
                have h3 := hroom.1
                rcases hroom.2 with h4 | h4
                · exact h4 (List.eq_nil_of_length_eq_zero (by omega))
                · exact h4 e0.2.2
              · simp only [Value.slice.injEq] at e2
                obtain ⟨rfl, -, rfl⟩ := e2
                obtain ⟨cs', q1, q2, q3, q4⟩ := (h.heap.ok p B b1 b2).2 b b4
                rw [hb'] at q1; cases q1
                simp only [Nat.zero_add, Nat.zero_mul] at hs ⊢
                have hfit : B.c.length * i.size + news.length ≤ cs.size := by rw [nlen, ← Nat.add_mul]; exact Nat.le_trans (Nat.mul_le_mul_right _ hroom.1) hs
                have hr := append_room (P := P) (ty := ty) w g1 k1 g2 (len := B.c.length) (c := c) hb' nlen nread none1 hroom.1 hfit
                have hfit' : B.c.length * i.size + news.length ≤ cs.toList.length := by simpa using hfit
                have hwr := h.heap.write (c := B.c ++ l) (cs := (cs.toList.take (B.c.length * i.size) ++ news ++ cs.toList.drop (B.c.length * i.size + news.length)).toArray) b1 b2 b4 hb' (by
                  have := splice_len hfit'; simpa using this) (by
                  have := splice_len hfit'
                  simp only [List.size_toArray, this, List.length_append, b3]
                  simp only [Array.length_toList]
                  exact Nat.le_trans (Nat.mul_le_mul_right _ hroom.1) hs) (by rw [b3]; exact hkk) (fun i' x j y hi hj => by
                    rw [List.getElem?_toArray, splice_get hfit', b3]
                    by_cases c1 : i' < B.c.length
                    · rw [List.getElem?_append_left c1] at hi
                      have hlt : j < i.size := by rw [← ok i' x hi]; exact (List.getElem?_eq_some_iff.1 hj).1
                      rw [if_neg (by have := mul_lt c1 hlt; omega)]
                      obtain ⟨v, v1, v2⟩ := q4 i' x j y hi hj
                      rw [b3] at v1
                      exact ⟨v, by simpa using v1, v2⟩
                    · rw [List.getElem?_append_right (by omega)] at hi
                      obtain ⟨v, v1, v2⟩ := ncell _ x j y hi hj
                      have hlt := (List.getElem?_eq_some_iff.1 v1).1
                      have e0 : i' * i.size + j = B.c.length * i.size + ((i' - B.c.length) * i.size + j) := by
                        have : (B.c.length + (i' - B.c.length)) * i.size = i' * i.size := by congr 1; omega
                        rw [Nat.add_mul] at this; omega
                      rw [if_pos ⟨by omega, by omega⟩]
                      refine ⟨v, ?_, v2⟩
                      rw [e0, Nat.add_sub_cancel_left]; exact v1)
                refine ⟨some b, _, _, hr, ?_, ?_, ?_⟩
                · have := hwr.1; rw [← b4]; exact this
                · have := hwr.2; rw [← b4]; exact this
                · have := Rep.own (X := un X (hp.set p { B with b := some b, c := B.c ++ l })) (w := w.setRow b (cs.toList.take (B.c.length * i.size) ++ news ++ cs.toList.drop (B.c.length * i.size + news.length)).toArray) p i.size b 0 (B.c.length + l.length) c hroom.1 _ B.t (0, 0) (setRow_heap w b cs _ _ (0, 0) hb') (by
                    have h0 := splice_len hfit'
                    simp only [List.size_toArray, h0, Nat.zero_add]; simpa using hs)
                  simpa using this
            · by_cases h0 : l = [] ∧ c = 0
              · obtain ⟨rfl, rfl⟩ := h0
                have : news = [] := List.eq_nil_of_length_eq_zero (by simpa using nlen)
                subst this
                have hc0 : B.c.length = 0 := by
                  rcases own_inv hx with ⟨a0, e0, e1⟩ | ⟨b, c1, cs, e1, z1, e3, e2, hc, hb', hs⟩
                  · exact e1
                  · simp only [Value.slice.injEq] at e2; omega
                have hc1 : B.c = [] := List.eq_nil_of_length_eq_zero hc0
                refine ⟨b, .slice ad 0 0, w, ?_, ?_, ?_, ?_⟩
                · rw [hc0]; exact append_none w g1 k1 g2 nread
                · refine Ext.refl _ _ fun n hn => ?_
                  rcases Tr_set hn with ⟨_, e1⟩ | e1
                  · exact ⟨p, B, b1, b2, by rw [b4]; exact e1⟩
                  · exact e1
                · have e0 : { B with b := b, c := B.c ++ [] } = B := by cases B; simp at *; exact b4.symm
                  show HeapOk X (hp.set p { B with b := b, c := B.c ++ [] }) w
                  rw [e0]
                  have : hp.set p B = hp := by
                    apply List.ext_getElem?
                    intro q
                    rw [List.getElem?_set]
                    split
                    · subst_vars; rw [if_pos (List.getElem?_eq_some_iff.1 b1).1, b1]
                    · rfl
                  rw [this]; exact h.heap
                · simp only [List.length_nil, Nat.add_zero, hc0]; exact .ownE _ _ _ _ _
              · have hgt : c < B.c.length + l.length := by
                  rcases Nat.lt_or_ge c (B.c.length + l.length) with h3 | h3
                  · exact h3
                  · exfalso
                    apply hroom
                    refine ⟨h3, ?_⟩
                    by_cases hl0 : l = []
                    · exact .inr fun hc0 => h0 ⟨hl0, hc0⟩
                    · exact .inl hl0
                have hgr := append_grow (P := P) (ty := ty) w (olds := olds) (ad := ad) (len := B.c.length) (c := c) g1 k1 g2 g5 oread nread hgt (by omega) (by omega)
                have hnew := h.heap.drew.renew (t := B.t) (c := B.c ++ l) (k := i.size) (cs := olds.toArray ++ news.toArray ++ Builtin.zeroCells z.cells (grownCap w (B.c.length + l.length) c B.t - (B.c.length + l.length))) b1 (by
                  simp only [Array.size_append, List.size_toArray, nlen, olen, List.length_append, Nat.add_mul]; omega) hkk (fun i' x j y hi hj => by
                    have := news_cells (Y := un X hp) (w := w) (rest := Builtin.zeroCells z.cells (grownCap w (B.c.length + l.length) c B.t - (B.c.length + l.length))) olen ocell ok ncell i' x j y hi hj
                    obtain ⟨v, v1, v2, v3⟩ := this
                    exact ⟨v, v1, v2, v3.drew⟩)
                have eB : { B with b := some w.heap.size, c := B.c ++ l } = (⟨true, some w.drew.heap.size, i.size, B.t, B.c ++ l⟩ : Blk) := by
                  cases B; simp at *; exact ⟨b2, b3⟩
                refine ⟨some w.heap.size, _, _, hgr, ?_, ?_, ?_⟩
                · show Ext _ _ _ (Tr (hp.set p { B with b := some w.heap.size, c := B.c ++ l }))
                  rw [eB]; exact Ext.ofDrew hnew.1
                · show HeapOk X (hp.set p { B with b := some w.heap.size, c := B.c ++ l }) _
                  rw [eB]; exact hnew.2
                · have hge := grownCap_ge w (B.c.length + l.length) c B.t
                  have hrep := Rep.own (X := un X (hp.set p { B with b := some w.heap.size, c := B.c ++ l })) (w := w.drew.alloc (.cells (olds.toArray ++ news.toArray ++ Builtin.zeroCells z.cells (grownCap w (B.c.length + l.length) c B.t - (B.c.length + l.length))) B.t)) p i.size w.heap.size 0 (B.c.length + l.length) (grownCap w (B.c.length + l.length) c B.t) hge _ B.t (0, 0) (heap_push_new w.drew _) (by
                    simp only [Array.size_append, List.size_toArray, nlen, olen, size_zeroCells, g6, Nat.zero_add]
                    rw [← Nat.add_mul, ← Nat.add_mul]; apply Nat.mul_le_mul_right; omega)
                  simpa using hrep
          · cases ha
        · cases ha
      · cases ha
    · cases ha
  · cases ha
end Go.Ab
