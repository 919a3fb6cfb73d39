/- What a call owns: writing, new blocks, growing. -/
import Derived.Test.YthfjcplhjbaplaaAb10
import Derived.Laws.AppendOwn
import Derived.Laws.OwnMore
set_option linter.all false
namespace Go.Ab
set_option linter.unusedVariables false
variable {P : Program}

theorem Sim.step {X n fr hp a w hp' w'} (h : Sim X n fr hp a w) (e : Ext (Tr hp) w w' (Tr hp')) (g : HeapOk X hp' w') : Sim X n fr hp' a w' :=
  ⟨h.size, h.defers, fun t => Rep.ext e (h.rep t), g⟩

theorem HeapOk.step {X hp w hp' w'} (h : HeapOk X hp w) (e : Ext (Tr hp) w w' (Tr hp'))
    (hB : ∀ (q : Nat) B, hp'[q]? = some B → B.live = true → (hp[q]? = some B ∧ ∀ n, B.b = some n → w'.heap[n]? = w.heap[n]?) ∨ BlkOk (un X hp') w' B)
    (hone : ∀ (p q : Nat) B C n, hp'[p]? = some B → hp'[q]? = some C → B.live = true → C.live = true → B.b = some n → C.b = some n → p = q) : HeapOk X hp' w' where
  ok q B hq hl := by
    rcases hB q B hq hl with ⟨h1, h2⟩ | h1
    · obtain ⟨g1, g2⟩ := h.ok q B h1 hl
      refine ⟨g1, fun n hn => ?_⟩
      obtain ⟨cs, k1, k2, k3, k4⟩ := g2 n hn
      refine ⟨cs, by rw [h2 n hn]; exact k1, k2, k3, fun i x j y hx hy => ?_⟩
      obtain ⟨u, u1, u2, u3⟩ := k4 i x j y hx hy
      exact ⟨u, u1, u2, Rep.ext e u3⟩
    · exact h1
  out n hn hX := by
    rcases e.tr n hn with h1 | h1
    · exact h.out n h1 hX
    · exact absurd (h.lt n hX) (by omega)
  lt n hn := Nat.lt_of_lt_of_le (h.lt n hn) e.size
  one := hone

theorem get_set {hp : List Blk} {p q : Nat} {B C : Blk} (h : (hp.set p B)[q]? = some C) : (q = p ∧ C = B ∧ p < hp.length) ∨ (q ≠ p ∧ hp[q]? = some C) := by
  rw [List.getElem?_set] at h
  split at h
  · subst_vars
    split at h
    · cases h; exact .inl ⟨rfl, rfl, by assumption⟩
    · cases h
  · rename_i hne; exact .inr ⟨fun e => hne e.symm, h⟩

/-- One block is written anew: the same, or a new one, in its place. -/
theorem Tr_set {hp : List Blk} {p : Nat} {B : Blk} {n : Nat} (h : Tr (hp.set p B) n) : (B.live = true ∧ B.b = some n) ∨ Tr hp n := by
  obtain ⟨q, C, h1, h2, h3⟩ := h
  rcases get_set h1 with ⟨rfl, rfl, _⟩ | ⟨_, h1⟩
  · exact .inl ⟨h2, h3⟩
  · exact .inr ⟨q, C, h1, h2, h3⟩

theorem get_app {hp : List Blk} {q : Nat} {B C : Blk} (h : (hp ++ [B])[q]? = some C) : (q = hp.length ∧ C = B) ∨ hp[q]? = some C := by
  rw [List.getElem?_append] at h
  split at h
  · exact .inr h
  · rename_i hge
    have : q - hp.length = 0 := by
      have := (List.getElem?_eq_some_iff.1 h).1
      simp at this; omega
    rw [this] at h
    simp at h
    exact .inl ⟨by omega, h.symm⟩
theorem Tr_app {hp : List Blk} {B : Blk} {n : Nat} (h : Tr (hp ++ [B]) n) : (B.live = true ∧ B.b = some n) ∨ Tr hp n := by
  obtain ⟨q, C, h1, h2, h3⟩ := h
  rcases get_app h1 with ⟨rfl, rfl⟩ | h1
  · exact .inl ⟨h2, h3⟩
  · exact .inr ⟨q, C, h1, h2, h3⟩
theorem Tr_app_of {hp : List Blk} {B : Blk} {n : Nat} (h : Tr hp n) : Tr (hp ++ [B]) n := by
  obtain ⟨q, C, h1, h2, h3⟩ := h
  exact ⟨q, C, by rw [List.getElem?_append_left (List.getElem?_eq_some_iff.1 h1).1]; exact h1, h2, h3⟩

theorem heap_push_old (w : World) (o : Obj) (k : Nat) (h : k < w.heap.size) : (w.alloc o).heap[k]? = w.heap[k]? := by
  show (w.heap.push o)[k]? = _
  rw [Array.getElem?_push, if_neg (by omega)]
theorem heap_push_new (w : World) (o : Obj) : (w.alloc o).heap[w.heap.size]? = some o := by
  show (w.heap.push o)[w.heap.size]? = _
  rw [Array.getElem?_push, if_pos rfl]

theorem HeapOk.tlt {X hp w} (h : HeapOk X hp w) {n : Nat} (hn : Tr hp n) : n < w.heap.size := by
  obtain ⟨p, B, h1, h2, h3⟩ := hn
  obtain ⟨cs, g1, _⟩ := (h.ok p B h1 h2).2 n h3
  exact (Array.getElem?_eq_some_iff.1 g1).1

/-- A new block. -/
theorem HeapOk.new {X hp w} (h : HeapOk X hp w) {k : Nat} {t : TypeId} {c : List AV} {cs : Array Value} (hlen : c.length * k ≤ cs.size) (hk : ∀ (i : Nat) x, c[i]? = some x → x.cells.length = k)
    (hc : ∀ (i : Nat) x (j : Nat) y, c[i]? = some x → x.cells[j]? = some y → ∃ u, cs[i * k + j]? = some u ∧ oneA y = true ∧ Rep (un X hp) w y u) :
    Ext (Tr hp) w (w.alloc (.cells cs t)) (Tr (hp ++ [⟨true, some w.heap.size, k, t, c⟩])) ∧ HeapOk X (hp ++ [⟨true, some w.heap.size, k, t, c⟩]) (w.alloc (.cells cs t)) := by
  have e : Ext (Tr hp) w (w.alloc (.cells cs t)) (Tr (hp ++ [⟨true, some w.heap.size, k, t, c⟩])) :=
    ⟨rfl, rfl, rfl, (by show _ ≤ (w.heap.push _).size; rw [Array.size_push]; omega), fun b hb _ => heap_push_old w _ b hb, fun b cs' e' z hb => ⟨cs', z, by rw [heap_push_old w _ b (Array.getElem?_eq_some_iff.1 hb).1]; exact hb, rfl⟩, fun b hb => by
      rcases Tr_app hb with ⟨_, h1⟩ | h1
      · cases h1; exact .inr (Nat.le_refl _)
      · exact .inl h1⟩
  refine ⟨e, h.step e (fun q B hq hl => ?_) fun p q B C n hp' hq' hl hl' hB hC => ?_⟩
  · rcases get_app hq with ⟨rfl, rfl⟩ | hq
    · refine .inr ⟨fun h => (by cases h), fun n hn => ?_⟩
      cases hn
      refine ⟨cs, heap_push_new w _, hlen, hk, fun i x j y hx hy => ?_⟩
      obtain ⟨u, u1, u2, u3⟩ := hc i x j y hx hy
      exact ⟨u, u1, u2, Rep.ext e u3⟩
    · refine .inl ⟨hq, fun n hn => heap_push_old w _ n (h.tlt ⟨q, B, hq, hl, hn⟩)⟩
  · rcases get_app hp' with ⟨rfl, rfl⟩ | hp' <;> rcases get_app hq' with ⟨rfl, rfl⟩ | hq'
    · rfl
    · cases hB; exact absurd (h.tlt ⟨q, C, hq', hl', hC⟩) (by omega)
    · cases hC; exact absurd (h.tlt ⟨p, B, hp', hl, hB⟩) (by omega)
    · exact h.one p q B C n hp' hq' hl hl' hB hC

theorem setRow_heap_old (w : World) (b : Nat) (cs : Array Value) (k : Nat) (h : k ≠ b) : (w.setRow b cs).heap[k]? = w.heap[k]? := setRow_other w b k cs h

/-- A block of its own is written. -/
theorem HeapOk.write {X hp w} (h : HeapOk X hp w) {p : Nat} {B : Blk} {b : Nat} {old cs : Array Value} {t : TypeId} (hp1 : hp[p]? = some B) (hl : B.live = true) (hb : B.b = some b)
    (hw : w.heap[b]? = some (.cells old t (0, 0))) (hsz : cs.size = old.size) {c : List AV} (hlen : c.length * B.k ≤ cs.size) (hk : ∀ (i : Nat) x, c[i]? = some x → x.cells.length = B.k)
    (hc : ∀ (i : Nat) x (j : Nat) y, c[i]? = some x → x.cells[j]? = some y → ∃ u, cs[i * B.k + j]? = some u ∧ oneA y = true ∧ Rep (un X hp) w y u) :
    Ext (Tr hp) w (w.setRow b cs) (Tr (hp.set p { B with c := c })) ∧ HeapOk X (hp.set p { B with c := c }) (w.setRow b cs) := by
  have htb : Tr hp b := ⟨p, B, hp1, hl, hb⟩
  have e : Ext (Tr hp) w (w.setRow b cs) (Tr (hp.set p { B with c := c })) :=
    ⟨rfl, rfl, rfl, by simp [World.setRow], fun k _ hk => setRow_heap_old w b cs k (fun e => hk (e ▸ htb)), fun k cs' e' z hk => by
      by_cases e0 : k = b
      · subst e0
        rw [hw] at hk; cases hk
        exact ⟨cs, (0, 0), setRow_heap w k old cs t (0, 0) hw, hsz⟩
      · exact ⟨cs', z, by rw [setRow_heap_old w b cs k e0]; exact hk, rfl⟩, fun k hk => by
      rcases Tr_set hk with ⟨_, h1⟩ | h1
      · simp only at h1; rw [hb] at h1; cases h1; exact .inl htb
      · exact .inl h1⟩
  refine ⟨e, h.step e (fun q C hq hl' => ?_) fun p' q C D n hp' hq' hl1 hl2 hC hD => ?_⟩
  · rcases get_set hq with ⟨rfl, rfl, _⟩ | ⟨hne, hq⟩
    · refine .inr ⟨fun h0 => (by simp only at h0; rw [hb] at h0; cases h0), fun n hn => ?_⟩
      simp only at hn
      rw [hb] at hn; cases hn
      obtain ⟨cs0, g1, _⟩ := (h.ok q B hp1 hl).2 b hb
      rw [hw] at g1; cases g1
      refine ⟨cs, setRow_heap w b old cs _ (0, 0) hw, hlen, hk, fun i x j y hx hy => ?_⟩
      obtain ⟨u, u1, u2, u3⟩ := hc i x j y hx hy
      exact ⟨u, u1, u2, Rep.ext e u3⟩
    · refine .inl ⟨hq, fun n hn => setRow_heap_old w b cs n (fun e0 => hne ?_)⟩
      subst e0
      exact h.one q p C B n hq hp1 hl' hl hn hb
  · rcases get_set hp' with ⟨e1, e2, _⟩ | ⟨hn1, g1⟩ <;> rcases get_set hq' with ⟨e3, e4, _⟩ | ⟨hn2, g2⟩
    · rw [e1, e3]
    · subst e2; rw [e1]; exact h.one _ q B D n hp1 g2 hl hl2 hC hD
    · subst e4; rw [e3]; exact h.one p' _ C B n g1 hp1 hl1 hl hC hD
    · exact h.one p' q C D n g1 g2 hl1 hl2 hC hD
end Go.Ab
