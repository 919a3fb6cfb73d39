/- New blocks: variables, literals, made slices. -/
import Derived.Test.YthfjcplhjbaplaaAb12
import Derived.Laws.MakeOwn
set_option linter.all false
namespace Go.Ab
set_option linter.unusedVariables false
variable {P : Program}

/-- Cells as one value of a type. -/
def elemA (P : Program) (t : TypeId) (cs : List AV) : Option AV :=
  match tk P t with
  | some (true, s) => if cs.length = s then some (.agg cs) else none
  | some (false, s) => match cs with
    | [c] => if s = 1 ∧ oneA c = true then some c else none
    | _ => none
  | none => none

theorem elemA_cells {t : TypeId} {cs : List AV} {x : AV} (h : elemA P t cs = some x) : x.cells = cs ∧ ∃ b s, tk P t = some (b, s) ∧ cs.length = s := by
  unfold elemA at h
  split at h
  · rename_i s ht
    split at h
    · cases h; exact ⟨rfl, _, _, ht, by assumption⟩
    · cases h
  · rename_i s ht
    split at h
    · split at h
      · rename_i c hc; cases h; exact ⟨cells_one hc.2, _, _, ht, by rw [hc.1]; rfl⟩
      · cases h
    · cases h
  · cases h

/-- Cells as values of a type, so many. -/
def chunkA (P : Program) (t : TypeId) (s : Nat) : Nat → List AV → Option (List AV)
  | 0, _ => some []
  | n + 1, cs => match elemA P t (cs.take s), chunkA P t s n (cs.drop s) with
    | some x, some l => some (x :: l)
    | _, _ => none

theorem chunkA_ok {t : TypeId} {s : Nat} : ∀ (n : Nat) (cs : List AV) (l : List AV), chunkA P t s n cs = some l → (∃ b, tk P t = some (b, s)) → l.length = n ∧
    ∀ (i : Nat) x, l[i]? = some x → x.cells.length = s ∧ ∀ (j : Nat) y, x.cells[j]? = some y → cs[i * s + j]? = some y := by
  intro n
  induction n with
  | zero => intro cs l h _; cases h; exact ⟨rfl, fun i x hx => by simp at hx⟩
  | succ n ih =>
    intro cs l h ht
    simp only [chunkA] at h
    split at h
    · rename_i x l' h1 h2
      cases h
      obtain ⟨g1, b, s', g2, g3⟩ := elemA_cells h1
      obtain ⟨k1, k2⟩ := ih _ _ h2 ht
      obtain ⟨b', hb'⟩ := ht
      rw [hb'] at g2; cases g2
      refine ⟨by simp [k1], fun i y hy => ?_⟩
      cases i with
      | zero =>
        simp at hy; subst hy
        refine ⟨by rw [g1]; exact g3, fun j z hz => ?_⟩
        rw [g1, List.getElem?_take] at hz
        split at hz
        · simpa using hz
        · cases hz
      | succ i =>
        simp only [List.getElem?_cons_succ] at hy
        obtain ⟨q1, q2⟩ := k2 i y hy
        refine ⟨q1, fun j z hz => ?_⟩
        have := q2 j z hz
        rw [List.getElem?_drop] at this
        rw [← this]; congr 1; rw [Nat.add_mul]; omega
    · cases h

/-- What a new block holds: is it a pointer's, its cells an element, its type, and its elements. -/
structure NewB where
  ptr : Bool
  k : Nat
  t : TypeId
  c : List AV

def zerosA (z : List AV) (n : Nat) : List AV := (List.replicate n z).flatten

def byt (P : Program) (t : TypeId) : Option Nat := (P.info? t).map (·.bytes)
def opn (P : Program) (fr : Nat → AV) : Op → Option NewB
  | .alloc t => match zcl P t with
    | some z => (elemA P t z).map fun x => ⟨true, z.length, t, [x]⟩
    | none => none
  | .box t x => match (ev fr x).cl with
    | some ys => (elemA P t ys).map fun x => ⟨true, ys.length, t, [x]⟩
    | none => none
  | .buildSlice t n parts => match sle P t with
    | some (e, s) => match zcl P e, tk P e with
      | some z, some (_, s') => if z.length = s ∧ s' = s ∧ n * s ≤ 16777216 then match fillA ((List.range n).map fun j => (j * s, s)) (zerosA z n) (parts.toList.map fun p => (p.1, ev fr p.2)) with
          | some cs => (chunkA P e s n cs).map fun l => ⟨false, s, e, l⟩
          | none => none
        else none
      | _, _ => none
    | none => none
  | .makeSlice t l c => match intOfA (ev fr l), intOfA (ev fr c), sle P t with
    | some n, some m, some (e, s) => match zcl P e, byt P e with
      | some z, some by_ => match elemA P e z with
        | some x => if z.length = s ∧ 0 ≤ n ∧ n ≤ m ∧ (by_ : Int) * m ≤ 281474976710656 ∧ m ≤ 9223372036854775807 then some ⟨false, s, e, List.replicate n.toNat x⟩ else none
        | none => none
      | _, _ => none
    | _, _, _ => none
  | _ => none

theorem fillA_len {pl : List (Nat × Nat)} : ∀ (parts : List (Nat × AV)) (cs rs : List AV), fillA pl cs parts = some rs → rs.length = cs.length := by
  intro parts
  induction parts with
  | nil => intro cs rs h; cases h; rfl
  | cons a parts ih =>
    intro cs rs h
    obtain ⟨i, x⟩ := a
    simp only [fillA] at h
    split at h
    · split at h
      · rename_i hc
        rw [ih _ _ h]
        simp only [setAt, List.length_append, List.length_take, List.length_drop]; omega
      · cases h
    · cases h

theorem zeros_rep {Y : Nat → Prop} {w : World} {z : List AV} {v : Array Value} (h : RepC Y w z v) (n : Nat) : RepC Y w (zerosA z n) ((Array.range (n * z.length)).map (v[· % v.size]!)) := by
  have hlen : ∀ n, (zerosA z n).length = n * z.length := by intro n; simp [zerosA]
  have hget : ∀ n i, i < n * z.length → (zerosA z n)[i]? = z[i % z.length]? := by
    intro n
    induction n with
    | zero => intro i hi; simp at hi
    | succ n ih =>
      intro i hi
      simp only [zerosA, List.replicate_succ, List.flatten_cons]
      by_cases c : i < z.length
      · rw [List.getElem?_append_left c, Nat.mod_eq_of_lt c]
      · rw [List.getElem?_append_right (by omega)]
        have := ih (i - z.length) (by rw [Nat.add_mul] at hi; omega)
        simp only [zerosA] at this
        rw [this]
        have : (i - z.length) % z.length = i % z.length := by
          conv => rhs; rw [show i = (i - z.length) + z.length by omega, Nat.add_mod_right]
        rw [this]
  refine ⟨by simp [hlen], fun i x u hx hu => ?_⟩
  have hi : i < n * z.length := by rw [← hlen n]; exact (List.getElem?_eq_some_iff.1 hx).1
  rw [hget n i hi] at hx
  have hpos : 0 < z.length := by
    rcases Nat.eq_zero_or_pos z.length with e | e
    · rw [e, Nat.mul_zero] at hi; omega
    · exact e
  have hm : i % z.length < v.size := by rw [h.1]; exact Nat.mod_lt _ hpos
  have : u = v[i % z.length]'hm := by
    simp [hi] at hu
    rw [← hu, h.1]
    simp [hm]
  rw [this]
  exact h.2 _ x _ hx (Array.getElem?_eq_getElem hm)

theorem opn_ok {X n fr hp a w} (h : Sim X n fr hp a w) {o : Oper} {nb : NewB} (ho : opn P fr o.op = some nb) :
    ∃ cs c, (execOp a.eval o).run P w = .ok (.value (if nb.ptr = true then .pointer (some ⟨w.heap.size, 0, none⟩) else .slice (some ⟨w.heap.size, 0, none⟩) nb.c.length c)) (w.alloc (.cells cs nb.t)) ∧
      nb.c.length ≤ c ∧ c * nb.k ≤ cs.size ∧ nb.c.length * nb.k ≤ cs.size ∧ (∀ (i : Nat) x, nb.c[i]? = some x → x.cells.length = nb.k) ∧
      ∀ (i : Nat) x (j : Nat) y, nb.c[i]? = some x → x.cells[j]? = some y → ∃ u, cs[i * nb.k + j]? = some u ∧ oneA y = true ∧ Rep (un X hp) w y u := by
  obtain ⟨dst, op, type, pos, after, guard⟩ := o
  simp only at ho
  have one : ∀ (t : TypeId) (ys : List AV) (x : AV) (vs : Array Value), elemA P t ys = some x → RepC (un X hp) w ys vs → ([x].length ≤ 1 ∧ 1 * ys.length ≤ vs.size ∧ [x].length * ys.length ≤ vs.size ∧ (∀ (i : Nat) z, [x][i]? = some z → z.cells.length = ys.length) ∧
      ∀ (i : Nat) x' (j : Nat) y, [x][i]? = some x' → x'.cells[j]? = some y → ∃ u, vs[i * ys.length + j]? = some u ∧ oneA y = true ∧ Rep (un X hp) w y u) := by
    intro t ys x vs h1 h2
    obtain ⟨g1, _⟩ := elemA_cells h1
    refine ⟨by simp, by simp [h2.1], by simp [h2.1], fun i z hz => ?_, fun i x' j y hx' hy => ?_⟩
    · cases i with
      | zero => simp at hz; subst hz; rw [g1]
      | succ i => simp at hz
    · cases i with
      | zero =>
        simp at hx'; subst hx'
        rw [g1] at hy
        have hlt : j < vs.size := by rw [h2.1]; exact (List.getElem?_eq_some_iff.1 hy).1
        refine ⟨vs[j], by simp [hlt], h2.2 j y _ hy (Array.getElem?_eq_getElem hlt)⟩
      | succ i => simp at hx'
  unfold opn at ho
  split at ho
  · rename_i t
    split at ho
    · rename_i z hz
      simp only [Option.map_eq_some_iff] at ho
      obtain ⟨x, hx, rfl⟩ := ho
      obtain ⟨v, z1, z2⟩ := zcl_some hz (un X hp) w
      refine ⟨v.cells, 1, ?_, one t z x v.cells hx z2⟩
      simp only [execOp, Sem.run_bind, Instr.alloc, z1, Result.andThen_ok, newVar, newRow, run_newObj, Sem.run_pure]
      rfl
    · cases ho
  · rename_i t y
    split at ho
    · rename_i ys hys
      simp only [Option.map_eq_some_iff] at ho
      obtain ⟨x, hx, rfl⟩ := ho
      refine ⟨(a.eval y).cells, 1, ?_, one t ys x _ hx ((h.ev y).cl hys)⟩
      simp only [execOp, Sem.run_bind, Instr.box, Result.andThen_ok, newVar, newRow, run_newObj, Sem.run_pure]
      rfl
    · cases ho
  · rename_i t m parts
    split at ho
    · rename_i e s hs
      split at ho
      · rename_i z b' s' hz htk0
        split at ho
        · rename_i hc
          obtain ⟨rfl, rfl, hm⟩ := hc
          split at ho
          · rename_i cs hcs
            simp only [Option.map_eq_some_iff] at ho
            obtain ⟨l, hl, rfl⟩ := ho
            obtain ⟨i, g1, g2, g3⟩ := sle_some hs
            obtain ⟨v, z1, z2⟩ := zcl_some hz (un X hp) w
            have hzr := zeros_rep z2 m
            obtain ⟨r, r1, r2⟩ := fillA_ok (Y := un X hp) (w := w) (fun i => some (i * z.length, z.length)) (fun j o ho => by
              simp only [List.getElem?_map, Option.map_eq_some_iff] at ho
              obtain ⟨q, hq, rfl⟩ := ho
              obtain ⟨_, hq'⟩ := List.getElem?_eq_some_iff.1 hq
              simp at hq'; rw [hq']) _ (parts.toList.map fun p => (p.1, a.eval p.2)) (zerosA z m) cs _ hzr (by simp [Function.comp_def]) (fun j y u hy hu => by
                simp only [List.map_map, List.getElem?_map, Option.map_eq_some_iff, Function.comp_apply] at hy hu
                obtain ⟨q, hq, rfl⟩ := hy
                obtain ⟨q', hq', rfl⟩ := hu
                rw [hq] at hq'; cases hq'
                exact h.ev _) hcs
            have htk : ∃ b, tk P e = some (b, z.length) := ⟨_, htk0⟩
            obtain ⟨k1, k2⟩ := chunkA_ok m cs l hl htk
            have hsz : m * z.length ≤ r.size := by
              rw [r2.1, fillA_len _ _ _ hcs]; simp [zerosA]
            refine ⟨r, m, ?_, by simp [k1], by simpa using hsz, by simp [k1]; exact hsz, fun i x hx => (k2 i x hx).1, fun i x j y hx hy => ?_⟩
            · simp only [execOp, Sem.run_bind, Instr.buildSlice, run_underlying g1, Result.andThen_ok, run_sizeOf g2, g3]
              rw [if_neg (by omega)]
              by_cases h0 : m * z.length = 0
              · rw [h0] at r1
                simp only [h0, if_true, Sem.run_bind, Sem.run_pure, Result.andThen_ok]
                have e0 : ∀ q : Array Value, (Array.range 0).map (fun x => q[x % q.size]!) = #[] := fun q => by simp
                rw [e0] at r1
                rw [e0, Array.toList_map, r1]
                simp only [Sem.run_bind, newRow, run_newObj, Result.andThen_ok, Sem.run_pure, k1]
                rfl
              · simp only [if_neg h0, Sem.run_bind, z1, Sem.run_pure, Result.andThen_ok]
                rw [Array.toList_map, r1]
                simp only [Sem.run_bind, newRow, run_newObj, Result.andThen_ok, Sem.run_pure, k1]
                rfl
            · have := (k2 i x hx).2 j y hy
              have hlt : i * z.length + j < r.size := by rw [r2.1]; exact (List.getElem?_eq_some_iff.1 this).1
              exact ⟨r[i * z.length + j], Array.getElem?_eq_getElem hlt, r2.2 _ y _ this (Array.getElem?_eq_getElem hlt)⟩
          · cases ho
        · cases ho
      · cases ho
    · cases ho
  · rename_i t l c
    split at ho
    · rename_i n m e s hn hm hs
      split at ho
      · rename_i z by_ hz hby
        split at ho
        · rename_i x hx
          split at ho
          · rename_i hc
            cases ho
            obtain ⟨rfl, h0, hnm, hb, h63⟩ := hc
            obtain ⟨i, g1, g2, g3⟩ := sle_some hs
            simp only [byt, g2, Option.map_some, Option.some.injEq] at hby
            obtain ⟨kn, en⟩ := intOfA_ok (h.ev l) hn
            obtain ⟨km, em⟩ := intOfA_ok (h.ev c) hm
            obtain ⟨v, z1, z2⟩ := zcl_some hz (un X hp) w
            have hzr := zeros_rep z2 m.toNat
            have hzv : i.zero = some v := by
              have := z1
              simp only [zeroValue, Sem.run_bind, run_typeInfo g2, Result.andThen_ok] at this
              cases hz' : i.zero with
              | none => simp [hz'] at this
              | some v' => simp [hz'] at this; rw [this]
            have hxc := (elemA_cells hx).1
            refine ⟨madeCells v.cells (m.toNat * i.size), m.toNat, ?_, by simp; omega, ?_, ?_, fun j y hy => ?_, fun j y q u hy hu => ?_⟩
            · simp only [execOp, en, em, Sem.run_bind, run_make w t e i v g1 g2 hzv kn km n m h0 hnm (by rw [hby]; exact hb) h63, Result.andThen_ok, Sem.run_pure, List.length_replicate]
              rfl
            · rw [size_madeCells, g3]; exact Nat.le_refl _
            · rw [size_madeCells, g3, List.length_replicate]; exact Nat.mul_le_mul_right _ (by omega)
            · rw [List.getElem?_replicate] at hy
              split at hy
              · cases hy; rw [hxc]
              · cases hy
            · rw [List.getElem?_replicate] at hy
              split at hy
              · rename_i hlt
                cases hy
                rw [hxc] at hu
                have hq : q < z.length := (List.getElem?_eq_some_iff.1 hu).1
                have hlt2 : j * z.length + q < m.toNat * z.length := mul_lt (by omega) hq
                have hvq : q < v.cells.size := by rw [z2.1]; exact hq
                refine ⟨v.cells[q], ?_, z2.2 q u _ hu (Array.getElem?_eq_getElem hvq)⟩
                have e1 : (j * z.length + q) % v.cells.size = q := by
                  rw [z2.1, Nat.mul_comm, Nat.mul_add_mod, Nat.mod_eq_of_lt hq]
                simp only [madeCells, g3]
                rw [Array.getElem?_map, Array.getElem?_range]
                simp [hlt2, e1, hvq]
              · cases hy
          · cases ho
        · cases ho
      · cases ho
    · cases ho
  · cases ho
end Go.Ab
