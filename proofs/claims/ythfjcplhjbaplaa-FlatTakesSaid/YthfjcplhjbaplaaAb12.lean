/- Storing; new blocks. -/
import Derived.Test.YthfjcplhjbaplaaAb11
set_option linter.all false
namespace Go.Ab
set_option linter.unusedVariables false
variable {P : Program}

/-- An element of which some cells are others. -/
def putE (e : AV) (j : Nat) (ys : List AV) : Option AV :=
  match e with
  | .agg cs => if j + ys.length ≤ cs.length then some (.agg (setAt cs j ys)) else none
  | _ => match j, ys with
    | 0, [z] => some z
    | _, _ => none

def stA (P : Program) (hp : List Blk) (t : TypeId) (x y : AV) : Option (List Blk) :=
  match x with
  | .ptr p k b i j => match blkAt hp p k b, y.cl, tk P t with
    | some B, some ys, some (_, s) => match B.c[i]? with
      | some e => if ys.length = s then (putE e j ys).map fun e' => hp.set p { B with c := B.c.set i e' } else none
      | none => none
    | _, _, _ => none
  | _ => none

theorem cells_one {z : AV} (h : oneA z = true) : z.cells = [z] := by cases z <;> first | rfl | cases h

theorem putE_cells {e e' : AV} {j : Nat} {ys : List AV} (ho : ∀ z ∈ ys, oneA z = true) (h : putE e j ys = some e') : j + ys.length ≤ e.cells.length ∧ e'.cells = setAt e.cells j ys := by
  unfold putE at h
  split at h
  · split at h
    · cases h; exact ⟨by assumption, rfl⟩
    · cases h
  · rename_i hne
    split at h
    · cases h
      rename_i z
      have h1 : e.cells = [e] := by cases e <;> first | rfl | exact absurd rfl (hne _)
      rw [h1, cells_one (ho e' (by simp))]
      exact ⟨by simp, by simp [setAt]⟩
    · cases h

theorem splice_get {l vs : List Value} {o : Nat} (h : o + vs.length ≤ l.length) (i : Nat) :
    (l.take o ++ vs ++ l.drop (o + vs.length))[i]? = if o ≤ i ∧ i < o + vs.length then vs[i - o]? else l[i]? := by
  by_cases c1 : i < o
  · rw [if_neg (by omega), List.append_assoc, List.getElem?_append_left (by simp; omega), List.getElem?_take, if_pos c1]
  · by_cases c2 : i < o + vs.length
    · rw [if_pos ⟨by omega, c2⟩, List.getElem?_append_left (by simp; omega), List.getElem?_append_right (by simp; omega)]
      congr 1; simp; omega
    · rw [if_neg (by omega), List.getElem?_append_right (by simp; omega), List.getElem?_drop]
      congr 1; simp; omega
theorem splice_len {l vs : List Value} {o : Nat} (h : o + vs.length ≤ l.length) : (l.take o ++ vs ++ l.drop (o + vs.length)).length = l.length := by
  simp; omega
theorem setAt_get {l vs : List AV} {o : Nat} (h : o + vs.length ≤ l.length) (i : Nat) :
    (setAt l o vs)[i]? = if o ≤ i ∧ i < o + vs.length then vs[i - o]? else l[i]? := by
  unfold setAt
  by_cases c1 : i < o
  · rw [if_neg (by omega), List.append_assoc, List.getElem?_append_left (by simp; omega), List.getElem?_take, if_pos c1]
  · by_cases c2 : i < o + vs.length
    · rw [if_pos ⟨by omega, c2⟩, List.getElem?_append_left (by simp; omega), List.getElem?_append_right (by simp; omega)]
      congr 1; simp; omega
    · rw [if_neg (by omega), List.getElem?_append_right (by simp; omega), List.getElem?_drop]
      congr 1; simp; omega

theorem RepC.ones {Y : Nat → Prop} {w : World} {cs : List AV} {vs : Array Value} (h : RepC Y w cs vs) : ∀ z ∈ cs, oneA z = true := by
  intro z hz
  obtain ⟨i, hi, rfl⟩ := List.getElem_of_mem hz
  exact h.one i _ (List.getElem?_eq_getElem hi)
theorem oneA_value {Y : Nat → Prop} {w : World} {x : AV} {u : Value} (h : Rep Y w x u) (ho : oneA x = true) : u.oneCell' = true := by
  cases h <;> first | assumption | rfl | cases ho
theorem RepC.onesV {Y : Nat → Prop} {w : World} {cs : List AV} {vs : Array Value} (h : RepC Y w cs vs) : ∀ v ∈ vs.toList, v.oneCell' = true := by
  intro v hv
  obtain ⟨i, hi, rfl⟩ := List.getElem_of_mem hv
  have hi' : i < cs.length := by rw [← h.1]; simpa using hi
  obtain ⟨h1, h2⟩ := h.2 i cs[i] _ (List.getElem?_eq_getElem hi') (by rw [← Array.getElem?_toList]; exact List.getElem?_eq_getElem hi)
  exact oneA_value h2 h1

theorem mul_lt {i i' j k : Nat} (h : i' < i) (hj : j < k) : i' * k + j < i * k := by
  have : (i' + 1) * k ≤ i * k := Nat.mul_le_mul_right k h
  rw [Nat.add_mul] at this; omega

theorem stA_ok {X n fr hp a w} (h : Sim X n fr hp a w) {t : TypeId} {x y : AV} {u v : Value} {hp' : List Blk} (hx : Rep (un X hp) w x u) (hy : Rep (un X hp) w y v) (hs : stA P hp t x y = some hp') :
    ∃ w', (Instr.storeAt t u v).run P w = .ok () w' ∧ Ext (Tr hp) w w' (Tr hp') ∧ HeapOk X hp' w' := by
  unfold stA at hs
  split at hs
  · rename_i p k b i j
    split at hs
    · rename_i B ys bb s hB hcl ht
      split at hs
      · rename_i e he
        split at hs
        · rename_i hlen
          simp only [Option.map_eq_some_iff] at hs
          obtain ⟨e', hput, rfl⟩ := hs
          cases hx
          rename_i b
          obtain ⟨h1, h2, rfl, h4⟩ := blkAt_some hB
          obtain ⟨cs, g1, g2, g3, g4⟩ := (h.heap.ok p B h1 h2).2 b h4
          have hrc := hy.cl hcl
          obtain ⟨q1, q2⟩ := putE_cells hrc.ones hput
          have hek := g3 i e he
          have hi : i < B.c.length := (List.getElem?_eq_some_iff.1 he).1
          have hfit : i * B.k + B.k ≤ cs.size := by
            have : (i + 1) * B.k ≤ B.c.length * B.k := Nat.mul_le_mul_right _ hi
            rw [Nat.add_mul] at this; omega
          have hvl : v.cells.toList.length = ys.length := by simp [hrc.1]
          have hst := run_storeCells_at P b (i * B.k + j) B.t v.cells.toList 0 cs w g1 (by rw [hvl]; omega) hrc.onesV
          simp only [Nat.add_zero] at hst
          have hfit2 : i * B.k + j + v.cells.toList.length ≤ cs.toList.length := by rw [hvl]; simp; omega
          have hwr := h.heap.write (c := B.c.set i e') (cs := (cs.toList.take (i * B.k + j) ++ v.cells.toList ++ cs.toList.drop (i * B.k + j + v.cells.toList.length)).toArray) h1 h2 h4 g1 (by
              have := splice_len hfit2
              simpa using this) (by
              have := splice_len hfit2
              simp only [List.size_toArray, this, List.length_set]
              simpa using g2) (fun i' x hx => by
              rw [List.getElem?_set] at hx
              split at hx
              · subst_vars
                cases hx; rw [q2]
                simp only [setAt, List.length_append, List.length_take, List.length_drop]; omega
              · exact g3 i' x hx) (fun i' x j' y' hx' hy' => by
              rw [List.getElem?_set] at hx'
              rw [List.getElem?_toArray, splice_get hfit2]
              split at hx'
              · subst_vars
                cases hx'
                rw [q2, setAt_get q1] at hy'
                split at hy'
                · rename_i hc
                  rw [if_pos ⟨by omega, by rw [hvl]; omega⟩]
                  rename_i i _
                  have e1 : ∀ q, q + j' - (q + j) = j' - j := by intro q; omega
                  rw [e1]
                  have hlt : j' - j < v.cells.size := by rw [hrc.1]; omega
                  refine ⟨v.cells[j' - j], by simp [hlt], ?_⟩
                  exact hrc.2 (j' - j) y' _ hy' (Array.getElem?_eq_getElem hlt)
                · rename_i hc
                  rw [if_neg (by rw [hvl]; omega)]
                  obtain ⟨u, u1, u2⟩ := g4 _ e j' y' he hy'
                  exact ⟨u, by simpa using u1, u2⟩
              · rename_i hne
                have hj' : j' < B.k := by
                  rw [← g3 i' x hx']; exact (List.getElem?_eq_some_iff.1 hy').1
                rw [if_neg (by
                  rw [hvl]
                  rcases Nat.lt_or_gt_of_ne hne with hlt | hgt
                  · have := mul_lt (k := B.k) (j := 0) hlt (by omega)
                    have h3 : (i + 1) * B.k ≤ i' * B.k := Nat.mul_le_mul_right _ hlt
                    rw [Nat.add_mul] at h3; omega
                  · have := mul_lt hgt hj'; omega)]
                obtain ⟨u, u1, u2⟩ := g4 i' x j' y' hx' hy'
                exact ⟨u, by simpa using u1, u2⟩)
          refine ⟨_, ?_, hwr⟩
          simp only [Instr.storeAt, Instr.sureAddr, Sem.run_bind, Sem.run_pure, Result.andThen_ok, storeVar, run_size ht]
          rw [if_neg (by simp [hrc.1, hlen])]
          exact hst
        · cases hs
      · cases hs
    · cases hs
  · cases hs
end Go.Ab
