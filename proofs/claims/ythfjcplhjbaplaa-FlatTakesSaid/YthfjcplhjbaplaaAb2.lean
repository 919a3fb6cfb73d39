/- What the operations that only compute and read come to, at abstract values. -/
import Derived.Test.YthfjcplhjbaplaaAb1
import Derived.Laws.Sem
import Derived.Laws.Cells
import Derived.Laws.Slices
import Derived.Laws.Strings
import Derived.Laws.Small
import Derived.Laws.Pointers
set_option linter.all false
namespace Go.Ab
set_option linter.unusedVariables false

def ofCell : Value → AV
  | .slice none 0 0 => .nils
  | .agg _ | .tuple _ => .bad
  | x => .v x
def ofValue : Value → AV
  | .agg cs => if cs.toList.all (·.oneCell') then .agg (cs.toList.map ofCell) else .bad
  | x => ofCell x
theorem rep_ofCell (Y : Nat → Prop) (w : World) (u : Value) : Rep Y w (ofCell u) u := by
  unfold ofCell; split
  · exact .nils _
  · exact .bad _
  · exact .bad _
  · rename_i h1 h2 h3
    refine .v _ ?_
    cases u <;> first | rfl | exact absurd rfl (h2 _) | exact absurd rfl (h3 _)
theorem one_ofCell {u : Value} (h : u.oneCell' = true) : oneA (ofCell u) = true := by
  unfold ofCell; split <;> first | rfl | (cases h; done)
theorem rep_ofCells (Y : Nat → Prop) (w : World) (cs : Array Value) (i : Nat) (x : AV) (u : Value) (hx : (cs.toList.map ofCell)[i]? = some x) (hu : cs[i]? = some u) : Rep Y w x u := by
  simp only [List.getElem?_map, Array.getElem?_toList, hu, Option.map_some, Option.some.injEq] at hx
  subst hx; exact rep_ofCell Y w u
theorem one_ofCells (cs : Array Value) (h : cs.toList.all (·.oneCell') = true) (i : Nat) (x : AV) (hx : (cs.toList.map ofCell)[i]? = some x) : oneA x = true := by
  simp only [List.getElem?_map, Option.map_eq_some_iff] at hx
  obtain ⟨u, hu, rfl⟩ := hx
  exact one_ofCell (List.all_eq_true.1 h u (List.mem_of_getElem? hu))
theorem rep_ofValue (Y : Nat → Prop) (w : World) (u : Value) : Rep Y w (ofValue u) u := by
  unfold ofValue; split
  · split
    · rename_i cs h
      exact .agg _ _ (by simp) (one_ofCells cs h) (rep_ofCells Y w _)
    · exact .bad _
  · exact rep_ofCell Y w _

def ev (fr : Nat → AV) : Operand → AV
  | .tmp t => fr t
  | .const v => ofValue v
  | .global g => .v (.pointer (some ⟨g, 0, none⟩))
  | .func f => .fn (.func f) [] []
theorem Sim.ev {X n fr hp a w} (h : Sim X n fr hp a w) (x : Operand) : Rep (un X hp) w (Ab.ev fr x) (a.eval x) := by
  cases x with
  | tmp t => exact h.rep t
  | const v => exact rep_ofValue _ _ v
  | global g => exact .v _ rfl
  | func f => exact .fn _ _ _ _ _ rfl rfl (by simp) (by simp)

/-- Is a type held in many cells, and in how many? -/
def tk (P : Program) (t : TypeId) : Option (Bool × Nat) :=
  match P.underlying t, P.info? t with
  | some d, some i => some ((match d with | .struct _ | .array _ _ => true | _ => false), i.size)
  | _, _ => none
/-- Where a field lies, and its type. -/
def fld (P : Program) (t : TypeId) (f : Nat) : Option (Nat × TypeId) :=
  match P.underlying t with
  | some (.struct fs) => match fs[f]? with
    | some d => match P.info? d.type with
      | some i => if i.size = 0 then none else some (d.offset, d.type)
      | none => none
    | none => none
  | _ => none
/-- A slice's elements: their type, and how many cells one takes. -/
def sle (P : Program) (t : TypeId) : Option (TypeId × Nat) :=
  match P.underlying t with
  | some (.slice e) => (P.info? e).map fun i => (e, i.size)
  | _ => none
/-- An array: how long, of what, of how many cells. -/
def arr (P : Program) (t : TypeId) : Option (Nat × TypeId × Nat) :=
  match P.underlying t with
  | some (.array n e) => (P.info? e).map fun i => (n, e, i.size)
  | _ => none
def isStr (P : Program) (t : TypeId) : Bool := match P.underlying t with | some .string => true | _ => false
def intk (P : Program) (t : TypeId) : Option IntKind := match P.underlying t with | some (.int k) => some k | _ => none
/-- The cells of a new one. -/
def zc (P : Program) (t : TypeId) : Option AV := match P.info? t with | some i => i.zero.map ofValue | none => none

/-- A part of cells. -/
def partA (P : Program) (t : TypeId) (cs : List AV) (j : Nat) : Option AV :=
  match tk P t with
  | some (true, s) => if j + s ≤ cs.length then some (.agg ((cs.drop j).take s)) else none
  | some (false, _) => cs[j]?
  | none => none

variable {P : Program}

theorem run_underlying {t : TypeId} {d : TypeDesc} (h : P.underlying t = some d) (w : World) : (underlying t).run P w = .ok d w := by
  simp [underlying, h]
theorem run_typeInfo {t : TypeId} {i : TypeInfo} (h : P.info? t = some i) (w : World) : (typeInfo t).run P w = .ok i w := by
  simp [typeInfo, h]
theorem run_sizeOf {t : TypeId} {i : TypeInfo} (h : P.info? t = some i) (w : World) : (sizeOf t).run P w = .ok i.size w := by
  simp [sizeOf, run_typeInfo h]
theorem tk_some {t : TypeId} {b : Bool} {s : Nat} (h : tk P t = some (b, s)) : (∃ d i, P.underlying t = some d ∧ P.info? t = some i ∧ i.size = s ∧ b = (match d with | .struct _ | .array _ _ => true | _ => false)) := by
  unfold tk at h
  split at h
  · rename_i d i h1 h2
    simp only [Option.some.injEq, Prod.mk.injEq] at h
    exact ⟨d, i, h1, h2, h.2, h.1.symm⟩
  · cases h
theorem run_isAgg {t : TypeId} {b : Bool} {s : Nat} (h : tk P t = some (b, s)) (w : World) : (isAgg t).run P w = .ok b w := by
  obtain ⟨d, i, h1, h2, h3, rfl⟩ := tk_some h
  simp only [isAgg, Sem.run_bind, run_underlying h1, Result.andThen_ok]
  cases d <;> rfl
theorem run_size {t : TypeId} {b : Bool} {s : Nat} (h : tk P t = some (b, s)) (w : World) : (sizeOf t).run P w = .ok s w := by
  obtain ⟨d, i, h1, h2, rfl, h4⟩ := tk_some h
  exact run_sizeOf h2 w
theorem add_addr (b o n : Nat) : Addr.add ⟨b, o, none⟩ n = ⟨b, o + n, none⟩ := by
  unfold Addr.add; split
  · subst_vars; rfl
  · rfl

/-- A part of a value's cells. -/
theorem part_run {Y : Nat → Prop} {w : World} {t : TypeId} {cs : List AV} {vs : Array Value} {j : Nat} {x : AV} (hn : vs.size = cs.length) (ho : ∀ (i : Nat) x, cs[i]? = some x → oneA x = true)
    (h : ∀ (i : Nat) x u, cs[i]? = some x → vs[i]? = some u → Rep Y w x u) (hp : partA P t cs j = some x) :
    ∃ u, (part t vs j).run P w = .ok u w ∧ Rep Y w x u := by
  unfold partA at hp
  split at hp
  · rename_i s ht
    split at hp
    · rename_i hj
      simp only [Option.some.injEq] at hp; subst hp
      refine ⟨.agg (vs.extract j (j + s)), by simp [part, run_isAgg ht, run_size ht], .agg _ _ (by simp; omega) (fun i x hx => ?_) fun i x u hx hu => ?_⟩
      · simp only [List.getElem?_take, List.getElem?_drop] at hx
        split at hx
        · exact ho _ x hx
        · cases hx
      simp only [List.getElem?_take, List.getElem?_drop] at hx
      split at hx
      · refine h (j + i) x u hx ?_
        rw [Array.getElem?_extract] at hu
        split at hu
        · exact hu
        · cases hu
      · cases hx
    · cases hp
  · rename_i s ht
    obtain ⟨hlt, _⟩ := List.getElem?_eq_some_iff.1 hp
    have hv : vs[j]? = some vs[j] := by simp [hn, hlt]
    refine ⟨vs[j], ?_, h j x _ hp hv⟩
    simp only [part, Sem.run_bind, run_isAgg ht, Result.andThen_ok, Bool.false_eq_true, if_false, hv]
    rfl
  · cases hp

/-- A read of memory. -/
theorem load_run {Y : Nat → Prop} {w : World} {t : TypeId} {cs : List AV} {b off j : Nat} {x : AV}
    (h : ∀ (i : Nat) y, cs[i]? = some y → ∃ u, w.cell? ⟨b, off + i, none⟩ = some u ∧ oneA y = true ∧ Rep Y w y u) (hp : partA P t cs j = some x) :
    ∃ u, (loadVar t ⟨b, off + j, none⟩).run P w = .ok u w ∧ Rep Y w x u := by
  unfold partA at hp
  split at hp
  · rename_i s ht
    split at hp
    · rename_i hj
      simp only [Option.some.injEq] at hp; subst hp
      have hc : ∀ i, i < s → ∃ u, w.cell? ⟨b, off + j + i, none⟩ = some u ∧ ∀ y, cs[j + i]? = some y → oneA y = true ∧ Rep Y w y u := by
        intro i hi
        obtain ⟨u, h1, h2⟩ := h (j + i) cs[j + i] (List.getElem?_eq_getElem (by omega))
        exact ⟨u, by rw [Nat.add_assoc]; exact h1, fun y hy => by
          have : cs[j + i]? = some cs[j + i] := List.getElem?_eq_getElem (by omega)
          rw [this] at hy; cases hy; exact h2⟩
      have hl := run_loadCells (P := P) (w := w) ⟨b, off + j, none⟩ s (fun i => (w.cell? ⟨b, off + j + i, none⟩).getD undef) (fun i hi => by
        obtain ⟨u, h1, _⟩ := hc i hi
        rw [add_addr, h1]; rfl)
      refine ⟨.agg _, by simp only [loadVar, Sem.run_bind, run_isAgg ht, Result.andThen_ok, if_true, run_size ht, hl, Sem.run_pure, Sem.run_ite]; rfl, ?_⟩
      refine .agg _ _ (by simp; omega) (fun i x hx => ?_) fun i x u hx hu => ?_
      · simp only [List.getElem?_take, List.getElem?_drop] at hx
        split at hx
        · rename_i hi
          obtain ⟨u', h1, h2⟩ := hc i hi
          exact (h2 x hx).1
        · cases hx
      simp only [List.getElem?_take, List.getElem?_drop] at hx
      split at hx
      · rename_i hi
        obtain ⟨u', h1, h2⟩ := hc i hi
        have : u = u' := by
          simp [hi, h1] at hu
          exact hu.symm
        rw [this]; exact (h2 x hx).2
      · cases hx
    · cases hp
  · rename_i s ht
    obtain ⟨u, h1, h2⟩ := h j x hp
    exact ⟨u, by simp only [loadVar, Sem.run_bind, run_isAgg ht, Result.andThen_ok, Bool.false_eq_true, if_false, run_load, h1], h2.2⟩
  · cases hp
end Go.Ab
