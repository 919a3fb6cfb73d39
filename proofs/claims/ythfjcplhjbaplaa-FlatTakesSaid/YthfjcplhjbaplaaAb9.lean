/- New structs and arrays by value; all pure operations as one: opv. -/
import Derived.Test.YthfjcplhjbaplaaAb8
set_option linter.all false
namespace Go.Ab
set_option linter.unusedVariables false
variable {P : Program}

/-- The cells that a value takes. -/
def AV.cl : AV → Option (List AV)
  | .bad | .tup _ => none
  | .agg l => some l
  | x => some [x]

/-- Values and cells. -/
def RepC (Y : Nat → Prop) (w : World) (cs : List AV) (vs : Array Value) : Prop :=
  vs.size = cs.length ∧ ∀ (i : Nat) x u, cs[i]? = some x → vs[i]? = some u → oneA x = true ∧ Rep Y w x u

theorem Rep.cl {Y : Nat → Prop} {w : World} {x : AV} {u : Value} {cs : List AV} (h : Rep Y w x u) (hc : x.cl = some cs) : RepC Y w cs u.cells := by
  have one : ∀ {x : AV} {u : Value}, Rep Y w x u → oneA x = true → u.cells = #[u] → RepC Y w [x] u.cells := fun h ho e => by
    rw [e]
    refine ⟨rfl, fun i x u hx hu => ?_⟩
    cases i with
    | zero => simp at hx hu; subst hx; subst hu; exact ⟨ho, h⟩
    | succ i => simp at hx
  cases h with
  | bad => cases hc
  | tup => cases hc
  | agg l vs hn ho h => cases hc; exact ⟨hn, fun i x u hx hu => ⟨ho i x hx, h i x u hx hu⟩⟩
  | v _ ho => cases hc; exact one (.v _ ho) rfl (by cases u <;> first | rfl | cases ho)
  | nils a => cases hc; exact one (.nils a) rfl rfl
  | sl0 k a c => cases hc; exact one (.sl0 k a c) rfl rfl
  | sl k l b off c f hX hb hcc hk ho hl' h' => cases hc; exact one (.sl k l b off c f hX hb hcc hk ho hl' h') rfl rfl
  | ownE p k b off a => cases hc; exact one (.ownE p k b off a) rfl rfl
  | own p k b off len c hcc cs e z hb hs => cases hc; exact one (.own p k b off len c hcc cs e z hb hs) rfl rfl
  | ptr p k b i j => cases hc; exact one (.ptr p k b i j) rfl rfl
  | rp d j b off f hX hb ho hl' h' => cases hc; exact one (.rp d j b off f hX hb ho hl' h') rfl rfl
  | fn f l1 l2 v1 v2 n1 n2 h1 h2 => cases hc; exact one (.fn f l1 l2 v1 v2 n1 n2 h1 h2) rfl rfl

theorem RepC.one {Y : Nat → Prop} {w : World} {cs : List AV} {vs : Array Value} (h : RepC Y w cs vs) (i : Nat) (x : AV) (hx : cs[i]? = some x) : oneA x = true :=
  by
  have hlt : i < vs.size := by rw [h.1]; exact (List.getElem?_eq_some_iff.1 hx).1
  exact (h.2 i x vs[i] hx (Array.getElem?_eq_getElem hlt)).1

/-- Cells, of which some, from a place on, are others. -/
def setAt (cs : List AV) (o : Nat) (ys : List AV) : List AV := cs.take o ++ ys ++ cs.drop (o + ys.length)

theorem fold_set (l : List Value) : ∀ (s : Nat) (o : Nat) (vs : Array Value), let r := (l.zipIdx s).foldl (fun cs (c : Value × Nat) => cs.setIfInBounds (o + c.2) c.1) vs
    r.size = vs.size ∧ ∀ i, r[i]? = if o + s ≤ i ∧ i < o + s + l.length ∧ i < vs.size then l[i - (o + s)]? else vs[i]? := by
  induction l with
  | nil => intro s o vs; exact ⟨rfl, fun i => by rw [if_neg (by simp; omega)]; rfl⟩
  | cons c l ih =>
    intro s o vs
    obtain ⟨h1, h2⟩ := ih (s + 1) o (vs.setIfInBounds (o + s) c)
    simp only [List.zipIdx_cons, List.foldl_cons]
    refine ⟨by rw [h1]; simp, fun i => ?_⟩
    rw [h2 i]
    simp only [Array.size_setIfInBounds, List.length_cons]
    by_cases e : i = o + s
    · subst e
      rw [if_neg (by omega)]
      by_cases hlt : o + s < vs.size
      · rw [if_pos ⟨by omega, by omega, hlt⟩]; simp [hlt]
      · rw [if_neg (by omega)]; simp [hlt]
    · rw [Array.getElem?_setIfInBounds_ne (by omega)]
      by_cases hin : o + (s + 1) ≤ i ∧ i < o + (s + 1) + l.length ∧ i < vs.size
      · rw [if_pos hin, if_pos ⟨by omega, by omega, hin.2.2⟩]
        have : i - (o + s) = (i - (o + (s + 1))) + 1 := by omega
        rw [this]; rfl
      · rw [if_neg hin]
        by_cases hin2 : o + s ≤ i ∧ i < o + s + (l.length + 1) ∧ i < vs.size
        · omega
        · rw [if_neg hin2]

theorem RepC.set {Y : Nat → Prop} {w : World} {cs ys : List AV} {vs us : Array Value} (h : RepC Y w cs vs) (g : RepC Y w ys us) (o : Nat) (ho : o + ys.length ≤ cs.length) :
    RepC Y w (setAt cs o ys) (us.zipIdx.foldl (fun cs (c : Value × Nat) => cs.setIfInBounds (o + c.2) c.1) vs) := by
  have e : us.zipIdx.foldl (fun cs (c : Value × Nat) => cs.setIfInBounds (o + c.2) c.1) vs = (us.toList.zipIdx 0).foldl (fun cs (c : Value × Nat) => cs.setIfInBounds (o + c.2) c.1) vs := by
    rw [← Array.foldl_toList]; simp
  rw [e]
  obtain ⟨h1, h2⟩ := fold_set us.toList 0 o vs
  have hlen : (setAt cs o ys).length = cs.length := by simp [setAt]; omega
  refine ⟨by rw [h1, hlen]; exact h.1, fun i x u hx hu => ?_⟩
  rw [h2 i] at hu
  have hlt : i < cs.length := by rw [← hlen]; exact (List.getElem?_eq_some_iff.1 hx).1
  simp only [setAt] at hx
  by_cases c1 : i < o
  · rw [if_neg (by omega)] at hu
    refine h.2 i x u ?_ hu
    rw [List.append_assoc, List.getElem?_append_left (by simp; omega), List.getElem?_take, if_pos c1] at hx
    exact hx
  · by_cases c2 : i < o + ys.length
    · have hsz : us.toList.length = ys.length := by simp [g.1]
      rw [if_pos ⟨by omega, by omega, by rw [h.1]; exact hlt⟩] at hu
      refine g.2 (i - o) x u ?_ (by simpa using hu)
      rw [List.getElem?_append_left (by simp; omega), List.getElem?_append_right (by simp; omega)] at hx
      rw [← hx]; congr 1; simp; omega
    · have hsz : us.toList.length = ys.length := by simp [g.1]
      rw [if_neg (by omega)] at hu
      refine h.2 i x u ?_ hu
      rw [List.getElem?_append_right (by simp; omega), List.getElem?_drop] at hx
      rw [← hx]; congr 1; simp; omega

/-- The fields of a struct: where they lie, and how many cells they take. -/
def plF (P : Program) : List Field → Option (List (Nat × Nat))
  | [] => some []
  | f :: r => match P.info? f.type, plF P r with
    | some i, some l => some ((f.offset, i.size) :: l)
    | _, _ => none
/-- The parts of a struct, or an array. -/
def pls (P : Program) (t : TypeId) : Option (List (Nat × Nat)) :=
  match P.underlying t with
  | some (.struct fs) => plF P fs.toList
  | some (.array n e) => (P.info? e).map fun i => (List.range n).map fun j => (j * i.size, i.size)
  | _ => none
def fillA (pl : List (Nat × Nat)) : List AV → List (Nat × AV) → Option (List AV)
  | cs, [] => some cs
  | cs, (i, x) :: r => match pl[i]?, x.cl with
    | some (o, s), some ys => if ys.length = s ∧ o + ys.length ≤ cs.length then fillA pl (setAt cs o ys) r else none
    | _, _ => none
/-- The cells of a new one. -/
def zcl (P : Program) (t : TypeId) : Option (List AV) :=
  match P.info? t with
  | some i => match i.zero with
    | some z => if z.cells.toList.all (·.oneCell') then some (z.cells.toList.map ofCell) else none
    | none => none
  | none => none
def buildA (P : Program) (t : TypeId) (parts : List (Nat × AV)) : Option AV :=
  match zcl P t, pls P t with
  | some z, some pl => (fillA pl z parts).map .agg
  | _, _ => none

theorem zcl_some {t : TypeId} {cs : List AV} (h : zcl P t = some cs) (Y : Nat → Prop) (w : World) : ∃ z, (∀ w, (zeroValue t).run P w = .ok z w) ∧ RepC Y w cs z.cells := by
  unfold zcl at h
  split at h
  · rename_i i hi
    split at h
    · rename_i z hz
      split at h
      · rename_i hall
        cases h
        exact ⟨z, fun w => by simp [zeroValue, run_typeInfo hi, hz], by simp, fun i x u hx hu => ⟨one_ofCells z.cells hall i x hx, rep_ofCells Y w z.cells i x u hx hu⟩⟩
      · cases h
    · cases h
  · cases h

theorem fillA_ok {Y : Nat → Prop} {w : World} {pl : List (Nat × Nat)} (place : Nat → Option (Nat × Nat)) (hpl : ∀ (i : Nat) o, pl[i]? = some o → place i = some o) :
    ∀ (parts : List (Nat × AV)) (vparts : List (Nat × Value)) (cs rs : List AV) (vs : Array Value), RepC Y w cs vs → parts.map (·.1) = vparts.map (·.1) →
      (∀ (j : Nat) x u, (parts.map (·.2))[j]? = some x → (vparts.map (·.2))[j]? = some u → Rep Y w x u) → fillA pl cs parts = some rs →
      ∃ r, Instr.fill place vs vparts = some r ∧ RepC Y w rs r := by
  intro parts
  induction parts with
  | nil =>
    intro vparts cs rs vs h hm hr hf
    cases vparts with
    | nil => cases hf; exact ⟨vs, rfl, h⟩
    | cons a b => simp at hm
  | cons a parts ih =>
    intro vparts cs rs vs h hm hr hf
    obtain ⟨i, x⟩ := a
    cases vparts with
    | nil => simp at hm
    | cons b vparts =>
      obtain ⟨i', u⟩ := b
      simp only [List.map_cons, List.cons.injEq] at hm
      obtain ⟨rfl, hm⟩ := hm
      simp only [fillA] at hf
      split at hf
      · rename_i o s ys h1 h2
        split at hf
        · rename_i hc
          have hx := hr 0 x u rfl rfl
          have hcl := hx.cl h2
          obtain ⟨r, h3, h4⟩ := ih vparts _ rs _ (h.set hcl o hc.2) hm (fun j x u hx hu => hr (j + 1) x u hx hu) hf
          refine ⟨r, ?_, h4⟩
          simp only [Instr.fill, hpl _ _ h1]
          rw [if_neg]
          · exact h3
          · simp only [hcl.1, h.1, Bool.or_eq_true, decide_eq_true_eq, ne_eq, not_or]
            exact ⟨fun hne => hne hc.1, by omega⟩
        · cases hf
      · cases hf

theorem plF_run {fs : List Field} {l : List (Nat × Nat)} (h : plF P fs = some l) (w : World) :
    (fs.mapM (m := Sem) fun f => do pure (f.offset, ← sizeOf f.type)).run P w = .ok l w := by
  induction fs generalizing l with
  | nil => cases h; rfl
  | cons f fs ih =>
    simp only [plF] at h
    split at h
    · rename_i i l' h1 h2
      cases h
      simp only [List.mapM_cons, Sem.run_bind, run_sizeOf h1, Result.andThen_ok, Sem.run_pure, ih h2]
    · cases h

theorem buildA_ok {Y : Nat → Prop} {w : World} {t : TypeId} {parts : List (Nat × AV)} {vparts : Array (Nat × Value)} {y : AV} (hm : parts.map (·.1) = vparts.toList.map (·.1))
    (hr : ∀ (j : Nat) x u, (parts.map (·.2))[j]? = some x → (vparts.toList.map (·.2))[j]? = some u → Rep Y w x u) (h : buildA P t parts = some y) :
    ∃ r, (Instr.build t vparts).run P w = .ok r w ∧ Rep Y w y r := by
  unfold buildA at h
  split at h
  · rename_i z pl h1 h2
    simp only [Option.map_eq_some_iff] at h
    obtain ⟨rs, h3, rfl⟩ := h
    obtain ⟨zv, z1, z2⟩ := zcl_some h1 Y w
    unfold pls at h2
    split at h2
    · rename_i fs hu
      obtain ⟨r, r1, r2⟩ := fillA_ok (fun i => pl.toArray[i]?) (fun i o ho => by simpa using ho) parts vparts.toList z rs zv.cells z2 hm hr h3
      refine ⟨.agg r, ?_, .agg _ _ r2.1 (r2.one) fun i x u hx hu => (r2.2 i x u hx hu).2⟩
      have hmap : (fs.mapM (m := Sem) fun f => do pure (f.offset, ← sizeOf f.type)).run P w = .ok pl.toArray w := by
        obtain ⟨fs⟩ := fs
        rw [List.mapM_toArray, Sem.run_map, plF_run h2]; rfl
      simp only [Instr.build, Sem.run_bind, z1, Result.andThen_ok, run_underlying hu, hmap, r1, Sem.run_pure]
    · rename_i n e hu
      simp only [Option.map_eq_some_iff] at h2
      obtain ⟨i, hi, rfl⟩ := h2
      obtain ⟨r, r1, r2⟩ := fillA_ok (fun j => some (j * i.size, i.size)) (fun j o ho => by
        simp only [List.getElem?_map, Option.map_eq_some_iff] at ho
        obtain ⟨q, hq, rfl⟩ := ho
        have := (List.getElem?_eq_some_iff.1 hq)
        obtain ⟨_, hq'⟩ := this
        simp at hq'; rw [hq']) parts vparts.toList z rs zv.cells z2 hm hr h3
      refine ⟨.agg r, ?_, .agg _ _ r2.1 (r2.one) fun i x u hx hu => (r2.2 i x u hx hu).2⟩
      simp only [Instr.build, Sem.run_bind, z1, Result.andThen_ok, run_underlying hu, run_sizeOf hi, r1, Sem.run_pure]
    · cases h2
  · cases h
end Go.Ab
