/- The pure operations: what they come to (opv), and that it is so. -/
import Derived.Test.YthfjcplhjbaplaaAb2
set_option linter.all false
namespace Go.Ab
set_option linter.unusedVariables false
variable {P : Program}

def blkAt (hp : List Blk) (p k : Nat) (b : Option Nat) : Option Blk :=
  match hp[p]? with
  | some B => if B.live = true ∧ B.k = k ∧ B.b = b then some B else none
  | none => none
theorem blkAt_some {hp : List Blk} {p k b B} (h : blkAt hp p k b = some B) : hp[p]? = some B ∧ B.live = true ∧ B.k = k ∧ B.b = b := by
  unfold blkAt at h
  split at h
  · rename_i B' h1
    split at h
    · rename_i h2; cases h; exact ⟨h1, h2⟩
    · cases h
  · cases h

def loadA (P : Program) (hp : List Blk) (t : TypeId) : AV → Option AV
  | .rp d j => partA P t d.cells j
  | .ptr p k b i j => match blkAt hp p k b with
    | some B => match B.c[i]? with
      | some e => partA P t e.cells j
      | none => none
    | none => none
  | _ => none

def fldA (P : Program) (t : TypeId) (f : Nat) : AV → Option AV
  | .ptr p k b i j => (fld P t f).map fun o => .ptr p k b i (j + o.1)
  | .rp d j => (fld P t f).map fun o => .rp d (j + o.1)
  | _ => none

def fieldA (P : Program) (t : TypeId) (f : Nat) : AV → Option AV
  | .agg cs => match fld P t f with | some (o, u) => partA P u cs o | none => none
  | _ => none

/-- The address of an element. -/
def idxA (P : Program) (t : TypeId) (x : AV) (n : Int) : Option AV :=
  match x with
  | .sl k l => match sle P t with
    | some (_, s) => if k = s ∧ 0 ≤ n then l[n.toNat]?.map fun y => .rp y 0 else none
    | none => none
  | .own p k b off len => match sle P t with
    | some (_, s) => if k = s ∧ 0 ≤ n ∧ n < len then some (.ptr p k b (off + n.toNat) 0) else none
    | none => none
  | .ptr p k b i j => match arr P t with
    | some (len, _, s) => if 0 ≤ n ∧ n < len then some (.ptr p k b i (j + n.toNat * s)) else none
    | none => none
  | .rp d j => match arr P t with
    | some (len, _, s) => if 0 ≤ n ∧ n < len then some (.rp d (j + n.toNat * s)) else none
    | none => none
  | _ => none

/-- An element of a text, or of an array. -/
def eltA (P : Program) (t : TypeId) (x : AV) (n : Int) : Option AV :=
  match x with
  | .v (.string s) => if isStr P t = true ∧ 0 ≤ n ∧ n < s.size then some (.v (.int .u8 (s.get! n.toNat).toNat)) else none
  | .agg cs => match arr P t with
    | some (len, e, s) => if 0 ≤ n ∧ n < len then partA P e cs (n.toNat * s) else none
    | none => none
  | _ => none

theorem load_ok {X n fr hp a w} (h : Sim X n fr hp a w) {t : TypeId} {x y : AV} {u : Value} (hx : Rep (un X hp) w x u) (hl : loadA P hp t x = some y) :
    ∃ r, (Instr.loadAt t u).run P w = .ok r w ∧ Rep (un X hp) w y r := by
  cases hx <;> simp only [loadA] at hl <;> try (cases hl; done)
  case ptr p k b i j =>
    split at hl
    · rename_i B hB
      obtain ⟨h1, h2, rfl, h4⟩ := blkAt_some hB
      split at hl
      · rename_i e he
        obtain ⟨cs, g1, g2, g3, g4⟩ := (h.heap.ok p B h1 h2).2 b h4
        have := load_run (P := P) (Y := un X hp) (w := w) (t := t) (cs := e.cells) (b := b) (off := i * B.k) (j := j) (x := y) (fun q y hy => by
          obtain ⟨u, r1, r2⟩ := g4 i e q y he hy
          exact ⟨u, by simp [World.cell?, g1, r1], r2⟩) hl
        obtain ⟨r, r1, r2⟩ := this
        exact ⟨r, by simp only [Instr.loadAt, Instr.sureAddr, Sem.run_bind, Sem.run_pure, Result.andThen_ok]; exact r1, r2⟩
      · cases hl
    · cases hl
  case rp d j b off u hX hb ho hl' h' =>
    have := load_run (P := P) (Y := un X hp) (w := w) (t := t) (cs := d.cells) (b := b) (off := off) (j := j) (x := y) (fun q y hy => ⟨u q, hl' q y hy, ho q y hy, h' q y hy⟩) hl
    obtain ⟨r, r1, r2⟩ := this
    exact ⟨r, by simp only [Instr.loadAt, Instr.sureAddr, Sem.run_bind, Sem.run_pure, Result.andThen_ok]; exact r1, r2⟩

theorem fld_some {t : TypeId} {f o : Nat} {u : TypeId} (h : fld P t f = some (o, u)) : ∃ fs d i, P.underlying t = some (.struct fs) ∧ fs[f]? = some d ∧ P.info? d.type = some i ∧ i.size ≠ 0 ∧ d.offset = o ∧ d.type = u := by
  unfold fld at h
  split at h
  · rename_i fs h1
    split at h
    · rename_i d h2
      split at h
      · rename_i i h3
        split at h
        · cases h
        · rename_i h4
          simp only [Option.some.injEq, Prod.mk.injEq] at h
          exact ⟨fs, d, i, h1, h2, h3, h4, h⟩
      · cases h
    · cases h
  · cases h

theorem fldA_ok {Y : Nat → Prop} {w : World} {t : TypeId} {f : Nat} {x y : AV} {u : Value} (hx : Rep Y w x u) (hl : fldA P t f x = some y) :
    ∃ r, (Instr.fieldAt t u f).run P w = .ok r w ∧ Rep Y w y r := by
  have key : ∀ o v b off, fld P t f = some (o, v) → (Instr.fieldAt t (.pointer (some ⟨b, off, none⟩)) f).run P w = .ok (.pointer (some ⟨b, off + o, none⟩)) w := by
    intro o v b off h
    obtain ⟨fs, d, i, h1, h2, h3, h4, rfl, rfl⟩ := fld_some h
    simp only [Instr.fieldAt, Sem.run_bind, run_underlying h1, Result.andThen_ok, h2, Instr.sureAddr, Sem.run_pure, fieldPlace, run_sizeOf h3]
    rw [if_neg h4]
    simp [add_addr]
  cases hx <;> simp only [fldA] at hl <;> try (cases hl; done)
  case ptr p k b i j =>
    simp only [Option.map_eq_some_iff] at hl
    obtain ⟨⟨o, v⟩, h1, rfl⟩ := hl
    exact ⟨_, key o v _ _ h1, by rw [Nat.add_assoc]; exact .ptr p k b i (j + o)⟩
  case rp d j b off u hX hb ho hl' h' =>
    simp only [Option.map_eq_some_iff] at hl
    obtain ⟨⟨o, v⟩, h1, rfl⟩ := hl
    exact ⟨_, key o v _ _ h1, by rw [Nat.add_assoc]; exact .rp d (j + o) b off u hX hb ho hl' h'⟩

theorem fieldA_ok {Y : Nat → Prop} {w : World} {t : TypeId} {f : Nat} {x y : AV} {u : Value} (hx : Rep Y w x u) (hl : fieldA P t f x = some y) :
    ∃ r, (Instr.field t u f).run P w = .ok r w ∧ Rep Y w y r := by
  cases hx <;> simp only [fieldA] at hl <;> try (cases hl; done)
  case agg cs vs hn ho h =>
    split at hl
    · rename_i o v hf
      obtain ⟨fs, d, i, h1, h2, h3, h4, rfl, rfl⟩ := fld_some hf
      obtain ⟨r, r1, r2⟩ := part_run (P := P) hn ho h hl
      refine ⟨r, ?_, r2⟩
      simp only [Instr.field, Sem.run_bind, run_underlying h1, Result.andThen_ok, h2, asAgg, Sem.run_pure]
      exact r1
    · cases hl

theorem sle_some {t e : TypeId} {s : Nat} (h : sle P t = some (e, s)) : ∃ i, P.underlying t = some (.slice e) ∧ P.info? e = some i ∧ i.size = s := by
  unfold sle at h
  split at h
  · rename_i e' h1
    simp only [Option.map_eq_some_iff, Prod.mk.injEq] at h
    obtain ⟨i, h2, rfl, h3⟩ := h
    exact ⟨i, h1, h2, h3⟩
  · cases h
theorem arr_some {t e : TypeId} {n s : Nat} (h : arr P t = some (n, e, s)) : ∃ i, P.underlying t = some (.array n e) ∧ P.info? e = some i ∧ i.size = s := by
  unfold arr at h
  split at h
  · rename_i n' e' h1
    simp only [Option.map_eq_some_iff, Prod.mk.injEq] at h
    obtain ⟨i, h2, rfl, rfl, h3⟩ := h
    exact ⟨i, h1, h2, h3⟩
  · cases h

theorem idxA_ok {Y : Nat → Prop} {w : World} {t : TypeId} {x y : AV} {u : Value} {k : IntKind} {n : Int} (hx : Rep Y w x u) (hl : idxA P t x n = some y) :
    ∃ r, (Instr.indexAt t u (.int k n)).run P w = .ok r w ∧ Rep Y w y r := by
  have key : ∀ e s b off len c, sle P t = some (e, s) → 0 ≤ n → n < (len : Nat) → (Instr.indexAt t (.slice (some ⟨b, off, none⟩) len c) (.int k n)).run P w = .ok (.pointer (some ⟨b, off + n.toNat * s, none⟩)) w := by
    intro e s b off len c h h0 h1
    obtain ⟨i, g1, g2, rfl⟩ := sle_some h
    simp only [Instr.indexAt, Sem.run_bind, asIntOf, Sem.run_pure, Result.andThen_ok, run_underlying g1]
    rw [if_pos ⟨h0, h1⟩]
    simp [run_sizeOf g2, add_addr]
  have keya : ∀ m e s b off, arr P t = some (m, e, s) → 0 ≤ n → n < (m : Nat) → (Instr.indexAt t (.pointer (some ⟨b, off, none⟩)) (.int k n)).run P w = .ok (.pointer (some ⟨b, off + n.toNat * s, none⟩)) w := by
    intro m e s b off h h0 h1
    obtain ⟨i, g1, g2, rfl⟩ := arr_some h
    simp only [Instr.indexAt, Sem.run_bind, asIntOf, Sem.run_pure, Result.andThen_ok, run_underlying g1, Instr.sureAddr]
    rw [if_pos ⟨h0, h1⟩]
    simp [run_sizeOf g2, add_addr]
  cases hx <;> simp only [idxA] at hl <;> try (cases hl; done)
  case sl0 kk a c => split at hl <;> simp at hl
  case sl kk l b off c u hX hb hc hk ho hl' h' =>
    split at hl
    · rename_i e s he
      split at hl
      · rename_i hc'
        obtain ⟨rfl, h0⟩ := hc'
        simp only [Option.map_eq_some_iff] at hl
        obtain ⟨z, hz, rfl⟩ := hl
        have hlt : n.toNat < l.length := (List.getElem?_eq_some_iff.1 hz).1
        refine ⟨_, key e kk b off _ c he h0 (by omega), ?_⟩
        exact Rep.rp z 0 b (off + n.toNat * kk) (u n.toNat) hX hb (fun i y hy => ho n.toNat z i y hz hy) (fun i y hy => hl' n.toNat z i y hz hy) fun i y hy => h' n.toNat z i y hz hy
      · cases hl
    · cases hl
  case ownE p kk b off a =>
    split at hl
    · split at hl
      · rename_i hc'; omega
      · cases hl
    · cases hl
  case own p kk b off len c hc cs e z hb hs =>
    split at hl
    · rename_i e s he
      split at hl
      · rename_i hc'
        obtain ⟨rfl, h0, h1⟩ := hc'
        cases hl
        refine ⟨_, key e kk b _ _ c he h0 h1, ?_⟩
        have := Rep.ptr (X := Y) (w := w) p kk b (off + n.toNat) 0
        rw [Nat.add_mul] at this
        exact this
      · cases hl
    · cases hl
  case ptr p kk b i j =>
    split at hl
    · rename_i m e s he
      split at hl
      · rename_i hc'
        cases hl
        refine ⟨_, keya m e s b _ he hc'.1 hc'.2, ?_⟩
        rw [Nat.add_assoc]; exact .ptr p kk b i _
      · cases hl
    · cases hl
  case rp d j b off u hX hb ho hl' h' =>
    split at hl
    · rename_i m e s he
      split at hl
      · rename_i hc'
        cases hl
        refine ⟨_, keya m e s b _ he hc'.1 hc'.2, ?_⟩
        rw [Nat.add_assoc]; exact .rp d _ b off u hX hb ho hl' h'
      · cases hl
    · cases hl

theorem eltA_ok {Y : Nat → Prop} {w : World} {t : TypeId} {x y : AV} {u : Value} {k : IntKind} {n : Int} (hx : Rep Y w x u) (hl : eltA P t x n = some y) :
    ∃ r, (Instr.index t u (.int k n)).run P w = .ok r w ∧ Rep Y w y r := by
  cases hx <;> (try simp only [eltA] at hl) <;> try (cases hl; done)
  case v =>
    cases u <;> simp only [eltA] at hl <;> try (cases hl; done)
    rename_i s _
    split at hl
    · rename_i hc
      cases hl
      obtain ⟨h1, h2, h3⟩ := hc
      have hu : P.underlying t = some .string := by unfold isStr at h1; split at h1 <;> simp_all
      refine ⟨_, ?_, .v _ rfl⟩
      have hi : n.toNat < s.size := by omega
      simp only [Instr.index, Sem.run_bind, asIntOf, Sem.run_pure, Result.andThen_ok, run_underlying hu]
      rw [if_pos h2]
      have : s[n.toNat]? = some (s.get! n.toNat) := by
        rw [getElem?_pos s n.toNat hi]
        congr 1
        simp [ByteArray.get!, ByteArray.getElem_eq_getElem_data, hi]
      rw [this]; rfl
    · cases hl
  case agg cs vs hn ho h =>
    split at hl
    · rename_i m e s he
      split at hl
      · rename_i hc'
        obtain ⟨i, g1, g2, rfl⟩ := arr_some he
        obtain ⟨r, r1, r2⟩ := part_run (P := P) hn ho h hl
        refine ⟨r, ?_, r2⟩
        simp only [Instr.index, Sem.run_bind, asIntOf, Sem.run_pure, Result.andThen_ok, run_underlying g1]
        rw [if_pos hc']
        simp only [Sem.run_bind, run_sizeOf g2, Result.andThen_ok]
        exact r1
      · cases hl
    · cases hl
end Go.Ab
