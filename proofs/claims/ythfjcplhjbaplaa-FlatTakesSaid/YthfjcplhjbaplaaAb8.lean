/- Converting and new structs. -/
import Derived.Test.YthfjcplhjbaplaaAb7
set_option linter.all false
namespace Go.Ab
set_option linter.unusedVariables false
variable {P : Program}

def isBytes (P : Program) (t : TypeId) : Bool :=
  match P.underlying t with
  | some (.slice e) => match P.underlying e with | some (.int .u8) => true | _ => false
  | _ => false

/-- What a slice holds. -/
def rowsOf (hp : List Blk) (k : Nat) : AV → Option (List AV)
  | .nils => some []
  | .sl k' l => if k' = k then some l else none
  | .own p k' b off len => match blkAt hp p k' b with
    | some B => if k' = k ∧ off + len ≤ B.c.length then some ((B.c.drop off).take len) else none
    | none => none
  | _ => none

/-- Where a slice's cells lie. -/
theorem rowsOf_ok {X n fr hp a w} (h : Sim X n fr hp a w) {k : Nat} {x : AV} {u : Value} {l : List AV} (hx : Rep (un X hp) w x u) (hl : rowsOf hp k x = some l) :
    ∃ ad c, u = .slice ad l.length c ∧ (l ≠ [] → ∃ b off, ad = some ⟨b, off, none⟩ ∧ (∀ (i : Nat) y, l[i]? = some y → y.cells.length = k) ∧
      ∀ (i : Nat) y (j : Nat) z, l[i]? = some y → y.cells[j]? = some z → ∃ v, w.cell? ⟨b, off + i * k + j, none⟩ = some v ∧ oneA z = true ∧ Rep (un X hp) w z v) := by
  cases hx <;> (try simp only [rowsOf] at hl) <;> try (cases hl; done)
  case nils ad => cases hl; exact ⟨ad, 0, rfl, fun h => absurd rfl h⟩
  case sl0 k' ad c =>
    split at hl
    · cases hl; exact ⟨ad, c, rfl, fun h => absurd rfl h⟩
    · cases hl
  case sl k' l' b off c f hX hb hc hk ho hl' h' =>
    split at hl
    · subst_vars; cases hl
      exact ⟨_, c, rfl, fun _ => ⟨b, off, rfl, hk, fun i y j z hy hz => ⟨_, hl' i y j z hy hz, ho i y j z hy hz, h' i y j z hy hz⟩⟩⟩
    · cases hl
  case ownE p k' b off ad =>
    split at hl
    · split at hl
      · cases hl; exact ⟨ad, 0, by simp, fun h => absurd (by simp) h⟩
      · cases hl
    · cases hl
  case own p k' b off len c hc cs e z hb hs =>
    split at hl
    · rename_i B hB
      split at hl
      · rename_i hk
        obtain ⟨rfl, hlen⟩ := hk
        cases hl
        obtain ⟨h1, h2, rfl, h4⟩ := blkAt_some hB
        obtain ⟨cs', g1, g2, g3, g4⟩ := (h.heap.ok p B h1 h2).2 b h4
        have hget : ∀ (i : Nat) y, ((B.c.drop off).take len)[i]? = some y → B.c[off + i]? = some y := by
          intro i y hy
          simp only [List.getElem?_take, List.getElem?_drop] at hy
          split at hy
          · exact hy
          · cases hy
        refine ⟨_, c, by simp only [List.length_take, List.length_drop]; rw [Nat.min_eq_left (by omega)], fun _ => ⟨b, off * B.k, rfl, fun i y hy => g3 _ y (hget i y hy), fun i y j z hy hz => ?_⟩⟩
        obtain ⟨v, q1, q2⟩ := g4 _ y j z (hget i y hy) hz
        refine ⟨v, ?_, q2⟩
        rw [← Nat.add_mul]
        simp [World.cell?, g1, q1]
      · cases hl
    · cases hl

def convA (P : Program) (hp : List Blk) (s d : TypeId) (x : AV) : Option AV :=
  match x with
  | .v (.int _ n) => match P.underlying s, P.underlying d with
    | some _, some (.int k) => if k = .i64 then (if i64R n then some (.v (.int k n)) else none) else some (.v (.int k (k.wrap n)))
    | _, _ => none
  | .v (.string t) => match P.underlying s, P.underlying d with
    | some _, some .string => some (.v (.string t))
    | _, _ => none
  | x => if isBytes P s = true ∧ isStr P d = true then match rowsOf hp 1 x with
      | some l => (strOf l).map fun bs => .v (.string ⟨bs.toArray⟩)
      | none => none
    else none

theorem strOf_some {l : List AV} {bs : List UInt8} (h : strOf l = some bs) : ∃ ns : List Int, l = ns.map (fun n => .v (.int .u8 n)) ∧ bs = ns.map fun n => UInt8.ofNat n.toNat := by
  induction l generalizing bs with
  | nil => simp only [strOf, Option.some.injEq] at h; exact ⟨[], rfl, h.symm⟩
  | cons x l ih =>
    unfold strOf at h
    split at h
    · rename_i he; cases he
    · rename_i n r he
      cases he
      simp only [Option.map_eq_some_iff] at h
      obtain ⟨bs', h1, rfl⟩ := h
      obtain ⟨ns, rfl, rfl⟩ := ih h1
      exact ⟨n :: ns, rfl, rfl⟩
    · cases h

theorem fold_push (ns : List Int) : ∀ s : ByteArray, ns.foldl (fun r n => r.push (UInt8.ofNat n.toNat)) s = ⟨s.data ++ (ns.map fun n => UInt8.ofNat n.toNat).toArray⟩ := by
  induction ns with
  | nil => intro s; simp
  | cons n ns ih => intro s; rw [List.foldl_cons, ih]; simp [ByteArray.push]

theorem convA_ok {X n fr hp a w} (h : Sim X n fr hp a w) {s d : TypeId} {x y : AV} {u : Value} (hx : Rep (un X hp) w x u) (hl : convA P hp s d x = some y) :
    ∃ r, (convert s d u).run P w = .ok r w ∧ Rep (un X hp) w y r := by
  unfold convA at hl
  split at hl
  · cases hx
    split at hl
    · rename_i n ds k h1 h2
      split at hl
      · subst_vars
        split at hl
        · rename_i hr; cases hl
          refine ⟨_, ?_, .v _ rfl⟩
          simp only [convert, Sem.run_bind, run_underlying h1, run_underlying h2, Result.andThen_ok]
          simp [Conv.intToInt, wrap_i64 hr]
        · cases hl
      · cases hl
        refine ⟨_, ?_, .v _ rfl⟩
        simp only [convert, Sem.run_bind, run_underlying h1, run_underlying h2, Result.andThen_ok]
        simp [Conv.intToInt]
    · cases hl
  · cases hx
    split at hl
    · rename_i n ds h1 h2
      cases hl
      refine ⟨_, ?_, .v _ rfl⟩
      simp only [convert, Sem.run_bind, run_underlying h1, run_underlying h2, Result.andThen_ok]
      cases ds <;> rfl
    · cases hl
  · split at hl
    · rename_i hb
      have hd := isStr_some hb.2
      obtain ⟨e, hs, he⟩ : ∃ e, P.underlying s = some (.slice e) ∧ P.underlying e = some (.int .u8) := by
        have := hb.1
        unfold isBytes at this
        split at this
        · rename_i e he
          split at this
          · rename_i he'; exact ⟨e, he, he'⟩
          · cases this
        · cases this
      split at hl
      · rename_i l hrow
        simp only [Option.map_eq_some_iff] at hl
        obtain ⟨bs, h1, rfl⟩ := hl
        obtain ⟨ns, rfl, rfl⟩ := strOf_some h1
        obtain ⟨ad, c, rfl, hc⟩ := rowsOf_ok h hx hrow
        refine ⟨_, ?_, .v _ rfl⟩
        rw [run_convert_bytes_string w s d e ad _ c hs he hd]
        cases ns with
        | nil =>
          cases ad with
          | none => rfl
          | some ad =>
            rw [run_bytesToString w ad _ c [] (by rfl)]
            rfl
        | cons m ns =>
          obtain ⟨b, off, rfl, hk, hcell⟩ := hc (by simp)
          rw [run_bytesToString w ⟨b, off, none⟩ _ c (m :: ns) ?_]
          · rw [fold_push]
            show Result.ok (Value.string ⟨#[] ++ _⟩) w = _
            rw [Array.empty_append]
          · have := run_loadCells_list (P := P) (w := w) ⟨b, off, none⟩ ((m :: ns).map (Value.int .u8)) (fun j v hv => ?_)
            · simpa using this
            · simp only [List.getElem?_map, Option.map_eq_some_iff] at hv
              obtain ⟨q, hq, rfl⟩ := hv
              obtain ⟨v, q1, q2⟩ := hcell j (.v (.int .u8 q)) 0 (.v (.int .u8 q)) (by simp only [List.getElem?_map, hq, Option.map_some]) rfl
              rw [add_addr]
              have : off + j = off + j * 1 + 0 := by omega
              rw [this, q1]
              cases q2.2
              rfl
      · cases hl
    · cases hl
end Go.Ab
