/- Where blocks lie does not matter: addresses renamed. -/
import Derived.Test.YthfjcplhjbaplaaAb21
set_option linter.all false
namespace Go.Ab
set_option linter.unusedVariables false
variable {P : Program}

/-- Where a block that is named by a number lies. -/
abbrev Ren := Nat → Option Nat
mutual
def AV.mp (σ : Ren) : AV → AV
  | .bad => .bad
  | .v x => .v x
  | .agg l => .agg (mpL σ l)
  | .tup l => .tup (mpL σ l)
  | .sl k l => .sl k (mpL σ l)
  | .nils => .nils
  | .own p k b off len => .own p k (b.bind σ) off len
  | .ptr p k b i j => .ptr p k (b.bind σ) i j
  | .rp d j => .rp (AV.mp σ d) j
  | .fn f a c => .fn f (mpL σ a) (mpL σ c)
def mpL (σ : Ren) : List AV → List AV
  | [] => []
  | x :: l => AV.mp σ x :: mpL σ l
end
theorem mpL_map (σ : Ren) (l : List AV) : mpL σ l = l.map (AV.mp σ) := by
  induction l with
  | nil => simp [mpL]
  | cons a l ih => simp [mpL, ih]
theorem mp_bad (σ : Ren) : AV.mp σ .bad = .bad := by simp [AV.mp]
theorem mp_v (σ : Ren) (x : Value) : AV.mp σ (.v x) = .v x := by simp [AV.mp]
theorem mp_agg (σ : Ren) (l : List AV) : AV.mp σ (.agg l) = .agg (l.map (AV.mp σ)) := by simp [AV.mp, mpL_map]
theorem mp_tup (σ : Ren) (l : List AV) : AV.mp σ (.tup l) = .tup (l.map (AV.mp σ)) := by simp [AV.mp, mpL_map]
theorem mp_sl (σ : Ren) (k : Nat) (l : List AV) : AV.mp σ (.sl k l) = .sl k (l.map (AV.mp σ)) := by simp [AV.mp, mpL_map]
theorem mp_nils (σ : Ren) : AV.mp σ .nils = .nils := by simp [AV.mp]
theorem mp_own (σ : Ren) (p k : Nat) (b : Option Nat) (off len : Nat) : AV.mp σ (.own p k b off len) = .own p k (b.bind σ) off len := by simp [AV.mp]
theorem mp_ptr (σ : Ren) (p k : Nat) (b : Option Nat) (i j : Nat) : AV.mp σ (.ptr p k b i j) = .ptr p k (b.bind σ) i j := by simp [AV.mp]
theorem mp_rp (σ : Ren) (d : AV) (j : Nat) : AV.mp σ (.rp d j) = .rp (AV.mp σ d) j := by simp [AV.mp]
theorem mp_fn (σ : Ren) (f : Fn) (a c : List AV) : AV.mp σ (.fn f a c) = .fn f (a.map (AV.mp σ)) (c.map (AV.mp σ)) := by simp [AV.mp, mpL_map]
def Blk.mp (σ : Ren) (B : Blk) : Blk := { B with b := B.b.bind σ, c := B.c.map (AV.mp σ) }
abbrev mpH (σ : Ren) (hp : List Blk) : List Blk := hp.map (Blk.mp σ)
def mpF (σ : Ren) : Fr → Fr
  | [] => []
  | (k, x) :: r => (k, AV.mp σ x) :: mpF σ r
abbrev mpG (σ : Ren) (f : Nat → AV) : Nat → AV := fun t => AV.mp σ (f t)
theorem get_mpF (σ : Ren) (fr : Fr) : get (mpF σ fr) = mpG σ (get fr) := by
  funext t
  induction fr with
  | nil => simp [mpF, get, mp_bad, mpG]
  | cons a r ih =>
    obtain ⟨k, x⟩ := a
    simp only [mpF, get, mpG] at ih ⊢
    split <;> simp [ih]
theorem mpF_keep (σ : Ren) (fr : Fr) (l : List Nat) : mpF σ (keepF fr l) = keepF (mpF σ fr) l := by
  induction l with
  | nil => rfl
  | cons t l ih => simp only [keepF, mpF, get_mpF, ih, mpG]
theorem mpF_setO (σ : Ren) (fr : Fr) (d : Option Nat) (x : AV) : mpF σ (setO fr d x) = setO (mpF σ fr) d (AV.mp σ x) := by
  cases d <;> rfl
theorem mpF_init (σ : Ren) : ∀ (l : List AV) (i : Nat), mpF σ (initF i l) = initF i (l.map (AV.mp σ))
  | [], i => rfl
  | x :: l, i => by simp only [initF, mpF, List.map_cons, mpF_init σ l]

theorem cells_mp (σ : Ren) (x : AV) : (AV.mp σ x).cells = x.cells.map (AV.mp σ) := by
  cases x <;> simp [AV.mp, AV.cells, mpL_map]
theorem oneA_mp (σ : Ren) (x : AV) : oneA (AV.mp σ x) = oneA x := by
  cases x <;> simp [AV.mp, oneA]
theorem cl_mp (σ : Ren) (x : AV) : (AV.mp σ x).cl = x.cl.map (List.map (AV.mp σ)) := by
  cases x <;> simp [AV.mp, AV.cl, mpL_map]
theorem ofCell_mp (σ : Ren) (u : Value) : AV.mp σ (ofCell u) = ofCell u := by
  unfold ofCell; split <;> simp [AV.mp]
theorem ofValue_mp (σ : Ren) (u : Value) : AV.mp σ (ofValue u) = ofValue u := by
  unfold ofValue
  split
  · split
    · rw [mp_agg]; simp [ofCell_mp]
    · simp [AV.mp]
  · exact ofCell_mp σ u
theorem ev_mp (σ : Ren) (f : Nat → AV) (x : Operand) : ev (mpG σ f) x = AV.mp σ (ev f x) := by
  cases x <;> simp [ev, ofValue_mp, mp_v, mp_fn]
theorem blkAt_mp (σ : Ren) {hp : List Blk} {p k : Nat} {b : Option Nat} {B : Blk} (h : blkAt hp p k b = some B) : blkAt (mpH σ hp) p k (b.bind σ) = some (B.mp σ) := by
  unfold blkAt at h ⊢
  rw [List.getElem?_map]
  split at h
  · rename_i C hC
    split at h
    · rename_i hc
      cases h
      rw [hC]
      simp only [Option.map_some]
      rw [if_pos ⟨hc.1, hc.2.1, by rw [← hc.2.2]; rfl⟩]
    · cases h
  · cases h
theorem partA_mp (σ : Ren) {t : TypeId} {cs : List AV} {j : Nat} {y : AV} (h : partA P t cs j = some y) : partA P t (cs.map (AV.mp σ)) j = some (AV.mp σ y) := by
  unfold partA at h ⊢
  split at h
  · rename_i s hs
    split at h
    · cases h
      simp only [hs, List.length_map]
      rw [if_pos (by assumption), mp_agg]
      simp [List.map_take, List.map_drop]
    · cases h
  · rename_i hs
    simp [hs, h]
  · cases h
theorem loadA_mp (σ : Ren) {hp : List Blk} {t : TypeId} {x y : AV} (h : loadA P hp t x = some y) : loadA P (mpH σ hp) t (AV.mp σ x) = some (AV.mp σ y) := by
  unfold loadA at h
  split at h
  · rw [mp_rp]; simp only [loadA, cells_mp]; exact partA_mp σ h
  · rw [mp_ptr]; simp only [loadA]
    split at h
    · rename_i B hB
      rw [blkAt_mp σ hB]
      split at h
      · rename_i e he
        simp only [Blk.mp, List.getElem?_map, he, Option.map_some, cells_mp]
        exact partA_mp σ h
      · cases h
    · cases h
  · cases h
theorem fldA_mp (σ : Ren) {t : TypeId} {f : Nat} {x y : AV} (h : fldA P t f x = some y) : fldA P t f (AV.mp σ x) = some (AV.mp σ y) := by
  unfold fldA at h
  split at h
  · simp only [Option.map_eq_some_iff] at h
    obtain ⟨o, ho, rfl⟩ := h
    simp [mp_ptr, fldA, ho]
  · simp only [Option.map_eq_some_iff] at h
    obtain ⟨o, ho, rfl⟩ := h
    simp [mp_rp, fldA, ho]
  · cases h
theorem fieldA_mp (σ : Ren) {t : TypeId} {f : Nat} {x y : AV} (h : fieldA P t f x = some y) : fieldA P t f (AV.mp σ x) = some (AV.mp σ y) := by
  unfold fieldA at h
  split at h
  · split at h
    · rename_i ho
      rw [mp_agg]; simp only [fieldA, ho]
      exact partA_mp σ h
    · cases h
  · cases h
theorem idxA_mp (σ : Ren) {t : TypeId} {x y : AV} {n : Int} (h : idxA P t x n = some y) : idxA P t (AV.mp σ x) n = some (AV.mp σ y) := by
  unfold idxA at h
  split at h
  · split at h
    · rename_i hs
      split at h
      · rename_i hc
        simp only [Option.map_eq_some_iff] at h
        obtain ⟨z, hz, rfl⟩ := h
        rw [mp_sl]
        simp [idxA, hs, hc, mp_rp, hz]
      · cases h
    · cases h
  · split at h
    · rename_i hs
      split at h
      · rename_i hc; cases h; rw [mp_own, mp_ptr]; simp [idxA, hs, hc]
      · cases h
    · cases h
  · split at h
    · rename_i hs
      split at h
      · rename_i hc; cases h; rw [mp_ptr, mp_ptr]; simp [idxA, hs, hc]
      · cases h
    · cases h
  · split at h
    · rename_i hs
      split at h
      · rename_i hc; cases h; rw [mp_rp, mp_rp]; simp [idxA, hs, hc]
      · cases h
    · cases h
  · cases h
theorem eltA_mp (σ : Ren) {t : TypeId} {x y : AV} {n : Int} (h : eltA P t x n = some y) : eltA P t (AV.mp σ x) n = some (AV.mp σ y) := by
  unfold eltA at h
  split at h
  · split at h
    · rename_i hc; cases h; rw [mp_v, mp_v]; simp only [eltA]; rw [if_pos hc]
    · cases h
  · split at h
    · rename_i hs
      split at h
      · rename_i hc; rw [mp_agg]; simp only [eltA, hs]; rw [if_pos hc]; exact partA_mp σ h
      · cases h
    · cases h
  · cases h
theorem sliceA_mp (σ : Ren) {t : TypeId} {x y : AV} {a b c : Option Int} (h : sliceA P t x a b c = some y) : sliceA P t (AV.mp σ x) a b c = some (AV.mp σ y) := by
  unfold sliceA at h
  split at h
  · split at h
    · rename_i hc; cases h; rw [mp_v, mp_v]; simp only [sliceA]; rw [if_pos hc]
    · cases h
  · split at h
    · rename_i hs
      split at h
      · rename_i hc; cases h; rw [mp_sl, mp_sl]; simp only [sliceA, hs, List.length_map]; rw [if_pos hc]; simp [List.map_take, List.map_drop]
      · cases h
    · cases h
  · split at h
    · rename_i hs
      split at h
      · rename_i hc; cases h; rw [mp_own, mp_own]; simp only [sliceA, hs]; rw [if_pos hc]
      · cases h
    · cases h
  · split at h
    · rename_i hs
      split at h
      · rename_i hc; cases h; rw [mp_nils]; simp only [sliceA, hs]; rw [if_pos hc]
      · cases h
    · cases h
  · cases h
theorem lenA_mp (σ : Ren) {t : TypeId} {x y : AV} (h : lenA P t x = some y) : lenA P t (AV.mp σ x) = some (AV.mp σ y) := by
  unfold lenA at h
  split at h
  · split at h
    · rename_i hc; cases h; rw [mp_v, mp_v]; simp only [lenA]; rw [if_pos hc]
    · cases h
  all_goals first
    | (simp only [Option.map_eq_some_iff] at h
       obtain ⟨o, ho, rfl⟩ := h
       simp [AV.mp, lenA, ho, mpL_map])
    | cases h
theorem eqLeaf_mp (σ : Ren) {k : LK} {x y : AV} {r : Bool} (h : eqLeaf k x y = some r) : eqLeaf k (AV.mp σ x) (AV.mp σ y) = some r := by
  unfold eqLeaf at h
  split at h
  · split at h
    · simp only [mp_v, eqLeaf]; rw [if_pos (by assumption)]; exact h
    · cases h
  · simp only [mp_v, eqLeaf]; exact h
  · simp only [mp_v, eqLeaf]; exact h
  · cases h
theorem eqC_mp (σ : Ren) {xs ys : List AV} : ∀ {l : List (Nat × LK)} {r : Bool}, eqC l xs ys = some r → eqC l (xs.map (AV.mp σ)) (ys.map (AV.mp σ)) = some r
  | [], r, h => h
  | (o, k) :: l, r, h => by
    simp only [eqC] at h ⊢
    split at h
    · rename_i a b ha hb
      split at h
      · rename_i p q hp hq
        cases h
        simp only [List.getElem?_map, ha, hb, Option.map_some]
        rw [eqLeaf_mp σ hp, eqC_mp σ hq]
      · cases h
    · cases h
theorem strA_v {op : BinOp} {a b : ByteArray} {y : AV} (h : strA op a b = some y) : ∃ v, y = .v v := by
  unfold strA at h
  split at h <;> first | (cases h; exact ⟨_, rfl⟩) | (split at h <;> first | (cases h; exact ⟨_, rfl⟩) | cases h) | cases h
theorem intA_v {op : BinOp} {k : IntKind} {a b : Int} {y : AV} (h : intA op k a b = some y) : ∃ v, y = .v v := by
  unfold intA at h
  split at h <;> first
    | (cases h; exact ⟨_, rfl⟩)
    | cases h
    | (split at h <;> first
        | (cases h; exact ⟨_, rfl⟩)
        | cases h
        | (split at h <;> first | (cases h; exact ⟨_, rfl⟩) | cases h))
theorem shiftA_v {op : BinOp} {k : IntKind} {a b : Int} {y : AV} (h : shiftA op k a b = some y) : ∃ v, y = .v v := by
  unfold shiftA at h
  split at h <;> first | cases h | (split at h <;> first | (cases h; exact ⟨_, rfl⟩) | cases h)
theorem binA_mp (σ : Ren) {op : BinOp} {t : TypeId} {x z y : AV} (h : binA P op t x z = some y) : binA P op t (AV.mp σ x) (AV.mp σ z) = some (AV.mp σ y) := by
  unfold binA at h
  split at h
  · have : ∃ v, y = .v v := by
      split at h
      · exact shiftA_v h
      · exact shiftA_v h
      · split at h
        · exact intA_v h
        · cases h
    obtain ⟨v, rfl⟩ := this
    simp only [mp_v]; exact h
  · obtain ⟨v, rfl⟩ := strA_v h
    simp only [mp_v]; exact h
  · have : ∃ v, y = .v v := by
      split at h
      · split at h <;> first | (cases h; exact ⟨_, rfl⟩) | cases h
      · cases h
    obtain ⟨v, rfl⟩ := this
    simp only [mp_v]; exact h
  · simp only [mp_agg, binA]
    split at h
    · split at h
      · rename_i r hr
        rw [eqC_mp σ hr]
        split at h <;> first | (cases h; simp only [mp_v]) | cases h
      · cases h
    · cases h
  · simp only [mp_ptr, mp_v, binA]
    split at h
    · rename_i hc
      rw [if_pos hc]
      split at h <;> first | (cases h; simp only [mp_v]) | cases h
    · cases h
  · simp only [mp_rp, mp_v, binA]
    split at h
    · rename_i hc
      rw [if_pos hc]
      split at h <;> first | (cases h; simp only [mp_v]) | cases h
    · cases h
  · simp only [mp_v, binA]
    split at h
    · rename_i hc
      rw [if_pos hc]
      split at h <;> first | (cases h; simp only [mp_v]) | cases h
    · cases h
  · cases h
theorem rowsOf_mp (σ : Ren) {hp : List Blk} {k : Nat} {x : AV} {l : List AV} (h : rowsOf hp k x = some l) : rowsOf (mpH σ hp) k (AV.mp σ x) = some (l.map (AV.mp σ)) := by
  unfold rowsOf at h
  split at h
  · cases h; simp [mp_nils, rowsOf]
  · split at h
    · rename_i hk; cases h; rw [mp_sl]; simp only [rowsOf]; rw [if_pos hk]
    · cases h
  · split at h
    · rename_i B hB
      split at h
      · rename_i hc
        cases h
        rw [mp_own]; simp only [rowsOf]
        rw [blkAt_mp σ hB]
        simp only [Blk.mp, List.length_map]
        rw [if_pos hc]
        simp [List.map_take, List.map_drop]
      · cases h
    · cases h
  · cases h
theorem strOf_mp (σ : Ren) : ∀ {l : List AV} {bs : List UInt8}, strOf l = some bs → l.map (AV.mp σ) = l
  | [], bs, h => rfl
  | x :: l, bs, h => by
    unfold strOf at h
    split at h
    · rename_i e; cases e
    · rename_i n r e
      cases e
      simp only [Option.map_eq_some_iff] at h
      obtain ⟨r', hr, rfl⟩ := h
      rw [List.map_cons, mp_v, strOf_mp σ hr]
    · cases h
theorem convA_mp (σ : Ren) {hp : List Blk} {s d : TypeId} {x y : AV} (h : convA P hp s d x = some y) : convA P (mpH σ hp) s d (AV.mp σ x) = some (AV.mp σ y) := by
  unfold convA at h
  split at h
  · have : ∃ v, y = .v v := by
      split at h
      · split at h
        · split at h
          · cases h; exact ⟨_, rfl⟩
          · cases h
        · cases h; exact ⟨_, rfl⟩
      · cases h
    obtain ⟨v, rfl⟩ := this
    simp only [mp_v, convA]; exact h
  · have : ∃ v, y = .v v := by
      split at h
      · cases h; exact ⟨_, rfl⟩
      · cases h
    obtain ⟨v, rfl⟩ := this
    simp only [mp_v, convA]; exact h
  · rename_i n1 n2
    split at h
    · rename_i hc
      split at h
      · rename_i l hl
        simp only [Option.map_eq_some_iff] at h
        obtain ⟨bs, hbs, rfl⟩ := h
        have hl' := rowsOf_mp σ hl
        rw [strOf_mp σ hbs] at hl'
        have : convA P (mpH σ hp) s d (AV.mp σ x) = if isBytes P s = true ∧ isStr P d = true then match rowsOf (mpH σ hp) 1 (AV.mp σ x) with
            | some l => (strOf l).map fun bs => .v (.string ⟨bs.toArray⟩)
            | none => none
          else none := by
          cases x with
          | v x => cases x <;> first | (exact absurd rfl (n1 _ _)) | (exact absurd rfl (n2 _)) | (simp only [mp_v]; rfl)
          | _ => simp only [AV.mp, convA] <;> rfl
        rw [this, if_pos hc, hl']
        simp [hbs, mp_v]
      · cases h
    · cases h
theorem setAt_mp (σ : Ren) (cs : List AV) (o : Nat) (ys : List AV) : (setAt cs o ys).map (AV.mp σ) = setAt (cs.map (AV.mp σ)) o (ys.map (AV.mp σ)) := by
  simp [setAt, List.map_take, List.map_drop]
theorem fillA_mp (σ : Ren) {pl : List (Nat × Nat)} : ∀ {parts : List (Nat × AV)} {cs r : List AV}, fillA pl cs parts = some r → fillA pl (cs.map (AV.mp σ)) (parts.map fun p => (p.1, AV.mp σ p.2)) = some (r.map (AV.mp σ))
  | [], cs, r, h => by cases h; rfl
  | (i, x) :: parts, cs, r, h => by
    simp only [fillA, List.map_cons] at h ⊢
    split at h
    · rename_i o s ys h1 h2
      simp only [h1, cl_mp, h2, Option.map_some, List.length_map]
      split at h
      · rename_i hc
        rw [if_pos hc]
        have := fillA_mp σ h
        rwa [setAt_mp] at this
      · cases h
    · cases h
theorem zcl_mp (σ : Ren) {t : TypeId} {z : List AV} (h : zcl P t = some z) : z.map (AV.mp σ) = z := by
  unfold zcl at h
  split at h
  · split at h
    · split at h
      · cases h; simp [ofCell_mp]
      · cases h
    · cases h
  · cases h
theorem buildA_mp (σ : Ren) {t : TypeId} {parts : List (Nat × AV)} {y : AV} (h : buildA P t parts = some y) : buildA P t (parts.map fun p => (p.1, AV.mp σ p.2)) = some (AV.mp σ y) := by
  unfold buildA at h ⊢
  split at h
  · rename_i z pl hz hpl
    simp only [Option.map_eq_some_iff] at h
    obtain ⟨r, hr, rfl⟩ := h
    have := fillA_mp σ hr
    rw [zcl_mp σ hz] at this
    simp [hz, hpl, this, mp_agg]
  · cases h
theorem bnd_mp (σ : Ren) {f : Nat → AV} {o : Option Operand} {r : Option Int} (h : bnd f o = some r) : bnd (mpG σ f) o = some r := by
  cases o with
  | none => exact h
  | some x =>
    simp only [bnd, ev_mp] at h ⊢
    split at h
    · rename_i hx; rw [hx]; simp only [mp_v]; exact h
    · cases h
theorem minA_mp (σ : Ren) {x z y : AV} (h : minA x z = some y) : minA (AV.mp σ x) (AV.mp σ z) = some (AV.mp σ y) := by
  unfold minA at h
  split at h
  · cases h; simp only [mp_v, minA]
  · cases h; simp only [mp_v, minA]
  · cases h
theorem maxA_mp (σ : Ren) {x z y : AV} (h : maxA x z = some y) : maxA (AV.mp σ x) (AV.mp σ z) = some (AV.mp σ y) := by
  unfold maxA at h
  split at h
  · cases h; simp only [mp_v, maxA]
  · cases h; simp only [mp_v, maxA]
  · cases h
theorem intOfA_mp (σ : Ren) {x : AV} {n : Int} (h : intOfA x = some n) : intOfA (AV.mp σ x) = some n := by
  unfold intOfA at h
  split at h
  · simp only [mp_v]; exact h
  · cases h
theorem opv_mp (σ : Ren) {f : Nat → AV} {hp : List Blk} {o : Op} {y : AV} (h : opv P f hp o = some y) : opv P (mpG σ f) (mpH σ hp) o = some (AV.mp σ y) := by
  cases o <;> simp only [opv] at h ⊢ <;> try (cases h; done)
  case move x => cases h; rw [ev_mp]
  case assign x => cases h; rw [ev_mp]
  case pick c a b =>
    rw [ev_mp, ev_mp, ev_mp]
    split at h
    · rename_i t ht; cases h; rw [ht]; simp only [mp_v]; split <;> rfl
    · cases h
  case build t parts =>
    have := buildA_mp σ h
    simp only [List.map_map] at this
    rw [← this]; congr 2; funext p; simp [ev_mp]
  case load t x => rw [ev_mp]; exact loadA_mp σ h
  case nilCheck x =>
    rw [ev_mp]
    split at h <;> rename_i hx <;> first | (rw [hx]; cases h; simp only [AV.mp]) | cases h
  case binOp op t x z u => rw [ev_mp, ev_mp]; exact binA_mp σ h
  case unOp op t x =>
    cases op <;> simp only [opv] at h ⊢ <;> try (cases h; done)
    rw [ev_mp]
    split at h
    · rename_i hx; rw [hx]; cases h; simp only [mp_v]
    · cases h
  case convert s d x => rw [ev_mp]; exact convA_mp σ h
  case makeFunc fn a c =>
    cases h
    rw [mp_fn]
    simp [ev_mp, Function.comp_def]
  case slice t x lo hi mx =>
    split at h
    · rename_i a b c ha hb hc
      simp only [bnd_mp σ ha, bnd_mp σ hb, bnd_mp σ hc]
      rw [ev_mp]; exact sliceA_mp σ h
    · cases h
  case fieldAddr t x i => rw [ev_mp]; exact fldA_mp σ h
  case field t x i => rw [ev_mp]; exact fieldA_mp σ h
  case indexAddr t x i =>
    rw [ev_mp, ev_mp]
    split at h
    · rename_i n hn; rw [intOfA_mp σ hn]; exact idxA_mp σ h
    · cases h
  case index t x i =>
    rw [ev_mp, ev_mp]
    split at h
    · rename_i n hn; rw [intOfA_mp σ hn]; exact eltA_mp σ h
    · cases h
  case extract x i =>
    rw [ev_mp]
    split at h
    · rename_i l hl; rw [hl, mp_tup]; simp [h]
    · cases h
  case call c =>
    obtain ⟨callee, args, tys⟩ := c
    simp only at h ⊢
    split at h
    · rw [ev_mp]; exact lenA_mp σ h
    · rw [ev_mp, ev_mp]; exact minA_mp σ h
    · rw [ev_mp, ev_mp]; exact maxA_mp σ h
    · cases h
end Go.Ab
