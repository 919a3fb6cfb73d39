/- Where blocks lie does not matter: stores, new blocks, appends, calls, results. -/
import Derived.Test.YthfjcplhjbaplaaAbE1
set_option linter.all false
namespace Go.Ab
set_option linter.unusedVariables false
variable {P : Program}

theorem putE_mp (σ : Ren) {e e' : AV} {j : Nat} {ys : List AV} (h : putE e j ys = some e') : putE (AV.mp σ e) j (ys.map (AV.mp σ)) = some (AV.mp σ e') := by
  unfold putE at h
  split at h
  · split at h
    · rename_i cs hc
      cases h
      rw [mp_agg, mp_agg, setAt_mp]
      simp only [putE, List.length_map]
      rw [if_pos hc]
    · cases h
  · rename_i hna
    split at h
    · cases h
      cases e with
      | agg l => exact absurd rfl (hna l)
      | _ => simp only [AV.mp, putE, List.map_cons, List.map_nil]
    · cases h
theorem mpH_set (σ : Ren) (hp : List Blk) (p : Nat) (B : Blk) : mpH σ (hp.set p B) = (mpH σ hp).set p (B.mp σ) := by simp [mpH, List.map_set]
theorem stA_mp (σ : Ren) {hp hp' : List Blk} {t : TypeId} {x y : AV} (h : stA P hp t x y = some hp') : stA P (mpH σ hp) t (AV.mp σ x) (AV.mp σ y) = some (mpH σ hp') := by
  unfold stA at h
  split at h
  · split at h
    · rename_i B ys _ s hB hy ht
      split at h
      · rename_i e he
        split at h
        · rename_i hl
          simp only [Option.map_eq_some_iff] at h
          obtain ⟨e', h1, rfl⟩ := h
          rw [mp_ptr]
          simp only [stA, blkAt_mp σ hB, cl_mp, hy, ht, Option.map_some, Blk.mp, List.getElem?_map, he, List.length_map]
          rw [if_pos hl, putE_mp σ h1, mpH_set]
          simp [Blk.mp, List.map_set]
        · cases h
      · cases h
    · cases h
  · cases h
theorem elemA_mp (σ : Ren) {t : TypeId} {cs : List AV} {y : AV} (h : elemA P t cs = some y) : elemA P t (cs.map (AV.mp σ)) = some (AV.mp σ y) := by
  unfold elemA at h ⊢
  split at h
  · rename_i s hs
    split at h
    · rename_i hl; cases h; simp only [List.length_map]; rw [if_pos hl, mp_agg]
    · cases h
  · rename_i s hs
    split at h
    · split at h
      · rename_i c hc; cases h; simp only [List.map_cons, List.map_nil, oneA_mp]; rw [if_pos hc]
      · cases h
    · cases h
  · cases h
theorem chunkA_mp (σ : Ren) {t : TypeId} {s : Nat} : ∀ {n : Nat} {cs l : List AV}, chunkA P t s n cs = some l → chunkA P t s n (cs.map (AV.mp σ)) = some (l.map (AV.mp σ))
  | 0, cs, l, h => by cases h; rfl
  | n + 1, cs, l, h => by
    simp only [chunkA] at h ⊢
    split at h
    · rename_i x m hx hm
      cases h
      rw [← List.map_take, ← List.map_drop, elemA_mp σ hx, chunkA_mp σ hm]
      rfl
    · cases h
def NewB.mp (σ : Ren) (nb : NewB) : NewB := { nb with c := nb.c.map (AV.mp σ) }
theorem opn_mp (σ : Ren) {f : Nat → AV} {o : Op} {nb : NewB} (h : opn P f o = some nb) : opn P (mpG σ f) o = some (nb.mp σ) := by
  cases o <;> simp only [opn] at h ⊢ <;> try (cases h; done)
  case alloc t =>
    split at h
    · rename_i z hz
      simp only [Option.map_eq_some_iff] at h
      obtain ⟨x, hx, rfl⟩ := h
      have := elemA_mp σ hx
      rw [zcl_mp σ hz] at this
      have h2 := Option.some.inj (hx.symm.trans this)
      simp [hx, NewB.mp, ← h2]
    · cases h
  case box t x =>
    rw [ev_mp, cl_mp]
    split at h
    · rename_i ys hys
      simp only [Option.map_eq_some_iff] at h
      obtain ⟨x, hx, rfl⟩ := h
      simp [hys, elemA_mp σ hx, NewB.mp]
    · cases h
  case buildSlice t n parts =>
    split at h
    · rename_i e s hs
      split at h
      · rename_i z _ s' hz ht
        split at h
        · rename_i hc
          split at h
          · rename_i cs hcs
            simp only [Option.map_eq_some_iff] at h
            obtain ⟨l, hl, rfl⟩ := h
            have h1 := fillA_mp σ hcs
            have hzz : (zerosA z n).map (AV.mp σ) = zerosA z n := by
              simp [zerosA, List.map_flatten, zcl_mp σ hz]
            rw [hzz] at h1
            simp only [List.map_map, Function.comp_def] at h1
            simp only [if_pos hc, ev_mp, h1, chunkA_mp σ hl, Option.map_some, NewB.mp]
          · cases h
        · cases h
      · cases h
    · cases h
  case makeSlice t l c =>
    rw [ev_mp, ev_mp]
    split at h
    · rename_i n m e s hn hm hs
      split at h
      · rename_i z by_ hz hb
        split at h
        · rename_i x hx
          split at h
          · rename_i hc
            cases h
            have := elemA_mp σ hx
            rw [zcl_mp σ hz, hx] at this
            have hx2 := Option.some.inj this
            simp only [intOfA_mp σ hn, intOfA_mp σ hm, hs, hz, hb, hx]
            rw [if_pos hc]
            simp [NewB.mp, ← hx2]
          · cases h
        · cases h
      · cases h
    · cases h
theorem appA_mp (σ : Ren) {hp : List Blk} {t t' : TypeId} {x y : AV} {ab : AppB} (h : appA P hp t t' x y = some ab) :
    ∃ ab', appA P (mpH σ hp) t t' (AV.mp σ x) (AV.mp σ y) = some ab' ∧ ab'.p = ab.p ∧ ab'.k = ab.k ∧ ab'.n = ab.n ∧ ∀ c, ab'.hp (σ c) = mpH σ (ab.hp (some c)) := by
  unfold appA at h
  split at h
  · rename_i e s by_ _ hs ht
    split at h
    · rename_i l hl
      split at h
      · split at h
        · rename_i hc
          cases h
          refine ⟨⟨hp.length, s, l.length, fun b => mpH σ hp ++ [⟨true, b, s, e, l.map (AV.mp σ)⟩]⟩, ?_, rfl, rfl, rfl, fun c => by simp [mpH, Blk.mp]⟩
          rw [mp_nils]; simp only [appA, hs, ht, rowsOf_mp σ hl, List.length_map]; rw [if_pos hc]
        · cases h
      · split at h
        · rename_i B hB
          split at h
          · rename_i hc
            cases h
            rename_i p k b off len _
            refine ⟨⟨p, s, len + l.length, fun b => (mpH σ hp).set p { B.mp σ with b := b, c := (B.mp σ).c ++ l.map (AV.mp σ) }⟩, ?_, rfl, rfl, rfl, fun c => by simp [mpH, Blk.mp, List.map_set]⟩
            rw [mp_own]; simp only [appA, hs, ht, rowsOf_mp σ hl, blkAt_mp σ hB, List.length_map]; rw [if_pos (by simpa [Blk.mp] using hc)]
          · cases h
        · cases h
      · cases h
    · cases h
  · cases h
theorem calleeA_mp (σ : Ren) {f : Nat → AV} {o : Op} {g : FuncId} {args : List AV} (h : calleeA f o = some (g, args)) : calleeA (mpG σ f) o = some (g, args.map (AV.mp σ)) := by
  cases o <;> simp only [calleeA] at h ⊢ <;> try (cases h; done)
  rename_i c
  obtain ⟨callee, cargs, tys⟩ := c
  simp only at h ⊢
  split at h
  · rw [ev_mp]
    split at h
    · rename_i hf
      cases h
      rw [hf, mp_fn]
      simp [ev_mp, Function.comp_def]
    · cases h
  · cases h
theorem gdx_mp (σ : Ren) {f : Nat → AV} {ops : Array Oper} {o : Oper} {r : Bool × Bool} (h : gdx f ops o = some r) : gdx (mpG σ f) ops o = some r := by
  unfold gdx at h ⊢
  split at h
  · exact h
  · split at h
    · simp only [mpG]
      split at h
      · rename_i hf; rw [hf, mp_v]; exact h
      · rename_i hf; rw [hf, mp_tup]; exact h
      · cases h
    · exact h
theorem resOne_mp (σ : Ren) {fr : Fr} {hp : List Blk} {r : ResultVar} {x : AV} (h : resOne P fr hp r = some x) : resOne P (mpF σ fr) (mpH σ hp) r = some (AV.mp σ x) := by
  cases r with
  | tmp t => cases h; simp only [resOne, get_mpF]
  | cell a t => simp only [resOne, get_mpF] at h ⊢; exact loadA_mp σ h
theorem resL_mp (σ : Ren) {fr : Fr} {hp : List Blk} : ∀ {l : List ResultVar} {xs : List AV}, resL P fr hp l = some xs → resL P (mpF σ fr) (mpH σ hp) l = some (xs.map (AV.mp σ))
  | [], xs, h => by cases h; rfl
  | r :: l, xs, h => by
    simp only [resL] at h ⊢
    split at h
    · rename_i x m hx hm
      cases h
      rw [resOne_mp σ hx, resL_mp σ hm]; rfl
    · cases h
theorem resA_mp (σ : Ren) {fr : Fr} {hp : List Blk} {l : List ResultVar} {x : AV} (h : resA P l fr hp = some x) : resA P l (mpF σ fr) (mpH σ hp) = some (AV.mp σ x) := by
  simp only [resA, Option.map_eq_some_iff] at h ⊢
  obtain ⟨xs, h1, rfl⟩ := h
  refine ⟨_, resL_mp σ h1, ?_⟩
  match xs with
  | [] => simp [tupA, mp_tup]
  | [x] => simp [tupA]
  | x :: y :: r => simp [tupA, mp_tup]
theorem mapM_c {α β : Type} (f : α → Option β) (a : α) (l : List α) : (a :: l).mapM f = (f a).bind fun x => (l.mapM f).bind fun r => some (x :: r) := by
  simp only [List.mapM_cons]; rfl
theorem mapM_mp (σ : Ren) {g g' : AV → Option AV} (hg : ∀ x y, g x = some y → g' (AV.mp σ x) = some (AV.mp σ y)) : ∀ {l r : List AV}, l.mapM g = some r → (l.map (AV.mp σ)).mapM g' = some (r.map (AV.mp σ))
  | [], r, h => by cases h; rfl
  | a :: l, r, h => by
    rw [mapM_c] at h
    rw [List.map_cons, mapM_c]
    cases ha : g a with
    | none => rw [ha] at h; cases h
    | some b =>
      cases hl : l.mapM g with
      | none => rw [ha, hl] at h; cases h
      | some bs =>
        rw [ha, hl] at h; cases h
        rw [hg a b ha, mapM_mp σ hg hl]; rfl
theorem fz_mp (σ : Ren) {hp : List Blk} {m : Nat} : ∀ {f : Nat} {x y : AV}, fz hp m f x = some y → fz (mpH σ hp) m f (AV.mp σ x) = some (AV.mp σ y)
  | 0, x, y, h => by cases h
  | f + 1, x, y, h => by
    have ih := fun x y => fz_mp (hp := hp) (m := m) σ (f := f) (x := x) (y := y)
    cases x <;> simp only [fz] at h
    case agg l =>
      simp only [Option.map_eq_some_iff] at h
      obtain ⟨r, h1, rfl⟩ := h
      rw [mp_agg]; simp only [fz, mapM_mp σ ih h1, Option.map_some, mp_agg]
    case tup l =>
      simp only [Option.map_eq_some_iff] at h
      obtain ⟨r, h1, rfl⟩ := h
      rw [mp_tup]; simp only [fz, mapM_mp σ ih h1, Option.map_some, mp_tup]
    case own p k b off len =>
      rw [mp_own]; simp only [fz]
      split at h
      · rename_i hc; cases h; rw [if_pos hc, mp_own]
      · rename_i hc
        rw [if_neg hc]
        split at h
        · rename_i l hl
          simp only [Option.map_eq_some_iff] at h
          obtain ⟨r, h1, rfl⟩ := h
          have := rowsOf_mp σ hl
          rw [mp_own] at this
          simp only [this, mapM_mp σ ih h1, Option.map_some, mp_sl]
        · cases h
    case ptr p k b i j =>
      rw [mp_ptr]; simp only [fz]
      split at h
      · rename_i hc; cases h; rw [if_pos hc, mp_ptr]
      · rename_i hc
        rw [if_neg hc]
        split at h
        · rename_i B hB
          split at h
          · rename_i e he
            simp only [Option.map_eq_some_iff] at h
            obtain ⟨d, h1, rfl⟩ := h
            simp only [blkAt_mp σ hB, Blk.mp, List.getElem?_map, he, Option.map_some, ih _ _ h1, mp_rp]
          · cases h
        · cases h
    all_goals
      cases h
      simp only [AV.mp, fz, mpL_map]

/-- Named by numbers below n alone. -/
def Ag (n : Nat) (σ τ : Ren) : Prop := ∀ i, i < n → τ i = σ i
theorem Ag.refl (n : Nat) (σ : Ren) : Ag n σ σ := fun _ _ => rfl
theorem Ag.trans {n m : Nat} {σ τ υ : Ren} (h : Ag n σ τ) (g : Ag m τ υ) (hn : n ≤ m) : Ag n σ υ := fun i hi => (g i (Nat.lt_of_lt_of_le hi hn)).trans (h i hi)
theorem Ag.mono {n m : Nat} {σ τ : Ren} (h : Ag m σ τ) (hn : n ≤ m) : Ag n σ τ := fun i hi => h i (Nat.lt_of_lt_of_le hi hn)
def FA (n : Nat) (x : AV) : Prop := ∀ σ τ, Ag n σ τ → AV.mp τ x = AV.mp σ x
def FF (n : Nat) (fr : Fr) : Prop := ∀ σ τ, Ag n σ τ → mpF τ fr = mpF σ fr
def FH (n : Nat) (hp : List Blk) : Prop := ∀ σ τ, Ag n σ τ → mpH τ hp = mpH σ hp
def FL (n : Nat) (l : List AV) : Prop := ∀ σ τ, Ag n σ τ → l.map (AV.mp τ) = l.map (AV.mp σ)
theorem FA.mono {n m : Nat} {x : AV} (h : FA n x) (hn : n ≤ m) : FA m x := fun σ τ g => h σ τ (g.mono hn)
theorem FF.mono {n m : Nat} {x : Fr} (h : FF n x) (hn : n ≤ m) : FF m x := fun σ τ g => h σ τ (g.mono hn)
theorem FH.mono {n m : Nat} {x : List Blk} (h : FH n x) (hn : n ≤ m) : FH m x := fun σ τ g => h σ τ (g.mono hn)
theorem FF.get {n : Nat} {fr : Fr} (h : FF n fr) {σ τ : Ren} (g : Ag n σ τ) : mpG τ (get fr) = mpG σ (get fr) := by
  rw [← get_mpF, ← get_mpF, h σ τ g]
theorem FF.set {n : Nat} {fr : Fr} (h : FF n fr) {x : AV} (hx : FA n x) (d : Option Nat) : FF n (setO fr d x) := fun σ τ g => by
  rw [mpF_setO, mpF_setO, h σ τ g, hx σ τ g]
theorem FF.keep {n : Nat} {fr : Fr} (h : FF n fr) (l : List Nat) : FF n (keepF fr l) := fun σ τ g => by
  rw [mpF_keep, mpF_keep, h σ τ g]
theorem FF.init {n : Nat} {l : List AV} (h : FL n l) (i : Nat) : FF n (initF i l) := fun σ τ g => by
  rw [mpF_init, mpF_init, h σ τ g]
theorem opv_FA {n : Nat} {fr : Fr} {hp : List Blk} {o : Op} {x : AV} (h : opv P (get fr) hp o = some x) (hf : FF n fr) (hh : FH n hp) : FA n x := fun σ τ g => by
  have h1 := opv_mp σ h
  have h2 := opv_mp τ h
  rw [hf.get g, hh σ τ g, h1] at h2
  exact (Option.some.inj h2).symm
theorem ev_FA {n : Nat} {fr : Fr} (hf : FF n fr) (x : Operand) : FA n (ev (get fr) x) := fun σ τ g => by
  rw [← ev_mp, ← ev_mp, hf.get g]
theorem stA_FH {n : Nat} {hp hp' : List Blk} {t : TypeId} {x y : AV} (h : stA P hp t x y = some hp') (hh : FH n hp) (hx : FA n x) (hy : FA n y) : FH n hp' := fun σ τ g => by
  have h1 := stA_mp σ h
  have h2 := stA_mp τ h
  rw [hh σ τ g, hx σ τ g, hy σ τ g, h1] at h2
  exact (Option.some.inj h2).symm
theorem opn_FL {n : Nat} {fr : Fr} {o : Op} {nb : NewB} (h : opn P (get fr) o = some nb) (hf : FF n fr) : FL n nb.c := fun σ τ g => by
  have h1 := opn_mp σ h
  have h2 := opn_mp τ h
  rw [hf.get g, h1] at h2
  have := Option.some.inj h2
  exact (congrArg NewB.c this).symm
theorem calleeA_FL {n : Nat} {fr : Fr} {o : Op} {g : FuncId} {args : List AV} (h : calleeA (get fr) o = some (g, args)) (hf : FF n fr) : FL n args := fun σ τ a => by
  have h1 := calleeA_mp σ h
  have h2 := calleeA_mp τ h
  rw [hf.get a, h1] at h2
  exact (congrArg Prod.snd (Option.some.inj h2)).symm
theorem resA_FA {n : Nat} {fr : Fr} {hp : List Blk} {l : List ResultVar} {x : AV} (h : resA P l fr hp = some x) (hf : FF n fr) (hh : FH n hp) : FA n x := fun σ τ g => by
  have h1 := resA_mp σ h
  have h2 := resA_mp τ h
  rw [hf σ τ g, hh σ τ g, h1] at h2
  exact (Option.some.inj h2).symm
theorem fz_FA {n : Nat} {hp : List Blk} {m f : Nat} {x y : AV} (h : fz hp m f x = some y) (hx : FA n x) (hh : FH n hp) : FA n y := fun σ τ g => by
  have h1 := fz_mp σ h
  have h2 := fz_mp τ h
  rw [hx σ τ g, hh σ τ g, h1] at h2
  exact (Option.some.inj h2).symm
theorem FH.take {n : Nat} {hp : List Blk} (h : FH n hp) (m : Nat) : FH n (hp.take m) := fun σ τ g => by
  simp only [mpH, List.map_take]; rw [show hp.map (Blk.mp τ) = hp.map (Blk.mp σ) from h σ τ g]
theorem FA_v (n : Nat) (x : Value) : FA n (.v x) := fun σ τ g => by rw [mp_v, mp_v]
theorem FA_bad (n : Nat) : FA n .bad := fun σ τ g => by rw [mp_bad, mp_bad]
theorem FA_und (n : Nat) : FA n (.tup []) := fun σ τ g => by rw [mp_tup, mp_tup]; rfl
/-- One more block has a place. -/
def Ren.up (σ : Ren) (n : Nat) (b : Option Nat) : Ren := fun i => if i = n then b else σ i
theorem up_ag (σ : Ren) (n : Nat) (b : Option Nat) : Ag n σ (σ.up n b) := fun i hi => if_neg (Nat.ne_of_lt hi)
theorem up_self (σ : Ren) (n : Nat) (b : Option Nat) : σ.up n b n = b := if_pos rfl
end Go.Ab
