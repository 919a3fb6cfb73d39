/- A function that runs code at known values, and that it is so. -/
import Derived.Test.YthfjcplhjbaplaaAbE2
set_option linter.all false
namespace Go.Ab
set_option linter.unusedVariables false
variable {P : Program}

abbrev CallF := FuncId → List AV → List Blk → Nat → Option (AV × List Blk × Nat)
abbrev StR := Option (Fr × List Blk × Nat)

/-- One operation that is done. -/
def doO (P : Program) (own : Bool) (cl : CallF) (o : Oper) (fr : Fr) (hp : List Blk) (n : Nat) : StR :=
  match kind o.op with
  | 0 => match opv P (get fr) hp o.op with
    | some x => some (setO fr o.dst x, hp, n)
    | none => none
  | 1 => match stOp o.op with
    | some (t, x, y) => match stA P hp t (ev (get fr) x) (ev (get fr) y) with
      | some hp' => some (setO fr o.dst .bad, hp', n)
      | none => none
    | none => none
  | 2 => match opn P (get fr) o.op with
    | some nb => match nb.ptr || own with
      | true => some (setO fr o.dst (nb.ref hp.length n), hp ++ [nb.blk n], n + 1)
      | false => some (setO fr o.dst (.sl nb.k nb.c), hp, n)
    | none => none
  | 3 => match appOp o.op with
    | some (x, y, t, t') => match appA P hp t t' (ev (get fr) x) (ev (get fr) y) with
      | some ab => some (setO fr o.dst (.own ab.p ab.k (some n) 0 ab.n), ab.hp (some n), n + 1)
      | none => none
    | none => none
  | _ => match calleeA (get fr) o.op with
    | some (g, args) => match cl g args hp n with
      | some (x, hp', n') => some (setO fr o.dst x, hp', n')
      | none => none
    | none => none

/-- Calls are as they are said to be. -/
def CallOk (P : Program) (cl : CallF) : Prop := ∀ g args hp n r hp' n', cl g args hp n = some (r, hp', n') → FL n args → FH n hp →
  n ≤ n' ∧ FA n' r ∧ FH n' hp' ∧ fnOk P g = true ∧ ∀ σ, ACall P g (args.map (AV.mp σ)) (mpH σ hp) fun r0 hp0 => ∃ τ, Ag n σ τ ∧ r0 = AV.mp τ r ∧ hp0 = mpH τ hp'

theorem FH.app {n : Nat} {hp : List Blk} (h : FH n hp) {nb : NewB} (hc : FL n nb.c) : FH (n + 1) (hp ++ [nb.blk n]) := fun σ τ g => by
  simp only [mpH, List.map_append, List.map_cons, List.map_nil]
  rw [show hp.map (Blk.mp τ) = hp.map (Blk.mp σ) from h σ τ (g.mono (Nat.le_succ n))]
  simp only [Blk.mp, NewB.blk, Option.bind_some, g n (Nat.lt_succ_self n), hc σ τ (g.mono (Nat.le_succ n))]
theorem ref_FA {n p : Nat} {nb : NewB} : FA (n + 1) (nb.ref p n) := fun σ τ g => by
  unfold NewB.ref
  split
  · simp only [mp_ptr, Option.bind_some, g n (Nat.lt_succ_self n)]
  · simp only [mp_own, Option.bind_some, g n (Nat.lt_succ_self n)]
theorem ref_mp (σ : Ren) {nb : NewB} {p n b : Nat} (h : σ n = some b) : AV.mp σ (nb.ref p n) = (nb.mp σ).ref p b := by
  obtain ⟨ptr, k, t, c⟩ := nb
  cases ptr <;> simp [NewB.ref, NewB.mp, mp_ptr, mp_own, h]
theorem blk_mp (σ : Ren) {nb : NewB} {n b : Nat} (h : σ n = some b) : (nb.blk n).mp σ = (nb.mp σ).blk b := by
  simp only [NewB.mp, NewB.blk, Blk.mp, Option.bind_some, h]
theorem NewB.mp_eq {n : Nat} {nb : NewB} (hc : FL n nb.c) {σ τ : Ren} (g : Ag n σ τ) : nb.mp τ = nb.mp σ := by
  simp only [NewB.mp, hc σ τ g]
theorem app_FH {n : Nat} {hp : List Blk} {t t' : TypeId} {x y : AV} {ab : AppB} (h : appA P hp t t' x y = some ab) (hh : FH n hp) (hx : FA n x) (hy : FA n y) : FH (n + 1) (ab.hp (some n)) := fun σ τ g => by
  obtain ⟨a1, h1, _, _, _, k1⟩ := appA_mp σ h
  obtain ⟨a2, h2, _, _, _, k2⟩ := appA_mp τ h
  have g' := g.mono (Nat.le_succ n)
  rw [hh σ τ g', hx σ τ g', hy σ τ g', h1] at h2
  have e := Option.some.inj h2
  rw [← k1, ← k2, ← e, g n (Nat.lt_succ_self n)]

theorem FL.map_eq {n : Nat} {l : List AV} (h : FL n l) {σ τ : Ren} (g : Ag n σ τ) : l.map (AV.mp τ) = l.map (AV.mp σ) := h σ τ g

/-- OpA, but literals are owned where own says so. -/
inductive OpE (P : Program) (own : Bool) (o : Oper) (K : Fr → List Blk → Prop) (f : Fr) (hp : List Blk) : Prop
  | pure (x : AV) (hk : kind o.op = 0) (hx : opv P (get f) hp o.op = some x) (h : K (setO f o.dst x) hp)
  | store (t : TypeId) (x y : Operand) (hp' : List Blk) (ho : stOp o.op = some (t, x, y)) (hx : stA P hp t (ev (get f) x) (ev (get f) y) = some hp') (h : K (setO f o.dst .bad) hp')
  | new (nb : NewB) (hx : opn P (get f) o.op = some nb) (h : ∀ b, K (setO f o.dst (nb.ref hp.length b)) (hp ++ [nb.blk b]))
  | lit (ho : own = false) (nb : NewB) (hx : opn P (get f) o.op = some nb) (hp0 : nb.ptr = false) (h : K (setO f o.dst (.sl nb.k nb.c)) hp)
  | app (x y : Operand) (t t' : TypeId) (ab : AppB) (ho : appOp o.op = some (x, y, t, t')) (hx : appA P hp t t' (ev (get f) x) (ev (get f) y) = some ab) (h : ∀ b, K (setO f o.dst (.own ab.p ab.k b 0 ab.n)) (ab.hp b))
  | call (g : FuncId) (args : List AV) (ho : calleeA (get f) o.op = some (g, args)) (hf : fnOk P g = true) (post : AV → List Blk → Prop) (hc : ACall P g args hp post) (h : ∀ x hp', post x hp' → K (setO f o.dst x) hp')

/-- What an operation comes to, by the walk's own rules. -/
theorem doO_ok {cl : CallF} (hcl : CallOk P cl) {own : Bool} {o : Oper} {fr fr' : Fr} {hp hp' : List Blk} {n n' : Nat} (h : doO P own cl o fr hp n = some (fr', hp', n')) (hf : FF n fr) (hh : FH n hp) :
    n ≤ n' ∧ FF n' fr' ∧ FH n' hp' ∧ ∀ (σ : Ren) (K : Fr → List Blk → Prop), (∀ τ, Ag n σ τ → K (mpF τ fr') (mpH τ hp')) → OpE P own o K (mpF σ fr) (mpH σ hp) := by
  unfold doO at h
  have hset : ∀ (τ σ : Ren) (x : AV), Ag n σ τ → mpF τ (setO fr o.dst x) = setO (mpF σ fr) o.dst (AV.mp τ x) := fun τ σ x g => by
    rw [mpF_setO, hf σ τ g]
  split at h
  · rename_i hkd
    split at h
    · rename_i x hx
      cases h
      refine ⟨Nat.le_refl _, hf.set (opv_FA hx hf hh) _, hh, fun σ K k => .pure _ hkd (by rw [get_mpF]; exact opv_mp σ hx) ?_⟩
      have := k σ (Ag.refl _ _)
      rwa [hset σ σ x (Ag.refl _ _)] at this
    · cases h
  · split at h
    · rename_i t x y hs
      split at h
      · rename_i hp1 hx
        cases h
        refine ⟨Nat.le_refl _, hf.set (FA_bad _) _, stA_FH hx hh (ev_FA hf x) (ev_FA hf y), fun σ K k => .store t x y (mpH σ hp') hs (by rw [get_mpF, ev_mp, ev_mp]; exact stA_mp σ hx) ?_⟩
        have := k σ (Ag.refl _ _)
        rwa [hset σ σ _ (Ag.refl _ _), mp_bad] at this
      · cases h
    · cases h
  · split at h
    · rename_i nb hx
      have hc := opn_FL hx hf
      split at h
      · cases h
        refine ⟨Nat.le_succ _, (hf.mono (Nat.le_succ _)).set ref_FA _, hh.app hc, fun σ K k => .new (nb.mp σ) (by rw [get_mpF]; exact opn_mp σ hx) fun b => ?_⟩
        have g := up_ag σ n (some b)
        have := k (σ.up n (some b)) g
        rw [hset _ σ _ g, ref_mp _ (up_self σ n (some b)), NewB.mp_eq hc g] at this
        simp only [mpH, List.map_append, List.map_cons, List.map_nil, blk_mp _ (up_self σ n (some b)), NewB.mp_eq hc g] at this
        rw [show hp.map (Blk.mp (σ.up n (some b))) = hp.map (Blk.mp σ) from hh _ _ g] at this
        simpa [mpH] using this
      · rename_i hown
        cases h
        refine ⟨Nat.le_refl _, hf.set (fun σ τ g => by rw [mp_sl, mp_sl, hc.map_eq g]) _, hh, fun σ K k => .lit (by simp only [Bool.or_eq_false_iff] at hown; exact hown.2) (nb.mp σ) (by rw [get_mpF]; exact opn_mp σ hx) (by simp only [Bool.or_eq_false_iff] at hown; exact hown.1) ?_⟩
        have := k σ (Ag.refl _ _)
        rwa [hset σ σ _ (Ag.refl _ _), mp_sl] at this
    · cases h
  · split at h
    · rename_i x y t t' hs
      split at h
      · rename_i ab hx
        cases h
        have hxF := ev_FA hf x
        have hyF := ev_FA hf y
        refine ⟨Nat.le_succ _, (hf.mono (Nat.le_succ _)).set (fun σ τ g => by simp only [mp_own, Option.bind_some, g n (Nat.lt_succ_self n)]) _, app_FH hx hh hxF hyF, fun σ K k => ?_⟩
        obtain ⟨ab', h1, h2, h3, h4, h5⟩ := appA_mp σ hx
        refine .app x y t t' ab' hs (by rw [get_mpF, ev_mp, ev_mp]; exact h1) fun b => ?_
        have g := up_ag σ n b
        have := k (σ.up n b) g
        rw [hset _ σ _ g, mp_own, Option.bind_some, up_self, ← h2, ← h3, ← h4] at this
        obtain ⟨ab2, i1, _, _, _, i5⟩ := appA_mp (σ.up n b) hx
        rw [hh _ _ g, hxF _ _ g, hyF _ _ g, h1] at i1
        have e := Option.some.inj i1
        rw [← i5, up_self, ← e] at this
        exact this
      · cases h
    · cases h
  · split at h
    · rename_i g args hs
      split at h
      · rename_i x hp1 n1 hx
        cases h
        have hargs := calleeA_FL hs hf
        obtain ⟨h1, h2, h3, h4, h5⟩ := hcl _ _ _ _ _ _ _ hx hargs hh
        refine ⟨h1, (hf.mono h1).set h2 _, h3, fun σ K k => .call g (args.map (AV.mp σ)) (by rw [get_mpF]; exact calleeA_mp σ hs) h4 _ (h5 σ) ?_⟩
        rintro x0 hp0 ⟨τ, g1, rfl, rfl⟩
        have := k τ g1
        rwa [hset _ σ _ g1] at this
      · cases h
    · cases h
end Go.Ab
