/- That the function that runs code is so: regions. -/
import Derived.Test.YthfjcplhjbaplaaAbE4
set_option linter.all false
namespace Go.Ab
set_option linter.unusedVariables false
variable {P : Program}

/-- One operation of a region, done in turn. -/
theorem OpE.reg {C : Cfg} {R : Fr → List Blk → Prop} {id i : Nat} {ops : Array Oper} {o : Oper} {r : List Oper} {s : List It} {own : Bool} {fr : Fr} {hp : List Blk}
    (hg : gd (get fr) ops o = some true) (h : OpE P own o (fun fr' hp' => W P C R (.reg ops id (i + 1) r :: s) fr' hp') fr hp) : W P C R (.reg ops id i (o :: r) :: s) fr hp := by
  cases h with
  | pure x _ hx h => exact .pure hg hx h
  | store t x y hp' ho hx h => exact .store hg ho hx h
  | new nb hx h => exact .new hg hx h
  | lit ho nb hx hp0 h => exact .lit hg hx hp0 h
  | app x y t t' ab ho hx h => exact .app hg ho hx h
  | call g args ho hf post hc h => exact .call hg ho hf post hc h
theorem gdx_mpF (σ : Ren) {fr : Fr} {ops : Array Oper} {o : Oper} {t w b : Bool} (h : gdx (get fr) ops o = some (t, w)) (hb : (t == w) = b) : gd (get (mpF σ fr)) ops o = some b := by
  rw [← hb, get_mpF]; exact gdx_gd (gdx_mp σ h)

theorem stepO_ok {ow : List Nat} {cl : CallF} (hcl : CallOk P cl) {ops : Array Oper} {o : Oper} {fr fr' : Fr} {hp hp' : List Blk} {n n' : Nat} (h : stepO P ow cl ops o fr hp n = some (fr', hp', n')) (hf : FF n fr) (hh : FH n hp) :
    n ≤ n' ∧ FF n' fr' ∧ FH n' hp' ∧ ∀ (C : Cfg) (R : Fr → List Blk → Prop) (id i : Nat) (r : List Oper) (s : List It) (σ : Ren), (∀ τ, Ag n σ τ → W P C R (.reg ops id (i + 1) r :: s) (mpF τ fr') (mpH τ hp')) →
      W P C R (.reg ops id i (o :: r) :: s) (mpF σ fr) (mpH σ hp) := by
  unfold stepO at h
  split at h
  · cases h
  · rename_i t w hg
    split at h
    · rename_i hb
      cases h
      refine ⟨Nat.le_refl _, hf.set (FA_und _) _, hh, fun C R id i r s σ k => .nop (gdx_mpF σ hg hb) ?_⟩
      have := k σ (Ag.refl _ _)
      rwa [mpF_setO, mp_tup] at this
    · rename_i hb
      obtain ⟨h1, h2, h3, h4⟩ := doO_ok hcl h hf hh
      exact ⟨h1, h2, h3, fun C R id i r s σ k => OpE.reg (gdx_mpF σ hg hb) (h4 σ _ k)⟩

theorem seqO_ok {ow : List Nat} {cl : CallF} (hcl : CallOk P cl) {ops : Array Oper} : ∀ {l : List Oper} {fr fr' : Fr} {hp hp' : List Blk} {n n' : Nat}, seqO P ow cl ops l fr hp n = some (fr', hp', n') → FF n fr → FH n hp →
    n ≤ n' ∧ FF n' fr' ∧ FH n' hp' ∧ ∀ (C : Cfg) (R : Fr → List Blk → Prop) (id i : Nat) (s : List It) (σ : Ren), (∀ τ, Ag n σ τ → W P C R s (keepF (mpF τ fr') (C.kp id)) (mpH τ hp')) →
      W P C R (.reg ops id i l :: s) (mpF σ fr) (mpH σ hp)
  | [], fr, fr', hp, hp', n, n', h, hf, hh => by
    cases h
    exact ⟨Nat.le_refl _, hf, hh, fun C R id i s σ k => .regE (k σ (Ag.refl _ _))⟩
  | o :: r, fr, fr', hp, hp', n, n', h, hf, hh => by
    simp only [seqO] at h
    split at h
    · rename_i fr1 hp1 n1 h1
      obtain ⟨a1, a2, a3, a4⟩ := stepO_ok hcl h1 hf hh
      obtain ⟨b1, b2, b3, b4⟩ := seqO_ok hcl h a2 a3
      refine ⟨Nat.le_trans a1 b1, b2, b3, fun C R id i s σ k => a4 C R id i r s σ fun τ g => b4 C R id (i + 1) s τ fun υ g2 => k υ (g.trans g2 a1)⟩
    · cases h

theorem FL_nil (n : Nat) (l : List AV) (h : nbL (nb 40) l = true) : FL n l := fun σ τ _ => by rw [nbL_mp τ 40 l h, nbL_mp σ 40 l h]
theorem FH_nil (n : Nat) : FH n [] := fun _ _ _ => rfl
theorem yiO_ok {ow ec : List Nat} {cl : CallF} (hcl : CallOk P cl) {ops : Array Oper} {o : Oper} {fr : Fr} {hp : List Blk} {n : Nat} {x : AV} (h : yiO P ow ec cl ops o fr hp = some x) (hf : FF n fr) (hh : FH n hp) :
    FA n x ∧ ∀ σ, Yi P ow ec ops o (AV.mp σ x) (get (mpF σ fr)) (mpH σ hp) := by
  unfold yiO at h
  split at h
  · cases h
  · rename_i t w hg
    split at h
    · rename_i hb
      cases h
      exact ⟨FA_und _, fun σ => .inr ⟨gdx_mpF σ hg hb, by rw [mp_tup]; rfl⟩⟩
    · rename_i hb
      split at h
      · rename_i he
        split at h
        · refine ⟨opv_FA h hf hh, fun σ => .inl ⟨gdx_mpF σ hg hb, he, .inl ?_⟩⟩
          rw [get_mpF]; exact opv_mp σ h
        · split at h
          · rename_i nb hx
            split at h
            · cases h
            · rename_i hp0
              cases h
              refine ⟨fun σ τ g => by rw [mp_sl, mp_sl, (opn_FL hx hf).map_eq g], fun σ => .inl ⟨gdx_mpF σ hg hb, he, .inr (.inl ⟨nb.mp σ, ?_, hp0, mp_sl σ _ _⟩)⟩⟩
              rw [get_mpF]; exact opn_mp σ hx
          · cases h
        · split at h
          · rename_i g args hs
            split at h
            · rename_i hargs
              split at h
              · rename_i r m hc
                split at h
                · rename_i hr
                  cases h
                  obtain ⟨h1, h2, h3, h4, h5⟩ := hcl _ _ _ _ _ _ _ hc (FL_nil _ _ hargs) (FH_nil _)
                  refine ⟨fun σ τ _ => by rw [nb_mp τ 40 _ hr, nb_mp σ 40 _ hr], fun σ => .inl ⟨gdx_mpF σ hg hb, he, .inr (.inr ⟨g, args, ?_, h4, fun hp => ?_⟩)⟩⟩
                  · have := calleeA_mp σ hs
                    rw [nbL_mp σ 40 _ hargs] at this
                    rw [get_mpF]; exact this
                  · refine ACall.frame (Q := fun r => r = AV.mp σ x) ?_ hp
                    have := h5 σ
                    rw [nbL_mp σ 40 _ hargs] at this
                    refine this.mono fun r bs => ?_
                    rintro ⟨τ, _, rfl, rfl⟩
                    exact ⟨by rw [nb_mp τ 40 _ hr, nb_mp σ 40 _ hr], rfl⟩
                · cases h
              · cases h
            · cases h
          · cases h
        · cases h
      · cases h

theorem eff_opv {ow ec : List Nat} {o : Oper} {f : Nat → AV} {hp : List Blk} {x : AV} (hx : opv P f hp o.op = some x) : eff ow ec o = 0 := by
  obtain ⟨dst, op, type, pos, after, guard⟩ := o
  cases op <;> simp only [opv] at hx <;> try (cases hx; done)
  all_goals (try rfl)
  rename_i c
  obtain ⟨callee, args, tys⟩ := c
  simp only at hx
  split at hx <;> first | rfl | cases hx
theorem eff_opn {ow ec : List Nat} {o : Oper} {f : Nat → AV} {nb : NewB} (hx : opn P f o.op = some nb) {e : Nat} (he : eff ow ec o = e + 1) : eff ow ec o = 1 ∨ eff ow ec o = 2 := by
  obtain ⟨dst, op, type, pos, after, guard⟩ := o
  cases op <;> simp only [opn] at hx <;> try (cases hx; done)
  all_goals simp only [eff] at he ⊢
  all_goals first
    | exact .inl trivial
    | (split at he
       · rename_i hc; rw [if_pos hc]; exact .inr rfl
       · cases he)
theorem eff_call {ow ec : List Nat} {o : Oper} {f : Nat → AV} {g : FuncId} {args : List AV} (hx : calleeA f o.op = some (g, args)) {e : Nat} (he : eff ow ec o = e + 1) : eff ow ec o = 2 := by
  obtain ⟨dst, op, type, pos, after, guard⟩ := o
  cases op <;> simp only [calleeA] at hx <;> try (cases hx; done)
  rename_i c
  obtain ⟨callee, cargs, tys⟩ := c
  simp only at hx
  split at hx
  · simp only [eff] at he ⊢
    split at he
    · rename_i hc; rw [if_pos hc]
    · cases he
  · cases hx

theorem brO_ok {ow ec : List Nat} {cl : CallF} (hcl : CallOk P cl) {ops : Array Oper} {o : Oper} {fr fr' : Fr} {hp hp' : List Blk} {n n' : Nat} (h : brO P ow ec cl ops o fr hp n = some (fr', hp', n')) (hf : FF n fr) (hh : FH n hp) :
    n ≤ n' ∧ FF n' fr' ∧ FH n' hp' ∧ ∀ (C : Cfg) (hC1 : C.ow = ow) (hC2 : C.ec = ec) (R : Fr → List Blk → Prop) (id i : Nat) (p : Plan) (r : List (Nat × Plan)) (s : List It) (σ : Ren) (ho : ops[i]? = some o),
      (∀ τ, Ag n σ τ → W P C R (.drw ops id p :: s) (mpF τ fr') (mpH τ hp')) → W P C R (.drw ops id (.br r) :: s) (mpF σ fr) (mpH σ hp) →
      W P C R (.drw ops id (.br ((i, p) :: r)) :: s) (mpF σ fr) (mpH σ hp) := by
  unfold brO at h
  split at h
  · split at h
    · rename_i he x hx
      cases h
      obtain ⟨h1, h2⟩ := yiO_ok hcl hx hf hh
      refine ⟨Nat.le_refl _, hf.set h1 _, hh, fun C hC1 hC2 R id i p r s σ ho k kr => .dyi (AV.mp σ x) ho (by rw [hC1, hC2]; exact h2 σ) ?_ kr⟩
      have := k σ (Ag.refl _ _)
      rwa [mpF_setO] at this
    · cases h
  · rename_i e he
    split at h
    · cases h
    · rename_i t w hg
      split at h
      · rename_i hb
        cases h
        refine ⟨Nat.le_refl _, hf.set (FA_und _) _, hh, fun C hC1 hC2 R id i p r s σ ho k kr => .dyi (.tup []) ho (.inr ⟨gdx_mpF σ hg hb, rfl⟩) ?_ kr⟩
        have := k σ (Ag.refl _ _)
        rwa [mpF_setO, mp_tup] at this
      · rename_i hb
        obtain ⟨h1, h2, h3, h4⟩ := doO_ok hcl h hf hh
        refine ⟨h1, h2, h3, fun C hC1 hC2 R id i p r s σ ho k kr => ?_⟩
        have hg' := gdx_mpF σ hg hb
        subst hC1 hC2
        cases h4 σ _ k with
        | pure x _ hx _ => rw [eff_opv hx] at he; cases he
        | store t x y hp' hs hx h => exact .dstore t x y hp' ho hg' hs hx h kr
        | new nb hx h => exact .dnew nb ho hg' hx (eff_opn hx he) h kr
        | lit hf => cases hf
        | app x y t t' ab hs hx h => exact .dapp x y t t' ab ho hg' hs hx h kr
        | call g args hs hf post hc h => exact .dcall g args ho hg' hs hf (eff_call hs he) post hc h kr

theorem drwO_ok {ow ec kp : List Nat} {cl : CallF} (hcl : CallOk P cl) {ops : Array Oper} : ∀ {k : Nat} {pl : Plan} {fr fr' : Fr} {hp hp' : List Blk} {n n' : Nat}, drwO P ow ec kp cl ops k pl fr hp n = some (fr', hp', n') → FF n fr → FH n hp →
    n ≤ n' ∧ FF n' fr' ∧ FH n' hp' ∧ ∀ (C : Cfg) (hC1 : C.ow = ow) (hC2 : C.ec = ec) (R : Fr → List Blk → Prop) (id : Nat) (hC3 : C.kp id = kp) (s : List It) (σ : Ren),
      (∀ τ, Ag n σ τ → W P C R s (mpF τ fr') (mpH τ hp')) → W P C R (.drw ops id pl :: s) (mpF σ fr) (mpH σ hp) := by
  intro k
  induction k with
  | zero => intro pl fr fr' hp hp' n n' h; simp only [drwO] at h; cases h
  | succ k ih =>
    intro pl fr fr' hp hp' n n' h hf hh
    cases pl with
    | fin =>
      simp only [drwO] at h
      cases h
      refine ⟨Nat.le_refl _, hf.keep _, hh, fun C hC1 hC2 R id hC3 s σ k => .dfin ?_⟩
      have := k σ (Ag.refl _ _)
      rwa [mpF_keep, ← hC3] at this
    | one i p =>
      simp only [drwO] at h
      split at h
      · rename_i o ho
        split at h
        · rename_i x hx
          obtain ⟨h1, h2⟩ := yiO_ok hcl hx hf hh
          obtain ⟨b1, b2, b3, b4⟩ := ih h (hf.set h1 _) hh
          refine ⟨b1, b2, b3, fun C hC1 hC2 R id hC3 s σ k => .done1 (AV.mp σ x) ho (by rw [hC1, hC2]; exact h2 σ) ?_⟩
          have := b4 C hC1 hC2 R id hC3 s σ k
          rwa [mpF_setO] at this
        · cases h
      · cases h
    | br l =>
      cases l with
      | nil => simp only [drwO] at h; cases h
      | cons a r =>
        obtain ⟨i, p⟩ := a
        simp only [drwO] at h
        split at h
        · rename_i o ho
          split at h
          · rename_i fr1 hp1 n1 h1
            split at h
            · rename_i f1 hh1 m1 hd
              obtain ⟨a1, a2, a3, a4⟩ := brO_ok hcl h1 hf hh
              obtain ⟨b1, b2, b3, b4⟩ := ih hd a2 a3
              split at h
              · cases h
                exact ⟨Nat.le_trans a1 b1, b2, b3, fun C hC1 hC2 R id hC3 s σ k => a4 C hC1 hC2 R id i p [] s σ ho (fun τ g => b4 C hC1 hC2 R id hC3 s τ fun υ g2 => k υ (g.trans g2 a1)) .dnil⟩
              · split at h
                · rename_i f2 hh2 m2 hd2
                  split at h
                  · rename_i he
                    simp only [Bool.and_eq_true, decide_eq_true_eq] at he
                    cases h
                    obtain ⟨⟨e1, e2⟩, rfl⟩ := he
                    obtain rfl := eqFr_ok _ _ e1
                    obtain rfl := eqH_ok _ _ e2
                    obtain ⟨c1, c2, c3, c4⟩ := ih hd2 hf hh
                    exact ⟨Nat.le_trans a1 b1, b2, b3, fun C hC1 hC2 R id hC3 s σ k => a4 C hC1 hC2 R id i p _ s σ ho (fun τ g => b4 C hC1 hC2 R id hC3 s τ fun υ g2 => k υ (g.trans g2 a1)) (c4 C hC1 hC2 R id hC3 s σ k)⟩
                  · cases h
                · cases h
            · cases h
          · cases h
        · cases h
end Go.Ab
