/- That the function that runs code is so: whole functions. -/
import Derived.Test.YthfjcplhjbaplaaAbE5
set_option linter.all false
namespace Go.Ab
set_option linter.unusedVariables false
variable {P : Program}

def endE (P : Program) (nf : Bool) (m : Nat) (rs : List ResultVar) : CdR → Option (AV × List Blk × Nat)
  | none => none
  | some (.ex _, _, _, _) => none
  | some (_, fr, hp, n) => match resA P rs fr hp with
    | none => none
    | some r => match nf with
      | true => some (r, hp, n)
      | false => match fz hp m 12 r with
        | some y => some (y, hp.take m, n)
        | none => none
/-- What runs a program: what is told of its functions; calls that are known; calls that hand back what they own. -/
structure Env where
  cf : FuncId → Cfg
  orc : FuncId → List AV → Option AV
  nf : FuncId → List AV → Bool
def callE (P : Program) (E : Env) (ec : Cfg → Code → Fr → List Blk → Nat → CdR) : CallF := fun g args hp n =>
  match E.orc g args with
  | some r => some (r, hp, n)
  | none => match P.funcs[g]? with
    | some fn => match fn.body with
      | some c => match decide (args.length ≤ (E.cf g).n) && decide (0 < (E.cf g).n) with
        | true => endE P (E.nf g args) hp.length fn.results.toList (ec (E.cf g) c (initF 0 args) hp n)
        | false => none
      | none => none
    | none => none

def evC (P : Program) (E : Env) : Nat → Cfg → Code → Fr → List Blk → Nat → CdR
  | 0, _, _, _, _, _ => none
  | k + 1, C, c, fr, hp, n => match c with
    | .skip => some (.nor, fr, hp, n)
    | .ret => some (.ret, fr, hp, n)
    | .exit id => some (.ex id, fr, hp, n)
    | .seq a b => match evC P E k C a fr hp n with
      | some (.nor, fr, hp, n) => evC P E k C b fr hp n
      | r => r
    | .cond x a b => match ev (get fr) x with
      | .v (.bool true) => evC P E k C a fr hp n
      | .v (.bool false) => evC P E k C b fr hp n
      | _ => none
    | .block id c => match evC P E k C c fr hp n with
      | some (.ex i, fr, hp, n) => match decide (i = id) with
        | true => some (.nor, fr, hp, n)
        | false => some (.ex i, fr, hp, n)
      | r => r
    | .loop c => match evC P E k C c fr hp n with
      | some (.nor, fr, hp, n) => evC P E k C (.loop c) fr hp n
      | r => r
    | .region id ops false => match seqO P C.ow (callE P E (evC P E k)) ops ops.toList fr hp n with
      | some (fr, hp, n) => some (.nor, keepF fr (C.kp id), hp, n)
      | none => none
    | .region id ops true => match drwO P C.ow C.ec (C.kp id) (callE P E (evC P E k)) ops (2 * ops.size + 2) (C.pl id) fr hp n with
      | some (fr, hp, n) => some (.nor, fr, hp, n)
      | none => none
    | _ => none

/-- How it goes on. -/
def Cont (P : Program) (C : Cfg) (R : Fr → List Blk → Prop) (s : List It) : Out → Fr → List Blk → Prop
  | .nor, fr, hp => W P C R s fr hp
  | .ex id, fr, hp => ∃ s', popTo id s = some s' ∧ W P C R s' fr hp
  | .ret, fr, hp => R fr hp

/-- What is asked of what is told of a program's functions. -/
structure EnvOk (P : Program) (E : Env) : Prop where
  mixed : P.follows .mixedOrders = true
  fn : ∀ g fn c, P.funcs[g]? = some fn → fn.body = some c → 0 < (E.cf g).n → fnOk P g = true ∧ fn.ntmps = (E.cf g).n ∧ okC P (E.cf g) c = true
  orc : ∀ g args r, E.orc g args = some r → (∀ σ, args.map (AV.mp σ) = args) ∧ (∀ σ, AV.mp σ r = r) ∧ APure P g args r

theorem ACall.freezeN {f args bs post} (N : Nat) (h : ACall P f args bs fun r hp => ∃ y, fz hp bs.length N r = some y ∧ post y (hp.take bs.length)) : ACall P f args bs post := by
  intro X w vs hvs hrep hh
  refine (h X w vs hvs hrep hh).mono fun e w' => ?_
  rintro ⟨u, r, hp, he, h1, h2, h3, y, h4, h5⟩
  exact ⟨u, y, hp.take bs.length, he, fz_ok h2.sim bs.length N N (Nat.le_refl _) r y u h1 h4, h2.take _, h3.sub fun b => Tr_take, h5⟩

def EvOk (P : Program) (ec : Cfg → Code → Fr → List Blk → Nat → CdR) : Prop := ∀ C c fr hp n out fr' hp' n', ec C c fr hp n = some (out, fr', hp', n') → FF n fr → FH n hp →
  n ≤ n' ∧ FF n' fr' ∧ FH n' hp' ∧ ∀ (R : Fr → List Blk → Prop) (s : List It) (σ : Ren), (∀ τ, Ag n σ τ → Cont P C R s out (mpF τ fr') (mpH τ hp')) → W P C R (.code c :: s) (mpF σ fr) (mpH σ hp)

theorem mpH_take (σ : Ren) (hp : List Blk) (m : Nat) : mpH σ (hp.take m) = (mpH σ hp).take m := by simp [mpH, List.map_take]
theorem callE_ok {E : Env} (hE : EnvOk P E) {ec : Cfg → Code → Fr → List Blk → Nat → CdR} (hec : EvOk P ec) : CallOk P (callE P E ec) := by
  intro g args hp n r hp' n' h hl hh
  unfold callE at h
  split at h
  · rename_i r' ho
    cases h
    obtain ⟨h1, h2, h3⟩ := hE.orc g args r ho
    refine ⟨Nat.le_refl _, fun σ τ _ => by rw [h2, h2], hh, h3.ok, fun σ => ?_⟩
    rw [h1]
    refine (h3.at (mpH σ hp)).mono fun x hp0 => ?_
    rintro ⟨rfl, rfl⟩
    exact ⟨σ, Ag.refl _ _, (h2 σ).symm, rfl⟩
  · split at h
    · rename_i fn hfn
      split at h
      · rename_i c hc
        split at h
        · rename_i hb
          simp only [Bool.and_eq_true, decide_eq_true_eq] at hb
          obtain ⟨k1, k2, k3⟩ := hE.fn g fn c hfn hc hb.2
          generalize hres : ec (E.cf g) c (initF 0 args) hp n = res at h
          match res, h with
          | none, h => simp only [endE] at h; cases h
          | some (.ex _, _, _, _), h => simp only [endE] at h; cases h
          | some (.nor, fr1, hp1, n1), h
          | some (.ret, fr1, hp1, n1), h =>
            obtain ⟨h1, h2, h3, h4⟩ := hec _ _ _ _ _ _ _ _ _ hres (FF.init hl 0) hh
            simp only [endE] at h
            split at h
            · cases h
            · rename_i r0 hr0
              have hrF := resA_FA hr0 h2 h3
              split at h
              · cases h
                refine ⟨h1, hrF, h3, k1, fun σ => ?_⟩
                refine ACall.intro hE.mixed hfn hc k2 k3 (by simpa using hb.1) ?_
                rw [← mpF_init]
                refine h4 _ [] σ fun τ g => ?_
                first
                  | exact .done ⟨_, resA_mp τ hr0, τ, g, rfl, rfl⟩
                  | exact ⟨_, resA_mp τ hr0, τ, g, rfl, rfl⟩
              · split at h
                · rename_i y hy
                  cases h
                  refine ⟨h1, fz_FA hy hrF h3, h3.take _, k1, fun σ => ?_⟩
                  refine ACall.freezeN 12 (ACall.intro hE.mixed hfn hc k2 k3 (by simpa using hb.1) ?_)
                  rw [← mpF_init]
                  refine h4 _ [] σ fun τ g => ?_
                  have e : (mpH σ hp).length = hp.length := by simp [mpH]
                  first
                    | exact .done ⟨_, resA_mp τ hr0, _, by rw [e]; exact fz_mp τ hy, τ, g, rfl, by rw [e, mpH_take]⟩
                    | exact ⟨_, resA_mp τ hr0, _, by rw [e]; exact fz_mp τ hy, τ, g, rfl, by rw [e, mpH_take]⟩
                · cases h
        · cases h
      · cases h
    · cases h

theorem popTo_back (id : Nat) (J : Fr → List Blk → Prop) (s : List It) : popTo id (.back J :: s) = popTo id s := rfl
theorem popTo_code (id : Nat) (c : Code) (s : List It) : popTo id (.code c :: s) = popTo id s := rfl
theorem Cont.skip {C : Cfg} {R : Fr → List Blk → Prop} {s : List It} {x : It} (hx : ∀ id, popTo id (x :: s) = popTo id s) {out : Out} {fr : Fr} {hp : List Blk} (hn : ∀ (e : out = .nor), False) (h : Cont P C R s out fr hp) : Cont P C R (x :: s) out fr hp := by
  cases out with
  | nor => exact (hn rfl).elim
  | ex id => obtain ⟨s', h1, h2⟩ := h; exact ⟨s', by rw [hx]; exact h1, h2⟩
  | ret => exact h

theorem evC_ok {E : Env} (hE : EnvOk P E) : ∀ k, EvOk P (evC P E k) := by
  intro k
  induction k using Nat.strongRecOn with
  | _ k ihs =>
  cases k with
  | zero => intro C c fr hp n out fr' hp' n' h; simp only [evC] at h; cases h
  | succ k =>
  have ih : EvOk P (evC P E k) := ihs k (Nat.lt_succ_self k)
  have hcl := callE_ok hE ih
  intro C c fr hp n out fr' hp' n' h hf hh
  cases c <;> simp only [evC] at h <;> try (cases h; done)
  case skip => cases h; exact ⟨Nat.le_refl _, hf, hh, fun R s σ k => .skip (k σ (Ag.refl _ _))⟩
  case ret => cases h; exact ⟨Nat.le_refl _, hf, hh, fun R s σ k => .ret (k σ (Ag.refl _ _))⟩
  case exit id =>
    cases h
    refine ⟨Nat.le_refl _, hf, hh, fun R s σ k => ?_⟩
    obtain ⟨s', h1, h2⟩ := k σ (Ag.refl _ _)
    exact .exit h1 h2
  case seq a b =>
    split at h
    · rename_i fr1 hp1 n1 h1
      obtain ⟨a1, a2, a3, a4⟩ := ih _ _ _ _ _ _ _ _ _ h1 hf hh
      obtain ⟨b1, b2, b3, b4⟩ := ih _ _ _ _ _ _ _ _ _ h a2 a3
      exact ⟨Nat.le_trans a1 b1, b2, b3, fun R s σ k => .seq (a4 R (.code b :: s) σ fun τ g => b4 R s τ fun υ g2 => k υ (g.trans g2 a1))⟩
    · rename_i hne
      obtain ⟨a1, a2, a3, a4⟩ := ih _ _ _ _ _ _ _ _ _ h hf hh
      refine ⟨a1, a2, a3, fun R s σ k => .seq (a4 R (.code b :: s) σ fun τ g => Cont.skip (fun id => rfl) (fun e => ?_) (k τ g))⟩
      subst e
      exact hne _ _ _ h
  case cond x a b =>
    split at h
    · rename_i hx
      obtain ⟨a1, a2, a3, a4⟩ := ih _ _ _ _ _ _ _ _ _ h hf hh
      exact ⟨a1, a2, a3, fun R s σ k => .cond (t := true) (by rw [get_mpF, ev_mp, hx, mp_v]) (fun _ => a4 R s σ k) nofun⟩
    · rename_i hx
      obtain ⟨a1, a2, a3, a4⟩ := ih _ _ _ _ _ _ _ _ _ h hf hh
      exact ⟨a1, a2, a3, fun R s σ k => .cond (t := false) (by rw [get_mpF, ev_mp, hx, mp_v]) nofun (fun _ => a4 R s σ k)⟩
    · cases h
  case block id c =>
    split at h
    · rename_i i fr1 hp1 n1 h1
      obtain ⟨a1, a2, a3, a4⟩ := ih _ _ _ _ _ _ _ _ _ h1 hf hh
      split at h
      · rename_i hi
        simp only [decide_eq_true_eq] at hi
        cases h
        exact ⟨a1, a2, a3, fun R s σ k => .block (a4 R (.blk id :: s) σ fun τ g => ⟨s, by simp [popTo, hi], k τ g⟩)⟩
      · rename_i hi
        simp only [decide_eq_false_iff_not] at hi
        cases h
        refine ⟨a1, a2, a3, fun R s σ k => .block (a4 R (.blk id :: s) σ fun τ g => ?_)⟩
        obtain ⟨s', h1, h2⟩ := k τ g
        exact ⟨s', by simp only [popTo]; rw [if_neg (fun e => hi e.symm)]; exact h1, h2⟩
    · rename_i hne
      obtain ⟨a1, a2, a3, a4⟩ := ih _ _ _ _ _ _ _ _ _ h hf hh
      refine ⟨a1, a2, a3, fun R s σ k => .block (a4 R (.blk id :: s) σ fun τ g => ?_)⟩
      cases out with
      | nor => exact .endb (k τ g)
      | ex i => exact (hne _ _ _ _ h).elim
      | ret => exact k τ g
  case region id ops d =>
    cases d with
    | false =>
      simp only [evC] at h
      split at h
      · rename_i fr1 hp1 n1 h1
        cases h
        obtain ⟨a1, a2, a3, a4⟩ := seqO_ok hcl h1 hf hh
        exact ⟨a1, a2.keep _, a3, fun R s σ k => .reg (a4 C R id 0 s σ fun τ g => by have := k τ g; rwa [mpF_keep] at this)⟩
      · cases h
    | true =>
      simp only [evC] at h
      split at h
      · rename_i fr1 hp1 n1 h1
        cases h
        obtain ⟨a1, a2, a3, a4⟩ := drwO_ok hcl h1 hf hh
        exact ⟨a1, a2, a3, fun R s σ k => .draw (a4 C rfl rfl R id rfl s σ k)⟩
      · cases h
  case loop c =>
    have key : evC P E (k + 1) C (.loop c) fr hp n = some (out, fr', hp', n') := by simp only [evC]; exact h
    -- what is said of the end, wherever the loop begins
    have fin : ∀ j, j ≤ k + 1 → ∀ fr hp n, evC P E j C (.loop c) fr hp n = some (out, fr', hp', n') → FF n fr → FH n hp → n ≤ n' ∧ FF n' fr' ∧ FH n' hp' := by
      intro j
      induction j with
      | zero => intro _ fr hp n h; simp only [evC] at h; cases h
      | succ j ihj =>
        intro hj fr hp n h hf hh
        simp only [evC] at h
        split at h
        · rename_i fr1 hp1 n1 h1
          obtain ⟨a1, a2, a3, a4⟩ := ihs j (by omega) _ _ _ _ _ _ _ _ _ h1 hf hh
          obtain ⟨b1, b2, b3⟩ := ihj (by omega) _ _ _ h a2 a3
          exact ⟨Nat.le_trans a1 b1, b2, b3⟩
        · obtain ⟨a1, a2, a3, a4⟩ := ihs j (by omega) _ _ _ _ _ _ _ _ _ h hf hh
          exact ⟨a1, a2, a3⟩
    obtain ⟨f1, f2, f3⟩ := fin (k + 1) (Nat.le_refl _) fr hp n key hf hh
    refine ⟨f1, f2, f3, fun R s σ kk => ?_⟩
    refine .loop (fun m F H => m ≤ k + 1 ∧ ∃ fr hp n σ, evC P E m C (.loop c) fr hp n = some (out, fr', hp', n') ∧ FF n fr ∧ FH n hp ∧ F = mpF σ fr ∧ H = mpH σ hp ∧ ∀ τ, Ag n σ τ → Cont P C R s out (mpF τ fr') (mpH τ hp'))
      (k + 1) ⟨Nat.le_refl _, fr, hp, n, σ, key, hf, hh, rfl, rfl, kk⟩ ?_
    rintro m F H ⟨hm, fr, hp, n, σ, h, hf, hh, rfl, rfl, kk⟩
    cases m with
    | zero => simp only [evC] at h; cases h
    | succ m =>
      simp only [evC] at h
      split at h
      · rename_i fr1 hp1 n1 h1
        obtain ⟨a1, a2, a3, a4⟩ := ihs m (by omega) _ _ _ _ _ _ _ _ _ h1 hf hh
        exact a4 R _ σ fun τ g => .back ⟨m, Nat.lt_succ_self m, _, _, ⟨.inl rfl, (mpH τ hp1).length, by rw [List.take_length]⟩, by omega, fr1, hp1, n1, τ, h, a2, a3, rfl, rfl, fun υ g2 => kk υ (g.trans g2 a1)⟩
      · rename_i hne
        obtain ⟨a1, a2, a3, a4⟩ := ihs m (by omega) _ _ _ _ _ _ _ _ _ h hf hh
        exact a4 R _ σ fun τ g => Cont.skip (fun id => rfl) (fun e => by subst e; exact hne _ _ _ h) (kk τ g)

/-- A call that is run. -/
theorem run_pure {E : Env} (hE : EnvOk P E) {k : Nat} {g : FuncId} {args : List AV} {r : AV} {n : Nat} (hargs : nbL (nb 40) args = true) (hr : nb 40 r = true) (h : callE P E (evC P E k) g args [] 0 = some (r, [], n)) : APure P g args r := by
  obtain ⟨h1, h2, h3, h4, h5⟩ := callE_ok hE (evC_ok hE k) _ _ _ _ _ _ _ h (FL_nil _ _ hargs) (FH_nil _)
  refine ⟨h4, ?_⟩
  have := h5 (fun _ => none)
  rw [nbL_mp _ 40 _ hargs] at this
  refine this.mono fun x bs => ?_
  rintro ⟨τ, _, rfl, rfl⟩
  exact ⟨nb_mp τ 40 _ hr, rfl⟩
end Go.Ab
