/- The walk as a function that simp can follow; contracts of calls. -/
import Derived.Test.YthfjcplhjbaplaaAb17
set_option linter.all false
namespace Go.Ab
set_option linter.unusedVariables false
variable {P : Program}

/-- A call: what is to be shown. -/
def CallG (P : Program) (C : Cfg) (R : Fr → List Blk → Prop) (g : FuncId) (args : List AV) (dst : Option Nat) (s : List It) (fr : Fr) (hp : List Blk) : Prop :=
  ∃ post, fnOk P g = true ∧ ACall P g args hp post ∧ ∀ x hp', post x hp' → W P C R s (setO fr dst x) hp'

/-- A call in a region that draws: it is pure; or, where all orders are looked at, it is any. -/
def CallD (P : Program) (C : Cfg) (R : Fr → List Blk → Prop) (g : FuncId) (args : List AV) (dst : Option Nat) (s : List It) (fr : Fr) (hp : List Blk) : Prop :=
  ∃ x, fnOk P g = true ∧ (∀ hp, ACall P g args hp fun r hp' => r = x ∧ hp' = hp) ∧ W P C R s (setO fr dst x) hp

/-- One operation of a region that draws (b: all orders are looked at), and what is behind it. -/
inductive D1 (P : Program) (C : Cfg) (R : Fr → List Blk → Prop) (b : Bool) (ops : Array Oper) (id : Nat) (o : Oper) (p : Plan) (s : List It) (fr : Fr) (hp : List Blk) : Prop
  | yi (x : AV) (hy : Yi P C.ow C.ec ops o x (get fr) hp) (h : W P C R (.drw ops id p :: s) (setO fr o.dst x) hp)
  | store (hb : b = true) (t : TypeId) (x y : Operand) (hp' : List Blk) (hg : gd (get fr) ops o = some true) (hs : stOp o.op = some (t, x, y)) (hx : stA P hp t (ev (get fr) x) (ev (get fr) y) = some hp') (h : W P C R (.drw ops id p :: s) (setO fr o.dst .bad) hp')
  | new (hb : b = true) (nb : NewB) (hg : gd (get fr) ops o = some true) (hx : opn P (get fr) o.op = some nb) (he : eff C.ow C.ec o = 1 ∨ eff C.ow C.ec o = 2) (h : ∀ b, W P C R (.drw ops id p :: s) (setO fr o.dst (nb.ref hp.length b)) (hp ++ [nb.blk b]))
  | app (hb : b = true) (x y : Operand) (t t' : TypeId) (ab : AppB) (hg : gd (get fr) ops o = some true) (hs : appOp o.op = some (x, y, t, t')) (hx : appA P hp t t' (ev (get fr) x) (ev (get fr) y) = some ab) (h : ∀ b, W P C R (.drw ops id p :: s) (setO fr o.dst (.own ab.p ab.k b 0 ab.n)) (ab.hp b))
  | call (hb : b = true) (g : FuncId) (args : List AV) (hg : gd (get fr) ops o = some true) (hs : calleeA (get fr) o.op = some (g, args)) (hf : fnOk P g = true) (he : eff C.ow C.ec o = 2) (post : AV → List Blk → Prop) (hc : ACall P g args hp post) (h : ∀ x hp', post x hp' → W P C R (.drw ops id p :: s) (setO fr o.dst x) hp')

theorem D1.one {C R ops id i o p s fr hp} (ho : ops[i]? = some o) (h : D1 P C R false ops id o p s fr hp) : W P C R (.drw ops id (.one i p) :: s) fr hp := by
  cases h with
  | yi x hy h => exact .done1 x ho hy h
  | store hb => cases hb
  | new hb => cases hb
  | app hb => cases hb
  | call hb => cases hb
theorem D1.br {C R ops id i o p r s fr hp} (ho : ops[i]? = some o) (h : D1 P C R true ops id o p s fr hp) (hr : W P C R (.drw ops id (.br r) :: s) fr hp) : W P C R (.drw ops id (.br ((i, p) :: r)) :: s) fr hp := by
  cases h with
  | yi x hy h => exact .dyi x ho hy h hr
  | store hb t x y hp' hg hs hx h => exact .dstore t x y hp' ho hg hs hx h hr
  | new hb nb hg hx he h => exact .dnew nb ho hg hx he h hr
  | app hb x y t t' ab hg hs hx h => exact .dapp x y t t' ab ho hg hs hx h hr
  | call hb g args hg hs hf he post hc h => exact .dcall g args ho hg hs hf he post hc h hr

inductive Pn where
  | no
  | cnd (x : AV) (a b : Code)
  | gdd (g : Option (Bool × Bool)) (ops : Array Oper) (id i : Nat) (o : Oper) (r : List Oper)
  | val (x : Option AV) (ops : Array Oper) (id i : Nat) (o : Oper) (r : List Oper)
  | st (x : Option (List Blk)) (ops : Array Oper) (id i : Nat) (o : Oper) (r : List Oper)
  | nw (x : Option NewB) (ops : Array Oper) (id i : Nat) (o : Oper) (r : List Oper)
  | ap (x : Option AppB) (ops : Array Oper) (id i : Nat) (o : Oper) (r : List Oper)
  | cl (x : Option (FuncId × List AV)) (ops : Array Oper) (id i : Nat) (o : Oper) (r : List Oper)
  | dgd (g : Option (Bool × Bool)) (ops : Array Oper) (id : Nat) (o : Oper) (p : Plan) (b : Bool)
  | dk (e k : Nat) (ops : Array Oper) (id : Nat) (o : Oper) (p : Plan) (b : Bool)
  | dval (x : Option AV) (ops : Array Oper) (id : Nat) (o : Oper) (p : Plan) (b : Bool)
  | dst (x : Option (List Blk)) (ops : Array Oper) (id : Nat) (o : Oper) (p : Plan) (b : Bool)
  | dnw (x : Option NewB) (e : Nat) (ops : Array Oper) (id : Nat) (o : Oper) (p : Plan) (b : Bool)
  | dap (x : Option AppB) (ops : Array Oper) (id : Nat) (o : Oper) (p : Plan) (b : Bool)
  | dcl (x : Option (FuncId × List AV)) (e : Nat) (ops : Array Oper) (id : Nat) (o : Oper) (p : Plan) (b : Bool)

def isLit (ow : List Nat) (dst : Option Nat) : Bool := match dst with | some d => !ow.contains d | none => false

/-- What kind of operation: 0 pure, 1 store, 2 new, 3 append, 4 call. -/
def kind : Op → Nat
  | .store .. => 1
  | .alloc _ | .box .. | .buildSlice .. | .makeSlice .. => 2
  | .call c => match c.callee with
    | .builtin .append => 3
    | .value _ => 4
    | _ => 0
  | _ => 0

/-- A guard: what it looks at, and what that shall be. -/
def gdx (fr : Nat → AV) (ops : Array Oper) (o : Oper) : Option (Bool × Bool) :=
  match o.guard with
  | none => some (true, true)
  | some (j, w) => match (ops[j]?).bind (·.dst) with
    | some d => match fr d with
      | .v (.bool t) => some (t, w)
      | .tup [] => some (false, true)
      | _ => none
    | none => some (false, true)
theorem gdx_gd {fr ops o t w} (h : gdx fr ops o = some (t, w)) : gd fr ops o = some (t == w) := by
  unfold gdx at h
  unfold gd
  split at h
  · rename_i hg; rw [hg]; cases h; rfl
  · rename_i j v hg
    rw [hg]
    split at h
    · rename_i d hd
      simp only [hd]
      split at h
      · rename_i he; cases h; simp only [he]
      · rename_i he; cases h; simp only [he]; rfl
      · cases h
    · rename_i hd; cases h; simp only [hd]; rfl
/-- Two cases. -/
def sp (t : Bool) (a b : Prop) : Prop := (t = true → a) ∧ (t = false → b)
theorem sp_true (a b : Prop) : sp true a b = a := propext ⟨fun h => h.1 rfl, fun h => ⟨fun _ => h, nofun⟩⟩
theorem sp_false (a b : Prop) : sp false a b = b := propext ⟨fun h => h.2 rfl, fun h => ⟨nofun, fun _ => h⟩⟩
theorem sp_congr {t t' : Bool} {a a' b b' : Prop} (h : t = t') (ha : t' = true → a = a') (hb : t' = false → b = b') : sp t a b = sp t' a' b' := by
  subst h; cases t
  · rw [sp_false, sp_false, hb rfl]
  · rw [sp_true, sp_true, ha rfl]

def run (P : Program) (C : Cfg) (R : Fr → List Blk → Prop) : Nat → Pn → List It → Fr → List Blk → Prop
  | 0, .no, s, fr, hp => W P C R s fr hp
  | 0, _, _, _, _ => False
  | k + 1, .no, [], fr, hp => R fr hp
  | k + 1, .no, .code .skip :: s, fr, hp => run P C R k .no s fr hp
  | k + 1, .no, .code (.seq a b) :: s, fr, hp => run P C R k .no (.code a :: .code b :: s) fr hp
  | k + 1, .no, .code (.cond x a b) :: s, fr, hp => run P C R k (.cnd (ev (get fr) x) a b) s fr hp
  | k + 1, .no, .code (.block id c) :: s, fr, hp => run P C R k .no (.code c :: .blk id :: s) fr hp
  | k + 1, .no, .code (.exit id) :: s, fr, hp => (match popTo id s with | some s' => run P C R k .no s' fr hp | none => False)
  | k + 1, .no, .code .ret :: s, fr, hp => R fr hp
  | k + 1, .no, .code (.region id ops false) :: s, fr, hp => (match C.ec.contains (id + 1000000) with | true => W P C R (.code (.region id ops false) :: s) fr hp | false => run P C R k .no (.reg ops id 0 ops.toList :: s) fr hp)
  | k + 1, .no, .code (.loop c) :: s, fr, hp => W P C R (.code (.loop c) :: s) fr hp
  | k + 1, .no, .code (.region id ops true) :: s, fr, hp => (match C.ec.contains (id + 1000000) with | true => W P C R (.code (.region id ops true) :: s) fr hp | false => run P C R k .no (.drw ops id (C.pl id) :: s) fr hp)
  | k + 1, .no, .drw ops id .fin :: s, fr, hp => run P C R k .no s (keepF fr (C.kp id)) hp
  | k + 1, .no, .drw ops id (.one i p) :: s, fr, hp => (match ops[i]? with | some o => run P C R k (.dgd (gdx (get fr) ops o) ops id o p false) s fr hp | none => False)
  | k + 1, .no, .drw ops id (.br []) :: s, fr, hp => True
  | k + 1, .no, .drw ops id (.br ((i, p) :: r)) :: s, fr, hp => (match ops[i]? with | some o => run P C R k (.dgd (gdx (get fr) ops o) ops id o p true) s fr hp | none => False) ∧ run P C R k .no (.drw ops id (.br r) :: s) fr hp
  | k + 1, .dgd (some (t, true)) ops id o p b, s, fr, hp => sp t (run P C R k (.dk (eff C.ow C.ec o) (kind o.op) ops id o p b) s fr hp) (run P C R k .no (.drw ops id p :: s) (setO fr o.dst (.tup [])) hp)
  | k + 1, .dgd (some (t, false)) ops id o p b, s, fr, hp => sp t (run P C R k .no (.drw ops id p :: s) (setO fr o.dst (.tup [])) hp) (run P C R k (.dk (eff C.ow C.ec o) (kind o.op) ops id o p b) s fr hp)
  | k + 1, .dk 0 0 ops id o p b, s, fr, hp => run P C R k (.dval (opv P (get fr) hp o.op) ops id o p b) s fr hp
  | k + 1, .dk 2 1 ops id o p true, s, fr, hp => (match stOp o.op with
      | some (t, x, y) => run P C R k (.dst (stA P hp t (ev (get fr) x) (ev (get fr) y)) ops id o p true) s fr hp
      | none => False)
  | k + 1, .dk e 2 ops id o p b, s, fr, hp => run P C R k (.dnw (opn P (get fr) o.op) e ops id o p b) s fr hp
  | k + 1, .dk 2 3 ops id o p true, s, fr, hp => (match appOp o.op with
      | some (x, y, t, t') => run P C R k (.dap (appA P hp t t' (ev (get fr) x) (ev (get fr) y)) ops id o p true) s fr hp
      | none => False)
  | k + 1, .dk e 4 ops id o p b, s, fr, hp => run P C R k (.dcl (calleeA (get fr) o.op) e ops id o p b) s fr hp
  | k + 1, .dval (some x) ops id o p b, s, fr, hp => run P C R k .no (.drw ops id p :: s) (setO fr o.dst x) hp
  | k + 1, .dst (some hp') ops id o p true, s, fr, hp => run P C R k .no (.drw ops id p :: s) (setO fr o.dst .bad) hp'
  | k + 1, .dnw (some ⟨false, kk, t, c⟩) 0 ops id o p b, s, fr, hp => run P C R k .no (.drw ops id p :: s) (setO fr o.dst (.sl kk c)) hp
  | k + 1, .dnw (some ⟨true, kk, t, c⟩) 1 ops id o p true, s, fr, hp => ∀ b : Nat, run P C R k .no (.drw ops id p :: s) (setO fr o.dst (.ptr hp.length kk (some b) 0 0)) (hp ++ [⟨true, some b, kk, t, c⟩])
  | k + 1, .dnw (some ⟨false, kk, t, c⟩) 2 ops id o p true, s, fr, hp => ∀ b : Nat, run P C R k .no (.drw ops id p :: s) (setO fr o.dst (.own hp.length kk (some b) 0 c.length)) (hp ++ [⟨true, some b, kk, t, c⟩])
  | k + 1, .dap (some ⟨q, kk, m, h⟩) ops id o p true, s, fr, hp => ∀ b : Option Nat, run P C R k .no (.drw ops id p :: s) (setO fr o.dst (.own q kk b 0 m)) (h b)
  | k + 1, .dcl (some (g, args)) 0 ops id o p b, s, fr, hp => CallD P C R g args o.dst (.drw ops id p :: s) fr hp
  | k + 1, .dcl (some (g, args)) 2 ops id o p true, s, fr, hp => CallG P C R g args o.dst (.drw ops id p :: s) fr hp
  | k + 1, .no, .blk id :: s, fr, hp => run P C R k .no s fr hp
  | k + 1, .no, .back J :: s, fr, hp => J fr hp
  | k + 1, .no, .reg ops id i [] :: s, fr, hp => run P C R k .no s (keepF fr (C.kp id)) hp
  | k + 1, .no, .reg ops id i (o :: r) :: s, fr, hp => run P C R k (.gdd (gdx (get fr) ops o) ops id i o r) s fr hp
  | k + 1, .cnd (.v (.bool t)) a b, s, fr, hp => sp t (run P C R k .no (.code a :: s) fr hp) (run P C R k .no (.code b :: s) fr hp)
  | k + 1, .gdd (some (t, true)) ops id i o r, s, fr, hp => sp t (match kind o.op with
    | 0 => run P C R k (.val (opv P (get fr) hp o.op) ops id i o r) s fr hp
    | 1 => match stOp o.op with
      | some (t, x, y) => run P C R k (.st (stA P hp t (ev (get fr) x) (ev (get fr) y)) ops id i o r) s fr hp
      | none => False
    | 2 => run P C R k (.nw (opn P (get fr) o.op) ops id i o r) s fr hp
    | 3 => match appOp o.op with
      | some (x, y, t, t') => run P C R k (.ap (appA P hp t t' (ev (get fr) x) (ev (get fr) y)) ops id i o r) s fr hp
      | none => False
    | _ => run P C R k (.cl (calleeA (get fr) o.op) ops id i o r) s fr hp) (run P C R k .no (.reg ops id (i + 1) r :: s) (setO fr o.dst (.tup [])) hp)
  | k + 1, .gdd (some (t, false)) ops id i o r, s, fr, hp => sp t (run P C R k .no (.reg ops id (i + 1) r :: s) (setO fr o.dst (.tup [])) hp) (match kind o.op with
    | 0 => run P C R k (.val (opv P (get fr) hp o.op) ops id i o r) s fr hp
    | 1 => match stOp o.op with
      | some (t, x, y) => run P C R k (.st (stA P hp t (ev (get fr) x) (ev (get fr) y)) ops id i o r) s fr hp
      | none => False
    | 2 => run P C R k (.nw (opn P (get fr) o.op) ops id i o r) s fr hp
    | 3 => match appOp o.op with
      | some (x, y, t, t') => run P C R k (.ap (appA P hp t t' (ev (get fr) x) (ev (get fr) y)) ops id i o r) s fr hp
      | none => False
    | _ => run P C R k (.cl (calleeA (get fr) o.op) ops id i o r) s fr hp)
  | k + 1, .val (some x) ops id i o r, s, fr, hp => run P C R k .no (.reg ops id (i + 1) r :: s) (setO fr o.dst x) hp
  | k + 1, .st (some hp') ops id i o r, s, fr, hp => run P C R k .no (.reg ops id (i + 1) r :: s) (setO fr o.dst .bad) hp'
  | k + 1, .nw (some ⟨ptr, kk, t, c⟩) ops id i o r, s, fr, hp =>
    (match ptr || !isLit C.ow o.dst with
     | true => ∀ b : Nat, run P C R k .no (.reg ops id (i + 1) r :: s) (setO fr o.dst (match ptr with | true => .ptr hp.length kk (some b) 0 0 | false => .own hp.length kk (some b) 0 c.length)) (hp ++ [⟨true, some b, kk, t, c⟩])
     | false => run P C R k .no (.reg ops id (i + 1) r :: s) (setO fr o.dst (.sl kk c)) hp)
  | k + 1, .ap (some ⟨p, kk, m, h⟩) ops id i o r, s, fr, hp => ∀ b : Option Nat, run P C R k .no (.reg ops id (i + 1) r :: s) (setO fr o.dst (.own p kk b 0 m)) (h b)
  | k + 1, .cl (some (g, args)) ops id i o r, s, fr, hp => CallG P C R g args o.dst (.reg ops id (i + 1) r :: s) fr hp
  | _ + 1, _, _, _, _ => False

/-- What a pending thing stands for. -/
def PnOk (P : Program) (C : Cfg) (p : Pn) (fr : Fr) (hp : List Blk) : Prop :=
  match p with
  | .no | .cnd _ _ _ => True
  | .gdd g ops _ _ o _ => g = gdx (get fr) ops o
  | .val x ops _ _ o _ => gd (get fr) ops o = some true ∧ x = opv P (get fr) hp o.op
  | .st x ops _ _ o _ => gd (get fr) ops o = some true ∧ ∃ t y z, stOp o.op = some (t, y, z) ∧ x = stA P hp t (ev (get fr) y) (ev (get fr) z)
  | .nw x ops _ _ o _ => gd (get fr) ops o = some true ∧ x = opn P (get fr) o.op
  | .ap x ops _ _ o _ => gd (get fr) ops o = some true ∧ ∃ t t' y z, appOp o.op = some (y, z, t, t') ∧ x = appA P hp t t' (ev (get fr) y) (ev (get fr) z)
  | .cl x ops _ _ o _ => gd (get fr) ops o = some true ∧ x = calleeA (get fr) o.op
  | .dgd g ops _ o _ _ => g = gdx (get fr) ops o
  | .dk e k ops _ o _ _ => gd (get fr) ops o = some true ∧ e = eff C.ow C.ec o
  | .dval x ops _ o _ _ => gd (get fr) ops o = some true ∧ eff C.ow C.ec o = 0 ∧ x = opv P (get fr) hp o.op
  | .dst x ops _ o _ _ => gd (get fr) ops o = some true ∧ ∃ t y z, stOp o.op = some (t, y, z) ∧ x = stA P hp t (ev (get fr) y) (ev (get fr) z)
  | .dnw x e ops _ o _ _ => gd (get fr) ops o = some true ∧ e = eff C.ow C.ec o ∧ x = opn P (get fr) o.op
  | .dap x ops _ o _ _ => gd (get fr) ops o = some true ∧ ∃ t t' y z, appOp o.op = some (y, z, t, t') ∧ x = appA P hp t t' (ev (get fr) y) (ev (get fr) z)
  | .dcl x e ops _ o _ _ => gd (get fr) ops o = some true ∧ e = eff C.ow C.ec o ∧ x = calleeA (get fr) o.op
def PnW (P : Program) (C : Cfg) (R : Fr → List Blk → Prop) (p : Pn) (s : List It) (fr : Fr) (hp : List Blk) : Prop :=
  match p with
  | .no => W P C R s fr hp
  | .cnd x a b => ∀ c, x = ev (get fr) c → W P C R (.code (.cond c a b) :: s) fr hp
  | .gdd _ ops id i o r | .val _ ops id i o r | .st _ ops id i o r | .nw _ ops id i o r | .ap _ ops id i o r | .cl _ ops id i o r => W P C R (.reg ops id i (o :: r) :: s) fr hp
  | .dgd _ ops id o p b | .dk _ _ ops id o p b | .dval _ ops id o p b | .dst _ ops id o p b | .dnw _ _ ops id o p b | .dap _ ops id o p b | .dcl _ _ ops id o p b => D1 P C R b ops id o p s fr hp

theorem run_sound {C : Cfg} {R : Fr → List Blk → Prop} : ∀ (k : Nat) (p : Pn) (s : List It) (fr : Fr) (hp : List Blk), PnOk P C p fr hp → run P C R k p s fr hp → PnW P C R p s fr hp := by
  intro k
  induction k with
  | zero => intro p s fr hp ho h; cases p <;> simp only [run] at h; exact h
  | succ k ih =>
    intro p s fr hp ho h
    have W0 : ∀ s fr hp, run P C R k .no s fr hp → W P C R s fr hp := fun s fr hp h => ih .no s fr hp trivial h
    cases p with
    | no =>
      cases s with
      | nil => simp only [run] at h; exact .done h
      | cons x s =>
        cases x with
        | code c =>
          cases c with
          | skip => simp only [run] at h; exact .skip (W0 _ _ _ h)
          | region id ops d =>
            cases d with
            | false =>
              simp only [run] at h
              split at h
              · exact h
              · exact .reg (W0 _ _ _ h)
            | true =>
              simp only [run] at h
              split at h
              · exact h
              · exact .draw (W0 _ _ _ h)
          | seq a b => simp only [run] at h; exact .seq (W0 _ _ _ h)
          | cond x a b => simp only [run] at h; exact (ih (.cnd (ev (get fr) x) a b) s fr hp trivial h) _ rfl
          | block id c => simp only [run] at h; exact .block (W0 _ _ _ h)
          | loop c => simp only [run] at h; exact h
          | exit id =>
            simp only [run] at h
            split at h
            · exact .exit (by assumption) (W0 _ _ _ h)
            · cases h
          | ret => simp only [run] at h; exact .ret h
          | _ => simp only [run] at h
        | blk id => simp only [run] at h; exact .endb (W0 _ _ _ h)
        | back J => simp only [run] at h; exact .back h
        | reg ops id i rest =>
          cases rest with
          | nil => simp only [run] at h; exact .regE (W0 _ _ _ h)
          | cons o r => simp only [run] at h; exact (ih (.gdd (gdx (get fr) ops o) ops id i o r) s fr hp rfl h :)
        | drw ops id p =>
          cases p with
          | fin => simp only [run] at h; exact .dfin (W0 _ _ _ h)
          | one i p =>
            simp only [run] at h
            split at h
            · rename_i o ho'; exact D1.one ho' (ih (.dgd (gdx (get fr) ops o) ops id o p false) s fr hp rfl h)
            · cases h
          | br l =>
            cases l with
            | nil => exact .dnil
            | cons a l =>
              obtain ⟨i, p⟩ := a
              simp only [run] at h
              obtain ⟨h1, h2⟩ := h
              split at h1
              · rename_i o ho'; exact D1.br ho' (ih (.dgd (gdx (get fr) ops o) ops id o p true) s fr hp rfl h1) (W0 _ _ _ h2)
              · cases h1
    | dgd g ops id o p b =>
      have hF : gd (get fr) ops o = some false → run P C R k .no (.drw ops id p :: s) (setO fr o.dst (.tup [])) hp → D1 P C R b ops id o p s fr hp := fun hg h => .yi (.tup []) (.inr ⟨hg, rfl⟩) (W0 _ _ _ h)
      have hT : gd (get fr) ops o = some true → run P C R k (.dk (eff C.ow C.ec o) (kind o.op) ops id o p b) s fr hp → D1 P C R b ops id o p s fr hp := fun hg h => (ih (.dk (eff C.ow C.ec o) (kind o.op) ops id o p b) s fr hp ⟨hg, rfl⟩ h :)
      cases g with
      | none => simp only [run] at h
      | some g =>
        obtain ⟨t, v⟩ := g
        have hg := gdx_gd ho.symm
        cases t <;> cases v <;> simp only [run, sp_true, sp_false] at h
        · exact hT hg h
        · exact hF hg h
        · exact hF hg h
        · exact hT hg h
    | dk e kd ops id o p b =>
      obtain ⟨hg, he⟩ := ho
      have hst : ∀ b, (match stOp o.op with
          | some (t, x, y) => run P C R k (.dst (stA P hp t (ev (get fr) x) (ev (get fr) y)) ops id o p b) s fr hp
          | none => False) → D1 P C R b ops id o p s fr hp := fun b h => by
        split at h
        · rename_i t x y hs; exact (ih (.dst (stA P hp t (ev (get fr) x) (ev (get fr) y)) ops id o p b) s fr hp ⟨hg, _, _, _, hs, rfl⟩ h :)
        · cases h
      have hap : ∀ b, (match appOp o.op with
          | some (x, y, t, t') => run P C R k (.dap (appA P hp t t' (ev (get fr) x) (ev (get fr) y)) ops id o p b) s fr hp
          | none => False) → D1 P C R b ops id o p s fr hp := fun b h => by
        split at h
        · rename_i x y t t' hs; exact (ih (.dap (appA P hp t t' (ev (get fr) x) (ev (get fr) y)) ops id o p b) s fr hp ⟨hg, _, _, _, _, hs, rfl⟩ h :)
        · cases h
      rcases e with _ | _ | _ | e <;> rcases kd with _ | _ | _ | _ | _ | kd <;> cases b <;> (try simp only [run] at h) <;> first
        | exact (show False from h).elim
        | (exact (ih (.dval (opv P (get fr) hp o.op) ops id o p _) s fr hp ⟨hg, he.symm, rfl⟩ h :))
        | (exact (ih (.dnw (opn P (get fr) o.op) _ ops id o p _) s fr hp ⟨hg, he, rfl⟩ h :))
        | (exact (ih (.dcl (calleeA (get fr) o.op) _ ops id o p _) s fr hp ⟨hg, he, rfl⟩ h :))
        | exact hst _ h
        | exact hap _ h
    | dval x ops id o p b =>
      obtain ⟨hg, he, hx⟩ := ho
      cases x with
      | none => simp only [run] at h
      | some x => simp only [run] at h; exact .yi x (.inl ⟨hg, he, .inl hx.symm⟩) (W0 _ _ _ h)
    | dst x ops id o p b =>
      obtain ⟨hg, t, y, z, hs, hx⟩ := ho
      cases x with
      | none => simp only [run] at h
      | some x =>
        cases b with
        | false => simp only [run] at h
        | true => simp only [run] at h; exact .store rfl t y z x hg hs hx.symm (W0 _ _ _ h)
    | dnw x e ops id o p b =>
      obtain ⟨hg, he, hx⟩ := ho
      cases x with
      | none => simp only [run] at h
      | some x =>
        obtain ⟨ptr, kk, t, c⟩ := x
        rcases e with _ | _ | _ | e <;> cases ptr <;> cases b <;> (try simp only [run] at h) <;> first
          | exact (show False from h).elim
          | exact .yi _ (.inl ⟨hg, he.symm, .inr (.inl ⟨_, hx.symm, rfl, rfl⟩)⟩) (W0 _ _ _ h)
          | exact .new rfl _ hg hx.symm (.inl he.symm) fun b => W0 _ _ _ (h b)
          | exact .new rfl _ hg hx.symm (.inr he.symm) fun b => W0 _ _ _ (h b)
    | dap x ops id o p b =>
      obtain ⟨hg, t, t', y, z, hs, hx⟩ := ho
      cases x with
      | none => simp only [run] at h
      | some x =>
        obtain ⟨q, kk, m, hh⟩ := x
        cases b with
        | false => simp only [run] at h
        | true => simp only [run] at h; exact .app rfl y z t t' _ hg hs hx.symm fun b => W0 _ _ _ (h b)
    | dcl x e ops id o p b =>
      obtain ⟨hg, he, hx⟩ := ho
      cases x with
      | none => simp only [run] at h
      | some x =>
        obtain ⟨g, args⟩ := x
        rcases e with _ | _ | _ | e <;> cases b <;> (try simp only [run] at h) <;> first
          | exact (show False from h).elim
          | (obtain ⟨x, h1, h2, h3⟩ := h; exact .yi x (.inl ⟨hg, he.symm, .inr (.inr ⟨g, args, hx.symm, h1, h2⟩)⟩) h3)
          | (obtain ⟨post, h1, h2, h3⟩ := h; exact .call rfl g args hg hx.symm h1 he.symm post h2 h3)
    | cnd x a b =>
      intro c hc
      cases x with
      | v x =>
        cases x with
        | bool t =>
          simp only [run] at h
          exact .cond hc.symm (fun ht => W0 _ _ _ (h.1 ht)) fun ht => W0 _ _ _ (h.2 ht)
        | _ => simp only [run] at h
      | _ => simp only [run] at h
    | gdd g ops id i o r =>
      have hT : gd (get fr) ops o = some true → (match kind o.op with
    | 0 => run P C R k (.val (opv P (get fr) hp o.op) ops id i o r) s fr hp
    | 1 => match stOp o.op with
      | some (t, x, y) => run P C R k (.st (stA P hp t (ev (get fr) x) (ev (get fr) y)) ops id i o r) s fr hp
      | none => False
    | 2 => run P C R k (.nw (opn P (get fr) o.op) ops id i o r) s fr hp
    | 3 => match appOp o.op with
      | some (x, y, t, t') => run P C R k (.ap (appA P hp t t' (ev (get fr) x) (ev (get fr) y)) ops id i o r) s fr hp
      | none => False
    | _ => run P C R k (.cl (calleeA (get fr) o.op) ops id i o r) s fr hp) → W P C R (.reg ops id i (o :: r) :: s) fr hp := fun hg h => by
        split at h
        · exact (ih (.val (opv P (get fr) hp o.op) ops id i o r) s fr hp ⟨hg, rfl⟩ h :)
        · split at h
          · rename_i t x y hs; exact (ih (.st (stA P hp t (ev (get fr) x) (ev (get fr) y)) ops id i o r) s fr hp ⟨hg, _, _, _, hs, rfl⟩ h :)
          · cases h
        · exact (ih (.nw (opn P (get fr) o.op) ops id i o r) s fr hp ⟨hg, rfl⟩ h :)
        · split at h
          · rename_i x y t t' hs; exact (ih (.ap (appA P hp t t' (ev (get fr) x) (ev (get fr) y)) ops id i o r) s fr hp ⟨hg, _, _, _, _, hs, rfl⟩ h :)
          · cases h
        · exact (ih (.cl (calleeA (get fr) o.op) ops id i o r) s fr hp ⟨hg, rfl⟩ h :)
      cases g with
      | none => simp only [run] at h
      | some g =>
        obtain ⟨t, v⟩ := g
        have hg := gdx_gd ho.symm
        cases t <;> cases v <;> simp only [run, sp_true, sp_false] at h
        · exact hT hg h
        · exact .nop hg (W0 _ _ _ h)
        · exact .nop hg (W0 _ _ _ h)
        · exact hT hg h
    | val x ops id i o r =>
      cases x with
      | none => simp only [run] at h
      | some x => simp only [run] at h; exact .pure ho.1 ho.2.symm (W0 _ _ _ h)
    | st x ops id i o r =>
      cases x with
      | none => simp only [run] at h
      | some x =>
        simp only [run] at h
        obtain ⟨h1, t, y, z, h2, h3⟩ := ho
        exact .store h1 h2 h3.symm (W0 _ _ _ h)
    | nw x ops id i o r =>
      cases x with
      | none => simp only [run] at h
      | some x =>
        obtain ⟨ptr, kk, t, c⟩ := x
        simp only [run] at h
        split at h
        · refine .new ho.1 ho.2.symm fun b => ?_
          have := W0 _ _ _ (h b)
          cases ptr <;> exact this
        · rename_i hb
          refine .lit ho.1 ho.2.symm ?_ (W0 _ _ _ h)
          cases ptr
          · rfl
          · cases hb
    | ap x ops id i o r =>
      cases x with
      | none => simp only [run] at h
      | some x =>
        obtain ⟨p, kk, m, hh⟩ := x
        simp only [run] at h
        obtain ⟨h1, t, t', y, z, h2, h3⟩ := ho
        exact .app h1 h2 h3.symm fun b => W0 _ _ _ (h b)
    | cl x ops id i o r =>
      cases x with
      | none => simp only [run] at h
      | some x =>
        obtain ⟨g, args⟩ := x
        simp only [run] at h
        obtain ⟨post, h1, h2, h3⟩ := h
        exact .call ho.1 ho.2.symm h1 post h2 h3
/-- Walk so many steps. -/
theorem W.go {C : Cfg} {R : Fr → List Blk → Prop} (k : Nat) {s : List It} {fr : Fr} {hp : List Blk} (h : run P C R k .no s fr hp) : W P C R s fr hp :=
  run_sound k .no s fr hp trivial h

theorem CallG.pure {C R g args x dst s fr hp} (h : APure P g args x) (k : W P C R s (setO fr dst x) hp) : CallG P C R g args dst s fr hp :=
  ⟨_, h.ok, h.at hp, fun y hp' hy => by obtain ⟨rfl, rfl⟩ := hy; exact k⟩
theorem CallD.pure {C R g args x dst s fr hp} (h : APure P g args x) (k : W P C R s (setO fr dst x) hp) : CallD P C R g args dst s fr hp :=
  ⟨x, h.ok, fun hp => h.at hp, k⟩
theorem okE {C : Cfg} {o : Option Code} {c : Code} (h : o = some c) (hk : okC P C (o.getD .skip) = true) : okC P C c = true := by subst h; exact hk
/-- What stands for no less. -/
def le1 (x y : AV) : Prop :=
  match x with
  | .nils => (match y with | .sl _ l => l = [] | .nils => True | _ => False)
  | x => x = y
def leL : List AV → List AV → Prop
  | [], [] => True
  | x :: l, y :: m => le1 x y ∧ leL l m
  | _, _ => False
def leA (x y : AV) : Prop :=
  match x with
  | .tup l => (match y with | .tup m => leL l m | _ => False)
  | .agg l => (match y with | .agg m => leL l m | _ => False)
  | x => le1 x y
theorem le1_ok {Y : Nat → Prop} {w : World} {x y : AV} {u : Value} (h : le1 x y) (hx : Rep Y w x u) : Rep Y w y u ∧ (oneA x = true → oneA y = true) := by
  unfold le1 at h
  split at h
  · split at h
    · subst h; cases hx; exact ⟨.sl0 _ _ _, fun _ => rfl⟩
    · exact ⟨hx, id⟩
    · exact h.elim
  · subst h; exact ⟨hx, id⟩
theorem leL_ok : ∀ {l m : List AV}, leL l m → l.length = m.length ∧ ∀ (i : Nat) y, m[i]? = some y → ∃ x, l[i]? = some x ∧ le1 x y
  | [], [], _ => ⟨rfl, fun i y hy => by simp at hy⟩
  | x :: l, y :: m, h => by
    obtain ⟨h1, h2⟩ := leL_ok h.2
    refine ⟨by simp [h1], fun i z hz => ?_⟩
    cases i with
    | zero => simp at hz; subst hz; exact ⟨x, rfl, h.1⟩
    | succ i => exact h2 i z (by simpa using hz)
  | [], _ :: _, h => h.elim
  | _ :: _, [], h => h.elim
theorem leA_ok {Y : Nat → Prop} {w : World} {x y : AV} {u : Value} (h : leA x y) (hx : Rep Y w x u) : Rep Y w y u := by
  unfold leA at h
  split at h
  · split at h
    · obtain ⟨h1, h2⟩ := leL_ok h
      cases hx with
      | tup l vs hn hh => exact .tup _ _ (by omega) fun i y v hy hv => by obtain ⟨x, g1, g2⟩ := h2 i y hy; exact (le1_ok g2 (hh i x v g1 hv)).1
    · exact h.elim
  · split at h
    · obtain ⟨h1, h2⟩ := leL_ok h
      cases hx with
      | agg l vs hn ho hh => exact .agg _ _ (by omega) (fun i y hy => by
          obtain ⟨x, g1, g2⟩ := h2 i y hy
          have hlt : i < vs.size := by rw [hn]; exact (List.getElem?_eq_some_iff.1 g1).1
          exact (le1_ok g2 (hh i x vs[i] g1 (Array.getElem?_eq_getElem hlt))).2 (ho i x g1)) fun i y v hy hv => by obtain ⟨x, g1, g2⟩ := h2 i y hy; exact (le1_ok g2 (hh i x v g1 hv)).1
    · exact h.elim
  · exact (le1_ok h hx).1
theorem ACall.le {f : FuncId} {args : List AV} {bs : List Blk} {x : AV} {post : List Blk → Prop} (h : ACall P f args bs fun r hp => leA r x ∧ post hp) : ACall P f args bs fun r hp => r = x ∧ post hp := by
  intro X w vs hvs hrep hh
  refine (h X w vs hvs hrep hh).mono fun e w' => ?_
  rintro ⟨u, r, hp, he, h1, h2, h3, h4, h5⟩
  exact ⟨u, x, hp, he, leA_ok h4 h1, h2, h3, rfl, h5⟩
/-- A walk's end: what comes back, once nobody writes it any more. -/
def RP (P : Program) (rs : List ResultVar) (x : AV) (fr : Fr) (hp : List Blk) : Prop := match (resA P rs fr hp).bind (fz hp 0 6) with | some y => leA y x | none => False
/-- A function that owns nothing at first, and hands back what nobody writes. -/
theorem APure.intro {f : FuncId} {fn : Func} {c : Code} {rs : List ResultVar} {C : Cfg} {args : List AV} {x : AV} (hk : fnOk P f = true) (hm : P.follows .mixedOrders = true)
    (hf : P.funcs[f]? = some fn) (hb : fn.body = some c) (hr : fn.results.toList = rs) (hn : fn.ntmps = C.n) (hok : okC P C c = true) (hl : args.length ≤ C.n)
    (h : W P C (RP P rs x) [.code c] (initF 0 args) []) : APure P f args x := by
  subst hr
  refine ⟨hk, ACall.le (ACall.freeze ?_)⟩
  refine (ACall.intro (post := fun r hp => ∃ y, fz hp 0 6 r = some y ∧ leA y x) hm hf hb hn hok hl ?_).mono ?_
  · have e : RP P fn.results.toList x = fun fr hp => ∃ r, resA P fn.results.toList fr hp = some r ∧ ∃ y, fz hp 0 6 r = some y ∧ leA y x := by
      funext fr hp
      simp only [RP, eq_iff_iff]
      cases h1 : resA P fn.results.toList fr hp with
      | none => simp
      | some r =>
        cases h2 : fz hp 0 6 r with
        | none => simp [h2]
        | some y => simp [h2]
    rw [← e]; exact h
  · rintro r hp ⟨y, h1, h2⟩
    exact ⟨y, h1, h2, by simp⟩
end Go.Ab
