/- A function that runs code at known values: whole functions, and that it is so. -/
import Derived.Test.YthfjcplhjbaplaaAbE3
set_option linter.all false
namespace Go.Ab
set_option linter.unusedVariables false
variable {P : Program}

inductive Out where
  | nor | ex (id : Nat) | ret
abbrev CdR := Option (Out × Fr × List Blk × Nat)

/-- Does nothing of a value lie in what a call owns? -/
def nbL (nb : AV → Bool) : List AV → Bool
  | [] => true
  | x :: l => nb x && nbL nb l
def nb : Nat → AV → Bool
  | 0, _ => false
  | _ + 1, .bad => true
  | _ + 1, .v _ => true
  | f + 1, .agg l => nbL (nb f) l
  | f + 1, .tup l => nbL (nb f) l
  | f + 1, .sl _ l => nbL (nb f) l
  | _ + 1, .nils => true
  | _ + 1, .own .. => false
  | _ + 1, .ptr .. => false
  | f + 1, .rp d _ => nb f d
  | f + 1, .fn _ a c => nbL (nb f) a && nbL (nb f) c
theorem nb_mp (σ : Ren) : ∀ (f : Nat) (x : AV), nb f x = true → AV.mp σ x = x := by
  intro f
  induction f with
  | zero => intro x h; cases h
  | succ f ih =>
    have hl : ∀ l : List AV, nbL (nb f) l = true → l.map (AV.mp σ) = l := by
      intro l
      induction l with
      | nil => intro _; rfl
      | cons a l ihl =>
        intro h
        simp only [nbL, Bool.and_eq_true] at h
        rw [List.map_cons, ih a h.1, ihl h.2]
    intro x h
    cases x <;> simp only [nb] at h
    case bad => exact mp_bad σ
    case v x => exact mp_v σ x
    case agg l => rw [mp_agg, hl l h]
    case tup l => rw [mp_tup, hl l h]
    case sl k l => rw [mp_sl, hl l h]
    case nils => exact mp_nils σ
    case own => cases h
    case ptr => cases h
    case rp d j => rw [mp_rp, ih d h]
    case fn g a c =>
      simp only [Bool.and_eq_true] at h
      rw [mp_fn, hl a h.1, hl c h.2]
theorem nbL_mp (σ : Ren) (f : Nat) : ∀ l : List AV, nbL (nb f) l = true → l.map (AV.mp σ) = l
  | [], _ => rfl
  | a :: l, h => by
    simp only [nbL, Bool.and_eq_true] at h
    rw [List.map_cons, nb_mp σ f a h.1, nbL_mp σ f l h.2]

/-- One operation of a region that does not draw. -/
def stepO (P : Program) (ow : List Nat) (cl : CallF) (ops : Array Oper) (o : Oper) (fr : Fr) (hp : List Blk) (n : Nat) : StR :=
  match gdx (get fr) ops o with
  | none => none
  | some (t, w) => match t == w with
    | false => some (setO fr o.dst (.tup []), hp, n)
    | true => doO P (!isLit ow o.dst) cl o fr hp n
def seqO (P : Program) (ow : List Nat) (cl : CallF) (ops : Array Oper) : List Oper → Fr → List Blk → Nat → StR
  | [], fr, hp, n => some (fr, hp, n)
  | o :: r, fr, hp, n => match stepO P ow cl ops o fr hp n with
    | some (fr, hp, n) => seqO P ow cl ops r fr hp n
    | none => none

/-- What an operation yields that owns nothing. -/
def yiO (P : Program) (ow ec : List Nat) (cl : CallF) (ops : Array Oper) (o : Oper) (fr : Fr) (hp : List Blk) : Option AV :=
  match gdx (get fr) ops o with
  | none => none
  | some (t, w) => match t == w with
    | false => some (.tup [])
    | true => match eff ow ec o with
      | 0 => match kind o.op with
        | 0 => opv P (get fr) hp o.op
        | 2 => match opn P (get fr) o.op with
          | some nb => match nb.ptr with
            | true => none
            | false => some (.sl nb.k nb.c)
          | none => none
        | 4 => match calleeA (get fr) o.op with
          | some (g, args) => match nbL (nb 40) args with
            | true => match cl g args [] 0 with
              | some (r, [], _) => match nb 40 r with
                | true => some r
                | false => none
              | _ => none
            | false => none
          | none => none
        | _ => none
      | _ => none

/-- Are two values seen to be the same? -/
def eqV : Value → Value → Bool
  | .int k a, .int k' b => decide (k = k') && decide (a = b)
  | .string a, .string b => decide (a = b)
  | .bool a, .bool b => a == b
  | .pointer none, .pointer none => true
  | _, _ => false
theorem eqV_ok {u v : Value} (h : eqV u v = true) : u = v := by
  unfold eqV at h
  split at h <;> simp_all
def eqB (b c : Option Nat) : Bool := decide (b = c)
def eqL (e : AV → AV → Bool) : List AV → List AV → Bool
  | [], [] => true
  | x :: l, y :: m => e x y && eqL e l m
  | _, _ => false
def eqX : Nat → AV → AV → Bool
  | 0, _, _ => false
  | _ + 1, .bad, .bad => true
  | _ + 1, .v x, .v y => eqV x y
  | d + 1, .agg l, .agg m => eqL (eqX d) l m
  | d + 1, .tup l, .tup m => eqL (eqX d) l m
  | d + 1, .sl k l, .sl k' m => decide (k = k') && eqL (eqX d) l m
  | _ + 1, .nils, .nils => true
  | _ + 1, .own p k b o n, .own p' k' b' o' n' => decide (p = p') && decide (k = k') && decide (b = b') && decide (o = o') && decide (n = n')
  | _ + 1, .ptr p k b i j, .ptr p' k' b' i' j' => decide (p = p') && decide (k = k') && decide (b = b') && decide (i = i') && decide (j = j')
  | d + 1, .rp x j, .rp y j' => eqX d x y && decide (j = j')
  | d + 1, .fn (.func f) a c, .fn (.func f') a' c' => decide (f = f') && eqL (eqX d) a a' && eqL (eqX d) c c'
  | _ + 1, _, _ => false
theorem eqL_ok {e : AV → AV → Bool} (he : ∀ x y, e x y = true → x = y) : ∀ (l m : List AV), eqL e l m = true → l = m
  | [], [], _ => rfl
  | [], _ :: _, h => by simp only [eqL] at h; cases h
  | _ :: _, [], h => by simp only [eqL] at h; cases h
  | x :: l, y :: m, h => by
    simp only [eqL, Bool.and_eq_true] at h
    rw [he _ _ h.1, eqL_ok he _ _ h.2]
theorem eqX_ok : ∀ (d : Nat) (x y : AV), eqX d x y = true → x = y := by
  intro d
  induction d with
  | zero => intro x y h; cases h
  | succ d ih =>
    intro x y h
    cases x with
    | fn f a c =>
      cases y with
      | fn g a' c' =>
        cases f <;> cases g <;> simp only [eqX, Bool.and_eq_true, decide_eq_true_eq] at h <;> try (cases h; done)
        rw [h.1.1, eqL_ok ih _ _ h.1.2, eqL_ok ih _ _ h.2]
      | _ => simp only [eqX] at h; cases h
    | bad => cases y <;> first | rfl | (simp only [eqX] at h; cases h)
    | nils => cases y <;> first | rfl | (simp only [eqX] at h; cases h)
    | v u => cases y <;> simp only [eqX] at h <;> first | (cases h; done) | rw [eqV_ok h]
    | agg l => cases y <;> simp only [eqX] at h <;> first | (cases h; done) | rw [eqL_ok ih _ _ h]
    | tup l => cases y <;> simp only [eqX] at h <;> first | (cases h; done) | rw [eqL_ok ih _ _ h]
    | sl k l => cases y <;> simp only [eqX, Bool.and_eq_true, decide_eq_true_eq] at h <;> first | (cases h; done) | rw [h.1, eqL_ok ih _ _ h.2]
    | rp u j => cases y <;> simp only [eqX, Bool.and_eq_true, decide_eq_true_eq] at h <;> first | (cases h; done) | rw [h.2, ih _ _ h.1]
    | own p k b o n => cases y <;> simp only [eqX, Bool.and_eq_true, decide_eq_true_eq] at h <;> first | (cases h; done) | (obtain ⟨⟨⟨⟨rfl, rfl⟩, rfl⟩, rfl⟩, rfl⟩ := h; rfl)
    | ptr p k b o n => cases y <;> simp only [eqX, Bool.and_eq_true, decide_eq_true_eq] at h <;> first | (cases h; done) | (obtain ⟨⟨⟨⟨rfl, rfl⟩, rfl⟩, rfl⟩, rfl⟩ := h; rfl)
def eqFr : Fr → Fr → Bool
  | [], [] => true
  | (k, x) :: r, (k', y) :: s => decide (k = k') && eqX 40 x y && eqFr r s
  | _, _ => false
theorem eqFr_ok : ∀ (r s : Fr), eqFr r s = true → r = s
  | [], s, h => by cases s <;> simp_all [eqFr]
  | (k, x) :: r, s, h => by
    cases s with
    | nil => simp only [eqFr] at h; cases h
    | cons a s =>
      obtain ⟨k', y⟩ := a
      simp only [eqFr, Bool.and_eq_true, decide_eq_true_eq] at h
      rw [h.1.1, eqX_ok _ _ _ h.1.2, eqFr_ok _ _ h.2]
def eqH : List Blk → List Blk → Bool
  | [], [] => true
  | B :: r, C :: s => (B.live == C.live) && decide (B.b = C.b) && decide (B.k = C.k) && decide (B.t = C.t) && eqL (eqX 40) B.c C.c && eqH r s
  | _, _ => false
theorem eqH_ok : ∀ (r s : List Blk), eqH r s = true → r = s
  | [], s, h => by cases s <;> simp_all [eqH]
  | B :: r, s, h => by
    cases s with
    | nil => simp only [eqH] at h; cases h
    | cons C s =>
      obtain ⟨l1, b1, k1, t1, c1⟩ := B
      obtain ⟨l2, b2, k2, t2, c2⟩ := C
      simp only [eqH, Bool.and_eq_true, decide_eq_true_eq, beq_iff_eq] at h
      obtain ⟨⟨⟨⟨⟨rfl, rfl⟩, rfl⟩, rfl⟩, h1⟩, h2⟩ := h
      rw [eqL_ok (eqX_ok _) _ _ h1, eqH_ok _ _ h2]

/-- One of several that may be first. -/
def brO (P : Program) (ow ec : List Nat) (cl : CallF) (ops : Array Oper) (o : Oper) (fr : Fr) (hp : List Blk) (n : Nat) : StR :=
  match eff ow ec o with
  | 0 => match yiO P ow ec cl ops o fr hp with
    | some x => some (setO fr o.dst x, hp, n)
    | none => none
  | e + 1 => match gdx (get fr) ops o with
    | none => none
    | some (t, w) => match t == w with
      | false => some (setO fr o.dst (.tup []), hp, n)
      | true => doO P true cl o fr hp n
/-- A region that draws, by its plan: where several may be first, all of them come to the same. -/
def drwO (P : Program) (ow ec : List Nat) (kp : List Nat) (cl : CallF) (ops : Array Oper) : Nat → Plan → Fr → List Blk → Nat → StR
  | 0, _, _, _, _ => none
  | k + 1, .fin, fr, hp, n => some (keepF fr kp, hp, n)
  | k + 1, .one i p, fr, hp, n => match ops[i]? with
    | some o => match yiO P ow ec cl ops o fr hp with
      | some x => drwO P ow ec kp cl ops k p (setO fr o.dst x) hp n
      | none => none
    | none => none
  | k + 1, .br [], fr, hp, n => none
  | k + 1, .br ((i, p) :: r), fr, hp, n => match ops[i]? with
    | some o => match brO P ow ec cl ops o fr hp n with
      | some (fr', hp', n') => match drwO P ow ec kp cl ops k p fr' hp' n' with
        | some (f1, h1, n1) => match r with
          | [] => some (f1, h1, n1)
          | _ => match drwO P ow ec kp cl ops k (.br r) fr hp n with
            | some (f2, h2, n2) => match eqFr f1 f2 && eqH h1 h2 && decide (n1 = n2) with
              | true => some (f1, h1, n1)
              | false => none
            | none => none
        | none => none
      | none => none
    | none => none
end Go.Ab
