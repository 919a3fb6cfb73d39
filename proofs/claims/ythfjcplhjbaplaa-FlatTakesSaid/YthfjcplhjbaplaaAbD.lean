/- Regions that draw their order: one order, by a plan, serves all. -/
import Derived.Test.YthfjcplhjbaplaaAb16
import Derived.Still
set_option linter.all false
namespace Go.Ab
set_option linter.unusedVariables false
variable {P : Program}

/-- Does an operation not look at what the call owns? -/
def hfree (P : Program) : Op → Bool
  | .load .. => false
  | .convert s _ _ => !isBytes P s
  | _ => true
def inL (l : List Nat) (d : Option Nat) : Bool := match d with | some d => l.contains d | none => false
/-- What an operation does to what the call owns: 0 nothing, 1 it adds a block, 2 all else. -/
def eff (ow ec : List Nat) (o : Oper) : Nat :=
  match o.op with
  | .store .. => 2
  | .alloc _ | .box .. => 1
  | .buildSlice .. | .makeSlice .. => if inL ow o.dst = true then 2 else 0
  | .call c => match c.callee with
    | .builtin .append => 2
    | .value _ => if inL ec o.dst = true then 2 else 0
    | _ => 0
  | _ => 0

/-- An operation of a region that draws: what calls do is known wholly, but for those in ec. -/
inductive OpD (P : Program) (ow ec : List Nat) (o : Oper) (K : (Nat → AV) → List Blk → Prop) (f : Nat → AV) (hp : List Blk) : Prop
  | pure (x : AV) (hx : opv P f hp o.op = some x) (he : eff ow ec o = 0) (h : K (setF f o.dst x) hp)
  | store (t : TypeId) (x y : Operand) (hp' : List Blk) (ho : stOp o.op = some (t, x, y)) (hx : stA P hp t (ev f x) (ev f y) = some hp') (he : eff ow ec o = 2) (h : K (setF f o.dst .bad) hp')
  | new (nb : NewB) (hx : opn P f o.op = some nb) (he : eff ow ec o = 1 ∨ eff ow ec o = 2) (h : ∀ b, K (setF f o.dst (nb.ref hp.length b)) (hp ++ [nb.blk b]))
  | lit (nb : NewB) (hx : opn P f o.op = some nb) (hp0 : nb.ptr = false) (he : eff ow ec o = 0) (h : K (setF f o.dst (.sl nb.k nb.c)) hp)
  | app (x y : Operand) (t t' : TypeId) (ab : AppB) (ho : appOp o.op = some (x, y, t, t')) (hx : appA P hp t t' (ev f x) (ev f y) = some ab) (he : eff ow ec o = 2) (h : ∀ b, K (setF f o.dst (.own ab.p ab.k b 0 ab.n)) (ab.hp b))
  | pcall (g : FuncId) (args : List AV) (x : AV) (ho : calleeA f o.op = some (g, args)) (hf : fnOk P g = true) (he : eff ow ec o = 0) (hc : ∀ hp, ACall P g args hp fun r hp' => r = x ∧ hp' = hp) (h : K (setF f o.dst x) hp)
  | ecall (g : FuncId) (args : List AV) (ho : calleeA f o.op = some (g, args)) (hf : fnOk P g = true) (he : eff ow ec o = 2) (post : AV → List Blk → Prop) (hc : ACall P g args hp post) (h : ∀ x hp', post x hp' → K (setF f o.dst x) hp')

theorem OpD.toA {ow ec o K f hp} (h : OpD P ow ec o K f hp) : OpA P o K f hp := by
  cases h with
  | pure x hx _ h => exact .pure x hx h
  | store t x y hp' ho hx _ h => exact .store t x y hp' ho hx h
  | new nb hx _ h => exact .new nb hx h
  | lit nb hx hp0 _ h => exact .lit nb hx hp0 h
  | app x y t t' ab ho hx _ h => exact .app x y t t' ab ho hx h
  | pcall g args x ho hf _ hc h => exact .call g args ho hf _ (hc hp) fun y hp' hy => by obtain ⟨rfl, rfl⟩ := hy; exact h
  | ecall g args ho hf _ post hc h => exact .call g args ho hf post hc h

theorem OpD.mono {ow ec o K K' f hp} (hk : ∀ f hp, K f hp → K' f hp) (h : OpD P ow ec o K f hp) : OpD P ow ec o K' f hp := by
  cases h with
  | pure x hx he h => exact .pure x hx he (hk _ _ h)
  | store t x y hp' ho hx he h => exact .store t x y hp' ho hx he (hk _ _ h)
  | new nb hx he h => exact .new nb hx he fun b => hk _ _ (h b)
  | lit nb hx hp0 he h => exact .lit nb hx hp0 he (hk _ _ h)
  | app x y t t' ab ho hx he h => exact .app x y t t' ab ho hx he fun b => hk _ _ (h b)
  | pcall g args x ho hf he hc h => exact .pcall g args x ho hf he hc (hk _ _ h)
  | ecall g args ho hf he post hc h => exact .ecall g args ho hf he post hc fun x hp' hx => hk _ _ (h x hp' hx)

/-- One operation of the region, or none where its guard says so. -/
def StD (P : Program) (ow ec : List Nat) (ops : Array Oper) (o : Oper) (K : (Nat → AV) → List Blk → Prop) (f : Nat → AV) (hp : List Blk) : Prop :=
  (gd f ops o = some false ∧ K (setF f o.dst (.tup [])) hp) ∨ (gd f ops o = some true ∧ OpD P ow ec o K f hp)
theorem StD.mono {ow ec ops o K K' f hp} (hk : ∀ f hp, K f hp → K' f hp) (h : StD P ow ec ops o K f hp) : StD P ow ec ops o K' f hp :=
  h.imp (fun h => ⟨h.1, hk _ _ h.2⟩) fun h => ⟨h.1, h.2.mono hk⟩

/-- What an operation yields, what the call owns being as it was. -/
def Yi (P : Program) (ow ec : List Nat) (ops : Array Oper) (o : Oper) (x : AV) (f : Nat → AV) (hp : List Blk) : Prop :=
  (gd f ops o = some true ∧ eff ow ec o = 0 ∧ (opv P f hp o.op = some x ∨ (∃ nb, opn P f o.op = some nb ∧ nb.ptr = false ∧ x = .sl nb.k nb.c) ∨
    ∃ g args, calleeA f o.op = some (g, args) ∧ fnOk P g = true ∧ ∀ hp, ACall P g args hp fun r hp' => r = x ∧ hp' = hp)) ∨ (gd f ops o = some false ∧ x = .tup [])
theorem Yi.step {ow ec ops o x f hp K} (h : Yi P ow ec ops o x f hp) (hk : K (setF f o.dst x) hp) : StD P ow ec ops o K f hp := by
  rcases h with ⟨hg, he, h | ⟨nb, h1, h2, rfl⟩ | ⟨g, args, h1, h2, h3⟩⟩ | ⟨hg, rfl⟩
  · exact .inr ⟨hg, .pure x h he hk⟩
  · exact .inr ⟨hg, .lit nb h1 h2 he hk⟩
  · exact .inr ⟨hg, .pcall g args x h1 h2 he h3 hk⟩
  · exact .inl ⟨hg, hk⟩

/-- Do frames agree where an operation looks? -/
def Agree (ops : Array Oper) (o : Oper) (f f' : Nat → AV) : Prop := ∀ t ∈ o.looksAt ops, f t = f' t
theorem agree_ev {ops o f f'} (h : Agree ops o f f') (x : Operand) (hx : x ∈ o.op.operands) : ev f x = ev f' x := by
  cases x with
  | tmp t => exact h t (by simp only [Oper.looksAt, List.mem_append, List.mem_filterMap]; exact .inl ⟨.tmp t, by simpa using hx, rfl⟩)
  | _ => rfl
theorem agree_gd {ops o f f'} (h : Agree ops o f f') : gd f ops o = gd f' ops o := by
  unfold gd
  cases hg : o.guard with
  | none => rfl
  | some jw =>
    obtain ⟨j, w⟩ := jw
    simp only
    cases hd : (ops[j]?).bind (·.dst) with
    | none => rfl
    | some d => simp only; rw [h d (by simp only [Oper.looksAt, hg, hd]; simp)]
theorem map_ev {f f' : Nat → AV} {l : List Operand} (h : ∀ x ∈ l, ev f x = ev f' x) : l.map (ev f) = l.map (ev f') := List.map_congr_left h
theorem agree_opv {ops o f f' hp} (h : Agree ops o f f') : opv P f hp o.op = opv P f' hp o.op := by
  have he := agree_ev h
  obtain ⟨dst, op, type, pos, after, guard⟩ := o
  simp only at he ⊢
  cases op <;> simp only [Op.operands] at he <;> simp only [opv] <;> try rfl
  case move x => rw [he x (by simp)]
  case assign x => rw [he x (by simp)]
  case pick c a b => rw [he c (by simp), he a (by simp), he b (by simp)]
  case build t parts =>
    have : (parts.toList.map fun p => (p.1, ev f p.2)) = parts.toList.map fun p => (p.1, ev f' p.2) := List.map_congr_left fun p hp => by
      rw [he p.2 (by simp; exact ⟨p.1, by simpa using hp⟩)]
    rw [this]
  case load t x => rw [he x (by simp)]
  case nilCheck x => rw [he x (by simp)]
  case binOp op t x y u => rw [he x (by simp), he y (by simp)]
  case unOp op t x => cases op <;> first | rfl | (dsimp only; rw [he x (by simp)])
  case convert s d x => rw [he x (by simp)]
  case makeFunc fn a c =>
    rw [map_ev (l := a.toList) (f := f) (f' := f') (fun x hx => he x (by simp; exact .inl (by simpa using hx))), map_ev (l := c.toList) (f := f) (f' := f') (fun x hx => he x (by simp; exact .inr (by simpa using hx)))]
  case slice t x lo hi mx =>
    have hb : ∀ y : Option Operand, (∀ z, y = some z → z ∈ #[x] ++ lo.toArray ++ hi.toArray ++ mx.toArray) → bnd f y = bnd f' y := by
      intro y hy
      cases y with
      | none => rfl
      | some z => simp only [bnd]; rw [he z (hy z rfl)]
    rw [he x (by simp), hb lo (by rintro z rfl; simp), hb hi (by rintro z rfl; simp), hb mx (by rintro z rfl; simp)]
  case fieldAddr t x i => rw [he x (by simp)]
  case field t x i => rw [he x (by simp)]
  case indexAddr t x i => rw [he x (by simp), he i (by simp)]
  case index t x i => rw [he x (by simp), he i (by simp)]
  case extract x i => rw [he x (by simp)]
  case call c =>
    obtain ⟨callee, args, tys⟩ := c
    have hc : ∀ y ∈ args.toList, ev f y = ev f' y := fun y hy => he y (by simp only [Call.operands]; simp; exact .inr (by simpa using hy))
    simp only
    generalize hl : args.toList = l at hc
    generalize tys.toList = m
    cases callee <;> (try simp only) <;> try rfl
    rename_i b
    cases b <;> (try simp only) <;> try rfl
    · match l, m with
      | [x], [t] => simp only; rw [hc x (by simp)]
      | [], _ => rfl
      | [_], [] => rfl
      | [_], _ :: _ :: _ => rfl
      | _ :: _ :: _, _ => rfl
    · match l with
      | [x, y] => simp only; rw [hc x (by simp), hc y (by simp)]
      | [] => rfl
      | [_] => rfl
      | _ :: _ :: _ :: _ => rfl
    · match l with
      | [x, y] => simp only; rw [hc x (by simp), hc y (by simp)]
      | [] => rfl
      | [_] => rfl
      | _ :: _ :: _ :: _ => rfl
theorem agree_opn {ops o f f'} (h : Agree ops o f f') : opn P f o.op = opn P f' o.op := by
  have he := agree_ev h
  obtain ⟨dst, op, type, pos, after, guard⟩ := o
  simp only at he ⊢
  cases op <;> simp only [Op.operands] at he <;> simp only [opn] <;> try rfl
  case box t x => rw [he x (by simp)]
  case makeSlice t l c => rw [he l (by simp), he c (by simp)]
  case buildSlice t n parts =>
    have : (parts.toList.map fun p => (p.1, ev f p.2)) = parts.toList.map fun p => (p.1, ev f' p.2) := List.map_congr_left fun p hp => by
      rw [he p.2 (by simp; exact ⟨p.1, by simpa using hp⟩)]
    rw [this]
theorem agree_callee {ops o f f'} (h : Agree ops o f f') : calleeA f o.op = calleeA f' o.op := by
  have he := agree_ev h
  obtain ⟨dst, op, type, pos, after, guard⟩ := o
  simp only at he ⊢
  cases op <;> simp only [Op.operands] at he <;> simp only [calleeA] <;> try rfl
  case call c =>
    obtain ⟨callee, args, tys⟩ := c
    simp only
    cases callee <;> (try simp only) <;> try rfl
    rename_i g
    have hc : ∀ y ∈ args.toList, ev f y = ev f' y := fun y hy => he y (by simp only [Call.operands]; simp; exact .inr (by simpa using hy))
    rw [he g (by simp [Call.operands]), map_ev hc]
theorem agree_st {ops o f f' t x y} (h : Agree ops o f f') (ho : stOp o.op = some (t, x, y)) : ev f x = ev f' x ∧ ev f y = ev f' y := by
  have he := agree_ev h
  obtain ⟨dst, op, type, pos, after, guard⟩ := o
  cases op <;> simp only [stOp, Option.some.injEq, Prod.mk.injEq] at ho <;> try (cases ho; done)
  obtain ⟨rfl, rfl, rfl⟩ := ho
  exact ⟨he _ (by simp [Op.operands]), he _ (by simp [Op.operands])⟩
theorem agree_app {ops o f f' x y t t'} (h : Agree ops o f f') (ho : appOp o.op = some (x, y, t, t')) : ev f x = ev f' x ∧ ev f y = ev f' y := by
  have he := agree_ev h
  obtain ⟨dst, op, type, pos, after, guard⟩ := o
  cases op <;> simp only [appOp] at ho <;> try (cases ho; done)
  rename_i c
  obtain ⟨callee, args, tys⟩ := c
  simp only at ho
  split at ho
  · rename_i q1 q2
    cases ho
    obtain rfl := list_two q1
    exact ⟨he _ (by simp [Op.operands, Call.operands]), he _ (by simp [Op.operands, Call.operands])⟩
  · cases ho

theorem Yi.agree {ow ec ops o x f f' hp} (ha : Agree ops o f f') (h : Yi P ow ec ops o x f hp) : Yi P ow ec ops o x f' hp := by
  unfold Yi at *
  rw [← agree_gd ha, ← agree_opv ha, ← agree_opn ha, ← agree_callee ha]
  exact h

theorem blkAt_push {hp : List Blk} {p k b B C} (h : blkAt hp p k b = some B) : blkAt (hp ++ [C]) p k b = some B := by
  obtain ⟨h1, h2, h3, h4⟩ := blkAt_some h
  unfold blkAt
  rw [List.getElem?_append_left (List.getElem?_eq_some_iff.1 h1).1, h1]
  simp only
  rw [if_pos ⟨h2, h3, h4⟩]
theorem loadA_push {hp : List Blk} {t x y C} (h : loadA P hp t x = some y) : loadA P (hp ++ [C]) t x = some y := by
  cases x <;> simp only [loadA] at h ⊢ <;> try (first | exact h | (cases h; done))
  split at h
  · rename_i B hB
    rw [blkAt_push hB]; exact h
  · cases h
theorem rowsOf_push {hp : List Blk} {k x l C} (h : rowsOf hp k x = some l) : rowsOf (hp ++ [C]) k x = some l := by
  cases x <;> simp only [rowsOf] at h ⊢ <;> try (first | exact h | (cases h; done))
  split at h
  · rename_i B hB
    rw [blkAt_push hB]; exact h
  · cases h
theorem convA_push {hp : List Blk} {s d x y C} (h : convA P hp s d x = some y) : convA P (hp ++ [C]) s d x = some y := by
  unfold convA at h ⊢
  split at h
  · exact h
  · exact h
  · split at h
    · rename_i hb
      rw [if_pos hb]
      split at h
      · rename_i l hl; rw [rowsOf_push hl]; exact h
      · cases h
    · cases h
theorem opv_push {f hp op x C} (h : opv P f hp op = some x) : opv P f (hp ++ [C]) op = some x := by
  cases op <;> simp only [opv] at h ⊢ <;> try (first | exact h | (cases h; done))
  · exact loadA_push h
  · rename_i o t y; cases o <;> first | exact h | (simp only [opv] at h ⊢; exact h)
  · exact convA_push h
theorem opv_free {f hp hp' op x} (hf : hfree P op = true) (h : opv P f hp op = some x) : opv P f hp' op = some x := by
  cases op <;> simp only [opv, hfree] at h hf ⊢ <;> try (first | exact h | (cases h; done) | (cases hf; done))
  · rename_i o t y; cases o <;> first | exact h | (simp only [opv] at h ⊢; exact h)
  · unfold convA at h ⊢
    split at h
    · exact h
    · exact h
    · split at h
      · rename_i hb
        rw [hb.1] at hf; cases hf
      · cases h

theorem Yi.push {ow ec ops o x f hp C} (h : Yi P ow ec ops o x f hp) : Yi P ow ec ops o x f (hp ++ [C]) := by
  rcases h with ⟨hg, he, h | h | h⟩ | h
  · exact .inl ⟨hg, he, .inl (opv_push h)⟩
  · exact .inl ⟨hg, he, .inr (.inl h)⟩
  · exact .inl ⟨hg, he, .inr (.inr h)⟩
  · exact .inr h
theorem Yi.free {ow ec ops o x f hp hp'} (hf : hfree P o.op = true) (h : Yi P ow ec ops o x f hp) : Yi P ow ec ops o x f hp' := by
  rcases h with ⟨hg, he, h | h | h⟩ | h
  · exact .inl ⟨hg, he, .inl (opv_free hf h)⟩
  · exact .inl ⟨hg, he, .inr (.inl h)⟩
  · exact .inl ⟨hg, he, .inr (.inr h)⟩
  · exact .inr h

theorem setF_comm (f : Nat → AV) {d e : Option Nat} (x y : AV) (h : ∀ k, d = some k → e ≠ some k) : setF (setF f d x) e y = setF (setF f e y) d x := by
  funext t
  simp only [setF]
  by_cases h1 : e = some t
  · have : d ≠ some t := fun e0 => h t e0 h1
    simp [h1, this]
  · simp [h1]

/-- An operation that yields the same before another one as behind it. -/
theorem swap {ow ec ops oi oj x f hp K} (hap : Oper.apart ops oi oj = true) (hh : hfree P oi.op = true ∨ eff ow ec oj ≤ 1) (hy : Yi P ow ec ops oi x f hp) (h : StD P ow ec ops oj K (setF f oi.dst x) hp) :
    StD P ow ec ops oj (fun f' hp' => Yi P ow ec ops oi x f' hp' ∧ K (setF f' oi.dst x) hp') f hp := by
  obtain ⟨h1, h2, h3⟩ := Oper.apart_spec hap
  have ag : Agree ops oj (setF f oi.dst x) f := fun t ht => by
    simp only [setF]; rw [if_neg]; intro e; exact h1 t e ht
  have keep : ∀ y hp, Yi P ow ec ops oi x f hp → Yi P ow ec ops oi x (setF f oj.dst y) hp := fun y hp hy => hy.agree fun t ht => by
    simp only [setF]; rw [if_neg]; intro e; exact h3 t e ht
  have cm : ∀ y, setF (setF f oi.dst x) oj.dst y = setF (setF f oj.dst y) oi.dst x := fun y => setF_comm f x y h2
  rcases h with ⟨hg, h⟩ | ⟨hg, h⟩
  · exact .inl ⟨by rw [← agree_gd ag]; exact hg, keep _ _ hy, by rw [← cm]; exact h⟩
  · refine .inr ⟨by rw [← agree_gd ag]; exact hg, ?_⟩
    cases h with
    | pure y hx he h => exact .pure y (by rw [← agree_opv ag]; exact hx) he ⟨keep _ _ hy, by rw [← cm]; exact h⟩
    | store t p q hp' ho hx he h =>
      obtain ⟨e1, e2⟩ := agree_st ag ho
      refine .store t p q hp' ho (by rw [← e1, ← e2]; exact hx) he ⟨keep _ _ (hy.free (hh.resolve_right (by omega))), by rw [← cm]; exact h⟩
    | new nb hx he h =>
      refine .new nb (by rw [← agree_opn ag]; exact hx) he fun b => ⟨keep _ _ hy.push, by rw [← cm]; exact h b⟩
    | lit nb hx hp0 he h => exact .lit nb (by rw [← agree_opn ag]; exact hx) hp0 he ⟨keep _ _ hy, by rw [← cm]; exact h⟩
    | app p q t t' ab ho hx he h =>
      obtain ⟨e1, e2⟩ := agree_app ag ho
      exact .app p q t t' ab ho (by rw [← e1, ← e2]; exact hx) he fun b => ⟨keep _ _ (hy.free (hh.resolve_right (by omega))), by rw [← cm]; exact h b⟩
    | pcall g args y ho hf he hc h => exact .pcall g args y (by rw [← agree_callee ag]; exact ho) hf he hc ⟨keep _ _ hy, by rw [← cm]; exact h⟩
    | ecall g args ho hf he post hc h =>
      exact .ecall g args (by rw [← agree_callee ag]; exact ho) hf he post hc fun y hp' hy' => ⟨keep _ _ (hy.free (hh.resolve_right (by omega))), by rw [← cm]; exact h y hp' hy'⟩

/-- Whatever order is picked. -/
def AnyD (P : Program) (ow ec : List Nat) (ops : Array Oper) (Q : (Nat → AV) → List Blk → Prop) : Nat → Array Bool → (Nat → AV) → List Blk → Prop
  | 0, l, f, hp => Region.ready .any ops l = [] ∧ Q f hp
  | m + 1, l, f, hp => (Region.ready .any ops l = [] → Q f hp) ∧ ∀ i ∈ Region.ready .any ops l, ∀ o, ops[i]? = some o → StD P ow ec ops o (AnyD P ow ec ops Q m (l.setIfInBounds i true)) f hp

/-- Does j wait for i? -/
def waits (ops : Array Oper) (i : Nat) : Nat → Nat → Bool
  | 0, _ => false
  | m + 1, j => match ops[j]? with
    | some o => o.after.toList.any fun e => Region.binds .any e && (e.on == i || waits ops i m e.on)
    | none => false

def Closed (ops : Array Oper) (l : Array Bool) : Prop := ∀ (j : Nat) o, l.getD j false = true → ops[j]? = some o → ∀ e ∈ o.after, Region.binds .any e = true → l.getD e.on false = true

theorem waits_not {ops : Array Oper} {l : Array Bool} (hl : Closed ops l) {i : Nat} (hi : l.getD i false = false) : ∀ (m j : Nat), l.getD j false = true → waits ops i m j = false := by
  intro m
  induction m with
  | zero => intro j _; rfl
  | succ m ih =>
    intro j hj
    simp only [waits]
    cases ho : ops[j]? with
    | none => rfl
    | some o =>
      simp only
      rw [List.any_eq_false]
      intro e he
      by_cases hb : Region.binds .any e = true
      · have h1 := hl j o hj ho e (by simpa using he) hb
        have h2 : e.on ≠ i := fun e0 => by rw [e0, hi] at h1; cases h1
        simp [hb, h2, ih e.on h1]
      · simp [hb]

theorem getD_false_of {l : Array Bool} {j : Nat} (h : l.getD j true = false) : l.getD j false = false := by
  by_cases hlt : j < l.size
  · simp [Array.getD, hlt] at h ⊢; exact h
  · simp [Array.getD, hlt] at h

theorem Closed.set {ops : Array Oper} {l : Array Bool} (hl : Closed ops l) {j : Nat} (hj : j ∈ Region.ready .any ops l) : Closed ops (l.setIfInBounds j true) := by
  obtain ⟨h0, o, ho, hall⟩ := mem_ready.1 hj
  intro k o' hk ho' e he hb
  refine getD_set_true ?_
  by_cases e0 : k = j
  · subst e0
    rw [ho] at ho'; cases ho'
    exact hall e he hb
  · refine hl k o' ?_ ho' e he hb
    simp only [Array.getD_eq_getD_getElem?, Array.getElem?_setIfInBounds_ne (Ne.symm e0)] at hk ⊢
    exact hk

theorem anyD_take {ow ec ops Q} {i : Nat} {oi : Oper} {x : AV} (hi : ops[i]? = some oi) (l0 : Array Bool) (m0 : Nat)
    (hfr : ∀ (j : Nat) oj, ops[j]? = some oj → j ≠ i → l0.getD j true = false → waits ops i m0 j = true ∨ (Oper.apart ops oi oj = true ∧ (hfree P oi.op = true ∨ eff ow ec oj ≤ 1))) :
    ∀ (m : Nat) (l : Array Bool) (f : Nat → AV) (hp : List Blk), Closed ops l → (∀ j, l.getD j true = false → l0.getD j true = false) →
      i ∈ Region.ready .any ops l → Yi P ow ec ops oi x f hp → AnyD P ow ec ops Q m (l.setIfInBounds i true) (setF f oi.dst x) hp → AnyD P ow ec ops Q (m + 1) l f hp := by
  intro m
  induction m with
  | zero =>
    intro l f hp hc hl hr hy H
    refine ⟨fun h => (by rw [h] at hr; cases hr), fun j hj o ho => ?_⟩
    by_cases hji : j = i
    · subst hji; rw [hi] at ho; cases ho; exact hy.step H
    · have := ready_mono hj hji
      rw [H.1] at this; cases this
  | succ m ih =>
    intro l f hp hc hl hr hy H
    refine ⟨fun h => (by rw [h] at hr; cases hr), fun j hj o ho => ?_⟩
    by_cases hji : j = i
    · subst hji; rw [hi] at ho; cases ho; exact hy.step H
    · have h1 := H.2 j (ready_mono hj hji) o ho
      obtain ⟨hjun, oj, hoj, hall⟩ := mem_ready.1 hj
      rw [ho] at hoj; cases hoj
      have hiun := getD_false_of (mem_ready.1 hr).1
      have hw : waits ops i m0 j = false := by
        cases m0 with
        | zero => rfl
        | succ k =>
          simp only [waits, ho]
          rw [List.any_eq_false]
          intro e he
          by_cases hb : Region.binds .any e = true
          · have g1 := hall e (by simpa using he) hb
            have g2 : e.on ≠ i := fun e0 => by rw [e0, hiun] at g1; cases g1
            simp [hb, g2, waits_not hc hiun k e.on g1]
          · simp [hb]
      rcases hfr j o ho hji (hl j hjun) with h2 | ⟨h2, h3⟩
      · rw [hw] at h2; cases h2
      · refine (swap h2 h3 hy h1).mono fun f' hp' ⟨k1, k2⟩ => ?_
        have hne : ∀ q, (l.setIfInBounds j true).getD q true = false → l.getD q true = false := by
          intro q hq
          by_cases e0 : q = j
          · subst e0; exact hjun
          · simpa only [Array.getD_eq_getD_getElem?, Array.getElem?_setIfInBounds_ne (Ne.symm e0)] using hq
        refine ih (l.setIfInBounds j true) f' hp' (hc.set hj) (fun q hq => hl q (hne q hq)) (ready_mono hr (Ne.symm hji)) k1 ?_
        rw [Array.setIfInBounds_comm _ _ hji]; exact k2

/-- A plan: which operation is taken next, or all that may come next. -/
inductive Plan where
  | fin
  | one (i : Nat) (p : Plan)
  | br (l : List (Nat × Plan))

/-- May i be taken first? -/
def okFirst (P : Program) (ow ec : List Nat) (ops : Array Oper) (l : Array Bool) (i : Nat) : Bool :=
  match ops[i]? with
  | some oi => eff ow ec oi == 0 && (List.range ops.size).all fun j => j == i || l.getD j true || waits ops i 6 j || (match ops[j]? with
    | some oj => Oper.apart ops oi oj && (hfree P oi.op || decide (eff ow ec oj ≤ 1))
    | none => true)
  | none => false
def readyB (ops : Array Oper) (l : Array Bool) (i : Nat) : Bool :=
  !l.getD i true && ((ops[i]?).map (·.after.all fun e => !Region.binds .any e || l.getD e.on false)).getD false

def plansOk (ops : Array Oper) (rec : Array Bool → Plan → Bool) (l : Array Bool) : List (Nat × Plan) → Bool
  | [] => true
  | (i, p) :: r => readyB ops l i && rec (l.setIfInBounds i true) p && plansOk ops rec l r
def planOk (P : Program) (ow ec : List Nat) (ops : Array Oper) : Nat → Array Bool → Plan → Bool
  | 0, l, .fin => (List.range ops.size).all fun i => l.getD i true
  | _ + 1, l, .fin => (List.range ops.size).all fun i => l.getD i true
  | m + 1, l, .one i p => readyB ops l i && okFirst P ow ec ops l i && planOk P ow ec ops m (l.setIfInBounds i true) p
  | m + 1, l, .br ps => ((List.range ops.size).all fun i => !readyB ops l i || ps.any (·.1 == i)) && !ps.isEmpty && plansOk ops (planOk P ow ec ops m) l ps
  | 0, _, _ => false

/-- What a plan asks for: the whole of it. -/
inductive PR (P : Program) (ow ec : List Nat) (ops : Array Oper) (Q : (Nat → AV) → List Blk → Prop) : Plan → (Nat → AV) → List Blk → Prop
  | fin {f hp} (h : Q f hp) : PR P ow ec ops Q .fin f hp
  | one {i p f hp o} (x : AV) (ho : ops[i]? = some o) (hy : Yi P ow ec ops o x f hp) (h : PR P ow ec ops Q p (setF f o.dst x) hp) : PR P ow ec ops Q (.one i p) f hp
  | nil {f hp} : PR P ow ec ops Q (.br []) f hp
  | yi {i p r f hp o} (x : AV) (ho : ops[i]? = some o) (hy : Yi P ow ec ops o x f hp) (h : PR P ow ec ops Q p (setF f o.dst x) hp) (hr : PR P ow ec ops Q (.br r) f hp) : PR P ow ec ops Q (.br ((i, p) :: r)) f hp
  | store {i p r f hp o} (t : TypeId) (x y : Operand) (hp' : List Blk) (ho : ops[i]? = some o) (hg : gd f ops o = some true) (hs : stOp o.op = some (t, x, y)) (hx : stA P hp t (ev f x) (ev f y) = some hp')
      (h : PR P ow ec ops Q p (setF f o.dst .bad) hp') (hr : PR P ow ec ops Q (.br r) f hp) : PR P ow ec ops Q (.br ((i, p) :: r)) f hp
  | new {i p r f hp o} (nb : NewB) (ho : ops[i]? = some o) (hg : gd f ops o = some true) (hx : opn P f o.op = some nb) (he : eff ow ec o = 1 ∨ eff ow ec o = 2)
      (h : ∀ b, PR P ow ec ops Q p (setF f o.dst (nb.ref hp.length b)) (hp ++ [nb.blk b])) (hr : PR P ow ec ops Q (.br r) f hp) : PR P ow ec ops Q (.br ((i, p) :: r)) f hp
  | app {i p r f hp o} (x y : Operand) (t t' : TypeId) (ab : AppB) (ho : ops[i]? = some o) (hg : gd f ops o = some true) (hs : appOp o.op = some (x, y, t, t')) (hx : appA P hp t t' (ev f x) (ev f y) = some ab)
      (h : ∀ b, PR P ow ec ops Q p (setF f o.dst (.own ab.p ab.k b 0 ab.n)) (ab.hp b)) (hr : PR P ow ec ops Q (.br r) f hp) : PR P ow ec ops Q (.br ((i, p) :: r)) f hp
  | call {i p r f hp o} (g : FuncId) (args : List AV) (ho : ops[i]? = some o) (hg : gd f ops o = some true) (hs : calleeA f o.op = some (g, args)) (hf : fnOk P g = true) (he : eff ow ec o = 2) (post : AV → List Blk → Prop) (hc : ACall P g args hp post)
      (h : ∀ x hp', post x hp' → PR P ow ec ops Q p (setF f o.dst x) hp') (hr : PR P ow ec ops Q (.br r) f hp) : PR P ow ec ops Q (.br ((i, p) :: r)) f hp

theorem eff_store {ow ec o t x y} (h : stOp o.op = some (t, x, y)) : eff ow ec o = 2 := by
  unfold eff
  cases ho : o.op <;> rw [ho] at h <;> simp only [stOp] at h <;> first | rfl | cases h
theorem eff_app {ow ec o x} (h : appOp o.op = some x) : eff ow ec o = 2 := by
  unfold eff
  cases ho : o.op <;> rw [ho] at h <;> simp only [appOp] at h <;> try (cases h; done)
  rename_i c
  split at h
  · rename_i hc _ _; simp only [hc]
  · cases h

theorem mem_readyB {ops : Array Oper} {l : Array Bool} {i : Nat} : i ∈ Region.ready .any ops l ↔ i < ops.size ∧ readyB ops l i = true := by
  unfold Region.ready readyB
  rw [List.mem_filter, List.mem_range]

def sOf (ops : Array Oper) (o : Oper) (P : Program) (ow ec : List Nat) := StD P ow ec ops o

/-- A plan that is one, and what it asks for, serve every order. -/
theorem plan_any {ow ec ops Q} : ∀ (m : Nat) (l : Array Bool) (p : Plan) (f : Nat → AV) (hp : List Blk), planOk P ow ec ops m l p = true → Closed ops l → PR P ow ec ops Q p f hp → AnyD P ow ec ops Q m l f hp := by
  intro m
  induction m with
  | zero =>
    intro l p f hp ho hc h
    cases p with
    | fin =>
      cases h with
      | fin h =>
        simp only [planOk, List.all_eq_true, List.mem_range] at ho
        refine ⟨List.eq_nil_iff_forall_not_mem.2 fun i hi => ?_, h⟩
        obtain ⟨h1, h2⟩ := mem_readyB.1 hi
        have := ho i h1
        simp [readyB, this] at h2
    | one i p => simp [planOk] at ho
    | br ps => simp [planOk] at ho
  | succ m ih =>
    intro l p f hp ho hc h
    cases p with
    | fin =>
      cases h with
      | fin h =>
        simp only [planOk, List.all_eq_true, List.mem_range] at ho
        have e : Region.ready .any ops l = [] := List.eq_nil_iff_forall_not_mem.2 fun i hi => by
          obtain ⟨h1, h2⟩ := mem_readyB.1 hi
          have := ho i h1
          simp [readyB, this] at h2
        exact ⟨fun _ => h, fun i hi => by rw [e] at hi; cases hi⟩
    | one i p =>
      cases h with
      | one x hoi hy h =>
        rename_i oi
        simp only [planOk, Bool.and_eq_true] at ho
        obtain ⟨⟨h1, h2⟩, h3⟩ := ho
        have hlt : i < ops.size := (Array.getElem?_eq_some_iff.1 hoi).1
        have hr : i ∈ Region.ready .any ops l := mem_readyB.2 ⟨hlt, h1⟩
        simp only [okFirst, hoi, Bool.and_eq_true, List.all_eq_true, List.mem_range] at h2
        refine anyD_take hoi l 6 (fun j oj hoj hji hun => ?_) m l f hp hc (fun _ h => h) hr hy (ih _ p _ _ h3 (hc.set hr) h)
        have := h2.2 j (Array.getElem?_eq_some_iff.1 hoj).1
        simp only [hoj, hun, Bool.or_false, Bool.or_eq_true, beq_iff_eq, Bool.and_eq_true, decide_eq_true_eq] at this
        rcases this with (h4 | h4) | h4
        · exact absurd h4 hji
        · exact .inl h4
        · exact .inr h4
    | br ps =>
      simp only [planOk, Bool.and_eq_true] at ho
      obtain ⟨⟨h1, h2⟩, h3⟩ := ho
      have key : ∀ ps, plansOk ops (planOk P ow ec ops m) l ps = true → PR P ow ec ops Q (.br ps) f hp → ∀ i o, ops[i]? = some o → ps.any (·.1 == i) = true → StD P ow ec ops o (AnyD P ow ec ops Q m (l.setIfInBounds i true)) f hp := by
        intro ps
        induction ps with
        | nil => intro _ _ i o _ hi; simp at hi
        | cons a ps ihp =>
          intro hok h i o hoi hi
          obtain ⟨i', p'⟩ := a
          simp only [plansOk, Bool.and_eq_true] at hok
          obtain ⟨⟨k1, k2⟩, k3⟩ := hok
          have step : ∀ f' hp', i' = i → PR P ow ec ops Q p' f' hp' → AnyD P ow ec ops Q m (l.setIfInBounds i true) f' hp' := by
            rintro f' hp' rfl hpr
            have hr : i' ∈ Region.ready .any ops l := mem_readyB.2 ⟨(Array.getElem?_eq_some_iff.1 hoi).1, k1⟩
            exact ih _ p' _ _ k2 (hc.set hr) hpr
          have other : PR P ow ec ops Q (.br ps) f hp → i' ≠ i → StD P ow ec ops o (AnyD P ow ec ops Q m (l.setIfInBounds i true)) f hp := fun hr hne => by
            refine ihp k3 hr i o hoi ?_
            simpa [hne] using hi
          by_cases e : i' = i
          · cases h with
            | yi x ho' hy h hr => subst e; rw [hoi] at ho'; cases ho'; exact hy.step (step _ _ rfl h)
            | store t x y hp' ho' hg hs hx h hr => subst e; rw [hoi] at ho'; cases ho'; exact .inr ⟨hg, .store t x y hp' hs hx (eff_store hs) (step _ _ rfl h)⟩
            | new nb ho' hg hx he h hr => subst e; rw [hoi] at ho'; cases ho'; exact .inr ⟨hg, .new nb hx he fun b => step _ _ rfl (h b)⟩
            | app x y t t' ab ho' hg hs hx h hr => subst e; rw [hoi] at ho'; cases ho'; exact .inr ⟨hg, .app x y t t' ab hs hx (eff_app hs) fun b => step _ _ rfl (h b)⟩
            | call g args ho' hg hs hf he post hc h hr => subst e; rw [hoi] at ho'; cases ho'; exact .inr ⟨hg, .ecall g args hs hf he post hc fun x hp' hx => step _ _ rfl (h x hp' hx)⟩
          · cases h with
            | yi x ho' hy h hr => exact other hr e
            | store t x y hp' ho' hg hs hx h hr => exact other hr e
            | new nb ho' hg hx he h hr => exact other hr e
            | app x y t t' ab ho' hg hs hx h hr => exact other hr e
            | call g args ho' hg hs hf he post hc h hr => exact other hr e
      simp only [List.all_eq_true, List.mem_range, Bool.or_eq_true, Bool.not_eq_true'] at h1
      refine ⟨fun hnil => ?_, fun i hi o ho => ?_⟩
      · exfalso
        cases ps with
        | nil => simp at h2
        | cons a ps =>
          obtain ⟨i, p'⟩ := a
          simp only [plansOk, Bool.and_eq_true] at h3
          have hlt : i < ops.size := by
            rcases Nat.lt_or_ge i ops.size with h | h
            · exact h
            · have := h3.1.1
              simp [readyB, Array.getElem?_eq_none h] at this
          have : i ∈ Region.ready .any ops l := mem_readyB.2 ⟨hlt, h3.1.1⟩
          rw [hnil] at this; cases this
      · obtain ⟨g1, g2⟩ := mem_readyB.1 hi
        rcases h1 i g1 with h4 | h4
        · rw [g2] at h4; cases h4
        · exact key ps h3 h i o ho h4

/-- It serves the region as the machine does it. -/
theorem anyD_wp {ow ec ops Q} {Qc : Exit → Act → World → Prop} {X n T w0} (hQ : ∀ f hp a w, Q f hp → StF X n T w0 f hp a w → Qc .normal a w) (hall : ∀ (j : Nat) o', ops[j]? = some o' → dstOk n o' = true) :
    ∀ (m : Nat) (l : Array Bool) (f : Nat → AV) (hp : List Blk) (a : Act) (w : World), AnyD P ow ec ops Q m l f hp → StF X n T w0 f hp a w → wpAny P .any ops Qc m l a w := by
  intro m
  induction m with
  | zero => intro l f hp a w h hS; exact ⟨h.1, hQ f hp a w h.2 hS⟩
  | succ m ih =>
    intro l f hp a w h hS
    refine ⟨fun h0 => hQ f hp a w (h.1 h0) hS, fun i hi => ?_⟩
    obtain ⟨_, o, ho, _⟩ := mem_ready.1 hi
    have hd : ∀ d, o.dst = some d → d < n := fun d hd => by
      have := hall i o ho
      simpa only [dstOk, hd, decide_eq_true_eq] using this
    unfold wpOp
    simp only [ho]
    rcases h.2 i hi o ho with ⟨hg, h1⟩ | ⟨hg, h1⟩
    · rw [gd_ok hS.1 hg hall]
      exact ih _ _ _ _ _ h1 ⟨hS.1.put hd (.und _ _), hS.2⟩
    · rw [gd_ok hS.1 hg hall]
      refine .inl (Oper.wp_mono (fun a' w' => ?_) (opA_wp h1.toA hS.1 hd))
      rintro ⟨f', hp', g1, g2, g3⟩
      exact ih _ _ _ _ _ g3 ⟨g1, hS.2.trans g2⟩

theorem draw_wp {ow ec ops Q} {Qc : Exit → Act → World → Prop} {X n T w0 id p f hp a w} (hm : P.follows .mixedOrders = true) (hQ : ∀ f hp a w, Q f hp → StF X n T w0 f hp a w → Qc .normal a w) (hall : ∀ (j : Nat) o', ops[j]? = some o' → dstOk n o' = true)
    (hok : planOk P ow ec ops ops.size (Array.replicate ops.size false) p = true) (h : PR P ow ec ops Q p f hp) (hS : StF X n T w0 f hp a w) : (Code.region id ops true).wp P Qc a w := by
  refine wp_region_any hm (anyD_wp hQ hall ops.size _ f hp a _ (plan_any ops.size _ p f hp hok (fun j o hj => ?_) h) ?_)
  · exfalso
    by_cases hlt : j < ops.size
    · simp [Array.getD, hlt] at hj
    · simp [Array.getD, hlt] at hj
  · obtain ⟨h1, h2⟩ := hS
    have e : Ext (Tr hp) w { w with drawn := w.drawn + 1 } (Tr hp) := (Ext.refl (Tr hp) w fun _ h => h).drew (w.drawn + 1)
    exact ⟨h1.step e (h1.heap.step e (fun q B hq hl => .inl ⟨hq, fun n hn => rfl⟩) h1.heap.one), h2.trans e⟩
end Go.Ab
