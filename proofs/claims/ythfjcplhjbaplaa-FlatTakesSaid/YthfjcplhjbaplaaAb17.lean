/- Entering a function; what it tells; handing blocks over to those who only read. -/
import Derived.Test.YthfjcplhjbaplaaAbW
set_option linter.all false
namespace Go.Ab
set_option linter.unusedVariables false
variable {P : Program}

def initF : Nat → List AV → Fr
  | _, [] => []
  | i, x :: r => (i, x) :: initF (i + 1) r
theorem get_initF : ∀ (l : List AV) (i t : Nat), get (initF i l) t = if i ≤ t then (l[t - i]?).getD .bad else .bad := by
  intro l
  induction l with
  | nil => intro i t; simp [initF, get]
  | cons x l ih =>
    intro i t
    simp only [initF, get]
    by_cases c : i = t
    · subst c; simp
    · rw [if_neg c, ih]
      by_cases c1 : i + 1 ≤ t
      · rw [if_pos c1, if_pos (by omega)]
        have : t - i = (t - (i + 1)) + 1 := by omega
        rw [this]; rfl
      · rw [if_neg c1, if_neg (by omega)]

def resOne (P : Program) (fr : Fr) (hp : List Blk) : ResultVar → Option AV
  | .tmp t => some (get fr t)
  | .cell a t => loadA P hp t (get fr a)
def resL (P : Program) (fr : Fr) (hp : List Blk) : List ResultVar → Option (List AV)
  | [] => some []
  | r :: l => match resOne P fr hp r, resL P fr hp l with
    | some x, some xs => some (x :: xs)
    | _, _ => none
def tupA : List AV → AV
  | [x] => x
  | l => .tup l
/-- What a function tells. -/
def resA (P : Program) (rs : List ResultVar) (fr : Fr) (hp : List Blk) : Option AV := (resL P fr hp rs).map tupA

def resVar (tmps : Array Value) : ResultVar → Sem Value
  | .tmp t => pure (tmps.getD t undef)
  | .cell a t => do loadVar t (← asAddr (tmps.getD a undef))
theorem resOne_ok {X n fr hp a w} (h : Sim X n (get fr) hp a w) {r : ResultVar} {x : AV} (hx : resOne P fr hp r = some x) :
    ∃ u, (resVar a.tmps r).run P w = .ok u w ∧ Rep (un X hp) w x u := by
  cases r with
  | tmp t => cases hx; exact ⟨_, rfl, h.rep t⟩
  | cell a' t =>
    simp only [resOne] at hx
    obtain ⟨r, h1, h2⟩ := load_ok (P := P) h (h.rep a') hx
    refine ⟨r, ?_, h2⟩
    have hp' : ∃ ad, a.tmps.getD a' undef = .pointer (some ad) := by
      have := h.rep a'
      generalize a.tmps.getD a' undef = v at this
      generalize get fr a' = y at this hx
      cases this <;> simp only [loadA] at hx <;> first | exact ⟨_, rfl⟩ | cases hx
    obtain ⟨ad, hv⟩ := hp'
    rw [hv] at h1
    simp only [resVar, hv, asAddr, Sem.run_bind, Sem.run_pure, Result.andThen_ok]
    simpa only [Instr.loadAt, Instr.sureAddr, Sem.run_bind, Sem.run_pure, Result.andThen_ok] using h1

theorem resL_ok {X n fr hp a w} (h : Sim X n (get fr) hp a w) : ∀ (l : List ResultVar) (xs : List AV), resL P fr hp l = some xs →
    ∃ us : List Value, (l.mapM (resVar a.tmps)).run P w = .ok us w ∧ us.length = xs.length ∧
      ∀ (i : Nat) x u, xs[i]? = some x → us[i]? = some u → Rep (un X hp) w x u := by
  intro l
  induction l with
  | nil => intro xs hx; cases hx; exact ⟨[], rfl, rfl, by simp⟩
  | cons r l ih =>
    intro xs hx
    simp only [resL] at hx
    split at hx
    · rename_i x xs' h1 h2
      cases hx
      obtain ⟨u, u1, u2⟩ := resOne_ok h h1
      obtain ⟨us, g1, g2, g3⟩ := ih _ h2
      refine ⟨u :: us, ?_, by simp [g2], fun i y v hy hv => ?_⟩
      · rw [List.mapM_cons]
        simp only [Sem.run_bind]
        rw [u1]
        simp only [Result.andThen_ok, Sem.run_bind]
        rw [g1]; rfl
      · cases i with
        | zero => simp at hy hv; subst hy; subst hv; exact u2
        | succ i => exact g3 i y v (by simpa using hy) (by simpa using hv)
    · cases hx

theorem results_ok {X n fr hp a w} (h : Sim X n (get fr) hp a w) {fn : Func} {x : AV} (hx : resA P fn.results.toList fr hp = some x) :
    ∃ u, (results fn a.tmps).run P w = .ok u w ∧ Rep (un X hp) w x u := by
  simp only [resA, Option.map_eq_some_iff] at hx
  obtain ⟨xs, h1, rfl⟩ := hx
  obtain ⟨us, g1, g2, g3⟩ := resL_ok h _ _ h1
  have hm : (results fn a.tmps).run P w = .ok (if h : us.toArray.size = 1 then us.toArray[0] else .tuple us.toArray) w := by
    have e0 : results fn a.tmps = (do let vs ← fn.results.mapM (resVar a.tmps); pure (if h : vs.size = 1 then vs[0] else .tuple vs)) := rfl
    rw [e0, Sem.run_bind]
    have : fn.results = fn.results.toList.toArray := by simp
    rw [this, List.mapM_toArray, Sem.run_map]
    have g1' := g1
    rw [g1']
    rfl
  refine ⟨_, hm, ?_⟩
  match xs, us, g2, g3 with
  | [x], [u], _, g3 => simpa [tupA] using g3 0 x u rfl rfl
  | [], [], _, _ => exact .tup _ _ rfl (by simp)
  | x :: y :: xs, u :: v :: us, g2, g3 =>
    rw [dif_neg (by simp)]
    exact .tup _ _ (by simpa using g2) fun i x u hx hu => g3 i x u hx (by simpa using hu)

/-- A function is what its body comes to. -/
theorem ACall.intro {f : FuncId} {fn : Func} {c : Code} {C : Cfg} {args : List AV} {bs : List Blk} {post : AV → List Blk → Prop} (hm : P.follows .mixedOrders = true)
    (hf : P.funcs[f]? = some fn) (hb : fn.body = some c) (hn : fn.ntmps = C.n) (hok : okC P C c = true) (hl : args.length ≤ C.n)
    (h : W P C (fun fr hp => ∃ r, resA P fn.results.toList fr hp = some r ∧ post r hp) [.code c] (initF 0 args) bs) : ACall P f args bs post := by
  intro X w vs hvs hrep hh
  refine calls_of_wp hf hb ?_
  have hS : St X C.n (Tr bs) w (initF 0 args) bs { tmps := vs ++ Array.replicate (fn.ntmps - vs.size) undef, defers := [] } w := by
    refine ⟨⟨by simp [hn, hvs]; omega, rfl, fun t => ?_, hh⟩, Ext.refl _ _ fun _ h => h⟩
    rw [get_initF, if_pos (Nat.zero_le _), Nat.sub_zero]
    cases hx : args[t]? with
    | none => exact .bad _
    | some x =>
      have hlt : t < args.length := (List.getElem?_eq_some_iff.1 hx).1
      have hv : vs[t]? = some (vs[t]'(by omega)) := Array.getElem?_eq_getElem (by omega)
      refine hrep t x _ hx ?_
      rw [Array.getD_eq_getD_getElem?, Array.getElem?_append_left (by omega), hv]; rfl
  have := W.sound (F := bodyPost P fn (fun e w' => ∃ u r bs', e = .returned u ∧ Rep (un X bs') w' r u ∧ HeapOk X bs' w' ∧ Ext (Tr bs) w w' (Tr bs') ∧ post r bs')) (X := X) (T := Tr bs) (w0 := w) hm
    (fun fr hp a w' hR hS' => by
      obtain ⟨r, hr, hpost⟩ := hR
      obtain ⟨u, u1, u2⟩ := results_ok hS'.1 hr
      have : bodyPost P fn (fun e w' => ∃ u r bs', e = .returned u ∧ Rep (un X bs') w' r u ∧ HeapOk X bs' w' ∧ Ext (Tr bs) w w' (Tr bs') ∧ post r bs') .normal a w' :=
        ⟨hS'.1.defers, u, u1, u, r, hp, rfl, u2, hS'.1.heap, hS'.2, hpost⟩
      exact ⟨this, this⟩) h (fun x hx => by simp at hx; subst hx; exact hok) _ w hS
  exact this

/-- Blocks handed over to those who only read. -/
def fz (hp : List Blk) (m : Nat) : Nat → AV → Option AV
  | 0, _ => none
  | f + 1, .own p k b off len => if p < m then some (.own p k b off len) else match rowsOf hp k (.own p k b off len) with
    | some l => (l.mapM (fz hp m f)).map (.sl k)
    | none => none
  | f + 1, .ptr p k b i j => if p < m then some (.ptr p k b i j) else match blkAt hp p k b with
    | some B => match B.c[i]? with
      | some e => (fz hp m f e).map (.rp · j)
      | none => none
    | none => none
  | f + 1, .agg l => (l.mapM (fz hp m f)).map .agg
  | f + 1, .tup l => (l.mapM (fz hp m f)).map .tup
  | _ + 1, x => some x

theorem mapM_some {α β : Type} {f : α → Option β} : ∀ {l : List α} {r : List β}, l.mapM f = some r → l.length = r.length ∧ ∀ (i : Nat) y, r[i]? = some y → ∃ x, l[i]? = some x ∧ f x = some y := by
  intro l
  induction l with
  | nil => intro r h; cases h; exact ⟨rfl, by simp⟩
  | cons a l ih =>
    intro r h
    simp only [List.mapM_cons] at h
    cases ha : f a with
    | none => rw [ha] at h; cases h
    | some b =>
      cases hl : l.mapM f with
      | none => rw [ha, hl] at h; cases h
      | some bs =>
        rw [ha, hl] at h; cases h
        obtain ⟨h1, h2⟩ := ih hl
        refine ⟨by simp [h1], fun i y hy => ?_⟩
        cases i with
        | zero => simp at hy; subst hy; exact ⟨a, rfl, ha⟩
        | succ i => exact h2 i y (by simpa using hy)

theorem fz_one {hp : List Blk} {m f : Nat} {x y : AV} (h : fz hp m f x = some y) (ho : oneA x = true) : oneA y = true := by
  cases f with
  | zero => cases h
  | succ f =>
    cases x <;> simp only [fz] at h <;> try (cases ho; done)
    all_goals first
      | (cases h; rfl)
      | (split at h
         · cases h; rfl
         · split at h
           · first
             | (simp only [Option.map_eq_some_iff] at h; obtain ⟨l, _, rfl⟩ := h; rfl)
             | (split at h
                · simp only [Option.map_eq_some_iff] at h; obtain ⟨l, _, rfl⟩ := h; rfl
                · cases h)
           · cases h)

theorem fz_cells {hp : List Blk} {m f : Nat} {x y : AV} (h : fz hp m f x = some y) : x.cells.length = y.cells.length ∧ ∀ (j : Nat) z, y.cells[j]? = some z → ∃ z0 f', x.cells[j]? = some z0 ∧ f' ≤ f ∧ fz hp m f' z0 = some z := by
  cases f with
  | zero => cases h
  | succ f =>
    by_cases ha : ∃ l, x = .agg l
    · obtain ⟨l, rfl⟩ := ha
      simp only [fz, Option.map_eq_some_iff] at h
      obtain ⟨r, h1, rfl⟩ := h
      obtain ⟨g1, g2⟩ := mapM_some h1
      exact ⟨g1, fun j z hz => by obtain ⟨z0, k1, k2⟩ := g2 j z hz; exact ⟨z0, f, k1, by omega, k2⟩⟩
    · have e1 : x.cells = [x] := by cases x <;> first | rfl | exact absurd ⟨_, rfl⟩ ha
      have e2 : y.cells = [y] := by
        cases x <;> simp only [fz] at h
        case agg l => exact absurd ⟨_, rfl⟩ ha
        all_goals first
          | (cases h; rfl)
          | (simp only [Option.map_eq_some_iff] at h; obtain ⟨r, _, rfl⟩ := h; rfl)
          | (split at h
             · cases h; rfl
             · split at h
               · first
                 | (simp only [Option.map_eq_some_iff] at h; obtain ⟨l, _, rfl⟩ := h; rfl)
                 | (split at h
                    · simp only [Option.map_eq_some_iff] at h; obtain ⟨l, _, rfl⟩ := h; rfl
                    · cases h)
               · cases h)
      rw [e1, e2]
      refine ⟨rfl, fun j z hz => ?_⟩
      cases j with
      | zero => simp at hz; subst hz; exact ⟨x, f + 1, rfl, Nat.le_refl _, h⟩
      | succ j => simp at hz

theorem fz_ok {X n fr hp a w} (h : Sim X n fr hp a w) (m : Nat) : ∀ (N f : Nat), f ≤ N → ∀ (x y : AV) (u : Value), Rep (un X hp) w x u → fz hp m f x = some y → Rep (un X (hp.take m)) w y u := by
  intro N
  induction N with
  | zero => intro f hf x y u hx hy; obtain rfl : f = 0 := by omega
            cases hy
  | succ N ih =>
    intro f hf x y u hx hy
    cases f with
    | zero => cases hy
    | succ f =>
      have hsub : ∀ b, un X (hp.take m) b → un X hp b := fun b => un_take
      have hnot : ∀ p k b B, hp[p]? = some B → B.live = true → B.b = some b → ¬ p < m → B.k = k → ¬ un X (hp.take m) b := by
        rintro p k b B h1 h2 h3 h4 _ (hX | ⟨q, C, q1, q2, q3⟩)
        · exact h.heap.out b ⟨p, B, h1, h2, h3⟩ hX
        · have e := h.heap.one q p C B b (get_take q1) h1 q2 h2 q3 h3
          subst e
          have := (List.getElem?_eq_some_iff.1 q1).1
          simp at this; omega
      have h0 := hx
      cases hx <;> simp only [fz] at hy <;> try (first | (cases hy; exact h0.anti hsub; done))
      case agg l vs hn ho hh =>
        simp only [Option.map_eq_some_iff] at hy
        obtain ⟨r, h1, rfl⟩ := hy
        obtain ⟨g1, g2⟩ := mapM_some h1
        refine .agg r vs (by omega) (fun i z hz => ?_) fun i z v hz hv => ?_
        · obtain ⟨z0, k1, k2⟩ := g2 i z hz; exact fz_one k2 (ho i z0 k1)
        · obtain ⟨z0, k1, k2⟩ := g2 i z hz; exact ih f (by omega) z0 z v (hh i z0 v k1 hv) k2
      case tup l vs hn hh =>
        simp only [Option.map_eq_some_iff] at hy
        obtain ⟨r, h1, rfl⟩ := hy
        obtain ⟨g1, g2⟩ := mapM_some h1
        refine .tup r vs (by omega) fun i z v hz hv => ?_
        obtain ⟨z0, k1, k2⟩ := g2 i z hz; exact ih f (by omega) z0 z v (hh i z0 v k1 hv) k2
      case ownE p k b off ad =>
        split at hy
        · cases hy; exact h0.anti hsub
        · split at hy
          · rename_i l hl
            simp only [Option.map_eq_some_iff] at hy
            obtain ⟨r, h1, rfl⟩ := hy
            obtain ⟨ad', c, e, _⟩ := rowsOf_ok h h0 hl
            simp only [Value.slice.injEq] at e
            obtain rfl : l = [] := List.eq_nil_of_length_eq_zero e.2.1.symm
            cases h1
            exact .sl0 _ _ _
          · cases hy
      case own p k b off len c hc cs e z hb hs =>
        split at hy
        · cases hy; exact h0.anti hsub
        · rename_i hpm
          split at hy
          · rename_i l hl
            simp only [Option.map_eq_some_iff] at hy
            obtain ⟨r, h1, rfl⟩ := hy
            obtain ⟨g1, g2⟩ := mapM_some h1
            obtain ⟨ad', c', e', hcell⟩ := rowsOf_ok h h0 hl
            simp only [Value.slice.injEq] at e'
            obtain ⟨rfl, rfl, rfl⟩ := e'
            have hB : ∃ B, blkAt hp p k (some b) = some B := by
              simp only [rowsOf] at hl
              split at hl
              · exact ⟨_, by assumption⟩
              · cases hl
            obtain ⟨B, hB⟩ := hB
            obtain ⟨b1, b2, b3, b4⟩ := blkAt_some hB
            cases l with
            | nil => cases h1; simp only [List.length_nil]; exact .sl0 _ _ _
            | cons q l =>
              obtain ⟨b', off', e2, hk, hcl⟩ := hcell (by simp)
              cases e2
              rw [g1]
              refine .sl k r b (off * k) c (fun i j => (w.cell? ⟨b, off * k + i * k + j, none⟩).getD undef) (hnot p k b B b1 b2 b4 hpm b3) (Array.getElem?_eq_some_iff.1 hb).1 (by omega) (fun i x hx => ?_) (fun i x j y hx hy => ?_) (fun i x j y hx hy => ?_) fun i x j y hx hy => ?_
              · obtain ⟨x0, k1, k2⟩ := g2 i x hx
                rw [← (fz_cells k2).1]; exact hk i x0 k1
              · obtain ⟨x0, k1, k2⟩ := g2 i x hx
                obtain ⟨z0, f', q1, q2, q3⟩ := (fz_cells k2).2 j y hy
                obtain ⟨v, v1, v2, v3⟩ := hcl i x0 j z0 k1 q1
                exact fz_one q3 v2
              · obtain ⟨x0, k1, k2⟩ := g2 i x hx
                obtain ⟨z0, f', q1, q2, q3⟩ := (fz_cells k2).2 j y hy
                obtain ⟨v, v1, v2, v3⟩ := hcl i x0 j z0 k1 q1
                rw [v1]; rfl
              · obtain ⟨x0, k1, k2⟩ := g2 i x hx
                obtain ⟨z0, f', q1, q2, q3⟩ := (fz_cells k2).2 j y hy
                obtain ⟨v, v1, v2, v3⟩ := hcl i x0 j z0 k1 q1
                rw [v1]
                exact ih f' (by omega) z0 y v v3 q3
          · cases hy
      case ptr p k b i j =>
        split at hy
        · cases hy; exact h0.anti hsub
        · rename_i hpm
          split at hy
          · rename_i B hB
            obtain ⟨b1, b2, b3, b4⟩ := blkAt_some hB
            split at hy
            · rename_i e he
              simp only [Option.map_eq_some_iff] at hy
              obtain ⟨d, h1, rfl⟩ := hy
              obtain ⟨cs, g1, g2, g3, g4⟩ := (h.heap.ok p B b1 b2).2 b b4
              subst b3
              refine .rp d j b (i * B.k) (fun q => (w.cell? ⟨b, i * B.k + q, none⟩).getD undef) (hnot p B.k b B b1 b2 b4 hpm rfl) (Array.getElem?_eq_some_iff.1 g1).1 (fun q z hz => ?_) (fun q z hz => ?_) fun q z hz => ?_
              all_goals
                obtain ⟨z0, f', q1, q2, q3⟩ := (fz_cells h1).2 q z hz
                obtain ⟨v, v1, v2, v3⟩ := g4 i e q z0 he q1
                have hcell : w.cell? ⟨b, i * B.k + q, none⟩ = some v := by simp [World.cell?, g1, v1]
              · exact fz_one q3 v2
              · rw [hcell]; rfl
              · rw [hcell]; exact ih f' (by omega) z0 z v v3 q3
            · cases hy
          · cases hy

theorem HeapOk.sim {X hp w} (h : HeapOk X hp w) : Sim X 0 (fun _ => .bad) hp { tmps := #[], defers := [] } w := ⟨rfl, rfl, fun _ => .bad _, h⟩

/-- What a call has made and hands back is nobody's to write any more. -/
theorem ACall.freeze {f args bs post} (h : ACall P f args bs fun r hp => ∃ y, fz hp bs.length 6 r = some y ∧ post y (hp.take bs.length)) : ACall P f args bs post := by
  intro X w vs hvs hrep hh
  refine (h X w vs hvs hrep hh).mono fun e w' => ?_
  rintro ⟨u, r, hp, he, h1, h2, h3, y, h4, h5⟩
  exact ⟨u, y, hp.take bs.length, he, fz_ok h2.sim bs.length 6 6 (Nat.le_refl _) r y u h1 h4, h2.take _, h3.sub fun b => Tr_take, h5⟩

theorem un_nil {X : Nat → Prop} {b : Nat} : un X [] b ↔ X b := ⟨fun h => h.elim id fun ⟨p, B, h, _⟩ => by simp at h, .inl⟩
theorem Tr_nil {b : Nat} : ¬ Tr [] b := fun ⟨p, B, h, _⟩ => by simp at h

/-- A call that owns nothing, at whatever the caller owns. -/
theorem ACall.frame {f args} {Q : AV → Prop} (h : ACall P f args [] fun r bs => Q r ∧ bs = []) (hp : List Blk) : ACall P f args hp fun r hp' => Q r ∧ hp' = hp := by
  intro X w vs hvs hrep hh
  have h0 : HeapOk (un X hp) [] w := ⟨fun p B hB => by simp at hB, fun n hn => absurd hn Tr_nil, fun n hn => hn.elim (hh.lt n) hh.tlt, fun p q B C n hB => by simp at hB⟩
  refine (h (un X hp) w vs hvs (fun i x u hx hu => (hrep i x u hx hu).anti fun b hb => un_nil.1 hb) h0).mono fun e w' => ?_
  rintro ⟨u, r, bs', he, h1, h2, h3, h4, rfl⟩
  have e' : Ext (Tr hp) w w' (Tr hp) := ⟨h3.os, h3.tape, h3.output, h3.size, fun b hb _ => h3.old b hb Tr_nil, h3.rows, fun b hb => .inl hb⟩
  refine ⟨u, r, hp, he, h1.anti fun b hb => un_nil.2 hb, ?_, e', h4, rfl⟩
  exact hh.step e' (fun q B hq hl => .inl ⟨hq, fun n hn => h3.old n (hh.tlt ⟨q, B, hq, hl, hn⟩) Tr_nil⟩) hh.one

/-- A pure call, by its contract. -/
structure APure (P : Program) (f : FuncId) (args : List AV) (x : AV) : Prop where
  ok : fnOk P f = true
  call : ACall P f args [] fun r bs => r = x ∧ bs = []
theorem APure.at {f args x} (h : APure P f args x) (hp : List Blk) : ACall P f args hp fun r hp' => r = x ∧ hp' = hp := ACall.frame (Q := fun r => r = x) h.call hp

/-- A loop, its states named by s. -/
theorem W.loopS {C : Cfg} {R : Fr → List Blk → Prop} {c : Code} {s : List It} {fr : Fr} {hp : List Blk} {σ : Type} (F : σ → Fr) (H : σ → List Blk) (I : σ → Prop) (μ : σ → Nat) (s0 : σ) (h0 : I s0) (hf : fr = F s0) (hh : hp = H s0)
    (h : ∀ x, I x → W P C R (.code c :: .back (fun f h => ∃ y, I y ∧ μ y < μ x ∧ Trim f h (F y) (H y)) :: s) (F x) (H x)) : W P C R (.code (.loop c) :: s) fr hp := by
  subst hf hh
  refine .loop (fun m fr hp => ∃ x, I x ∧ μ x = m ∧ fr = F x ∧ hp = H x) (μ s0) ⟨s0, h0, rfl, rfl, rfl⟩ ?_
  rintro m fr hp ⟨x, hx, rfl, rfl, rfl⟩
  have := h x hx
  have e : (fun f h => ∃ y, I y ∧ μ y < μ x ∧ Trim f h (F y) (H y)) = fun f h => ∃ m', m' < μ x ∧ ∃ f' h', Trim f h f' h' ∧ ∃ y, I y ∧ μ y = m' ∧ f' = F y ∧ h' = H y := by
    funext f h
    apply propext
    constructor
    · rintro ⟨y, h1, h2, h3⟩; exact ⟨μ y, h2, _, _, h3, y, h1, rfl, rfl, rfl⟩
    · rintro ⟨m', h1, f', h', h2, y, h3, rfl, rfl, rfl⟩; exact ⟨y, h3, h1, h2⟩
  rw [e] at this; exact this
end Go.Ab
