/- One operation of any kind at abstract values (OpA), and that it is so. -/
import Derived.Test.YthfjcplhjbaplaaAb15
set_option linter.all false
namespace Go.Ab
set_option linter.unusedVariables false

/-- Is an operation done? -/
def gd (fr : Nat → AV) (ops : Array Oper) (o : Oper) : Option Bool :=
  match o.guard with
  | none => some true
  | some (j, w) => match (ops[j]?).bind (·.dst) with
    | some d => match fr d with
      | .v (.bool t) => some (t == w)
      | .tup [] => some false
      | _ => none
    | none => some false

def dstOk (n : Nat) (o : Oper) : Bool := match o.dst with | some d => decide (d < n) | none => true

/-- A callee, and all its arguments. -/
def calleeA (fr : Nat → AV) : Op → Option (FuncId × List AV)
  | .call c => match c.callee with
    | .value f => match ev fr f with
      | .fn (.func g) l1 l2 => some (g, l1 ++ c.args.toList.map (ev fr) ++ l2)
      | _ => none
    | _ => none
  | _ => none

def fnOk (P : Program) (f : FuncId) : Bool :=
  match P.funcs[f]? with
  | some fn => !(fn.name == "runtime.NumGoroutine") && !fn.body.isNone
  | none => false

def NewB.blk (nb : NewB) (b : Nat) : Blk := ⟨true, some b, nb.k, nb.t, nb.c⟩
def NewB.ref (nb : NewB) (p b : Nat) : AV := if nb.ptr = true then .ptr p nb.k (some b) 0 0 else .own p nb.k (some b) 0 nb.c.length

/-- Two operands and types of an append. -/
def appOp : Op → Option (Operand × Operand × TypeId × TypeId)
  | .call c => match c.callee, c.args.toList, c.argTypes.toList with
    | .builtin .append, [x, y], [t, t'] => some (x, y, t, t')
    | _, _, _ => none
  | _ => none
def stOp : Op → Option (TypeId × Operand × Operand)
  | .store t x y => some (t, x, y)
  | _ => none

/-- A state of which less is known. -/
def Trim (f : Fr) (h : List Blk) (f' : Fr) (h' : List Blk) : Prop := (f' = f ∨ ∃ l, f' = keepF f l) ∧ ∃ m, h' = h.take m

/-- One operation: pure, a store, a new block, a literal that nobody writes, an append, a call. -/
inductive OpA (P : Program) (o : Oper) (K : (Nat → AV) → List Blk → Prop) (f : Nat → AV) (hp : List Blk) : Prop
  | pure (x : AV) (hx : opv P f hp o.op = some x) (h : K (setF f o.dst x) hp)
  | store (t : TypeId) (x y : Operand) (hp' : List Blk) (ho : stOp o.op = some (t, x, y)) (hx : stA P hp t (ev f x) (ev f y) = some hp') (h : K (setF f o.dst .bad) hp')
  | new (nb : NewB) (hx : opn P f o.op = some nb) (h : ∀ b, K (setF f o.dst (nb.ref hp.length b)) (hp ++ [nb.blk b]))
  | lit (nb : NewB) (hx : opn P f o.op = some nb) (hp0 : nb.ptr = false) (h : K (setF f o.dst (.sl nb.k nb.c)) hp)
  | app (x y : Operand) (t t' : TypeId) (ab : AppB) (ho : appOp o.op = some (x, y, t, t')) (hx : appA P hp t t' (ev f x) (ev f y) = some ab) (h : ∀ b, K (setF f o.dst (.own ab.p ab.k b 0 ab.n)) (ab.hp b))
  | call (g : FuncId) (args : List AV) (ho : calleeA f o.op = some (g, args)) (hf : fnOk P g = true) (post : AV → List Blk → Prop) (hc : ACall P g args hp post) (h : ∀ x hp', post x hp' → K (setF f o.dst x) hp')

theorem opA_wp {P : Program} {Q : Exit → Act → World → Prop} {o : Oper} {K : (Nat → AV) → List Blk → Prop} {f : Nat → AV} {hp : List Blk} {X : Nat → Prop} {n : Nat} {a : Act} {w : World} (h : OpA P o K f hp) (hS : Sim X n f hp a w) (hd : ∀ d, o.dst = some d → d < n) :
    o.wp P a w (fun a' w' => ∃ f' hp', Sim X n f' hp' a' w' ∧ Ext (Tr hp) w w' (Tr hp') ∧ K f' hp') Q := by
  unfold Oper.wp
  cases h with
  | pure x hx h =>
    obtain ⟨u, h1, h2⟩ := opv_ok hS hx
    rw [h1]
    exact ⟨_, _, hS.put hd h2, Ext.refl _ _ fun _ h => h, h⟩
  | store t x y hp' ho' hx h =>
    obtain ⟨w', h1, h2, h3⟩ := stA_ok hS (hS.ev x) (hS.ev y) hx
    have e : (execOp a.eval o).run P w = .ok .skip w' := by
      obtain ⟨dst, op, type, pos, after, guard⟩ := o
      cases op <;> simp only [stOp, Option.some.injEq, Prod.mk.injEq] at ho' <;> try (cases ho'; done)
      obtain ⟨rfl, rfl, rfl⟩ := ho'
      simp only [execOp, Sem.run_bind, h1, Result.andThen_ok, Sem.run_pure]
    rw [e]
    exact ⟨_, _, (hS.step h2 h3).put hd (.bad _), h2, h⟩
  | new nb hx h =>
    obtain ⟨cs, c, h1, h2, h3, h4, h5, h6⟩ := opn_ok hS hx
    obtain ⟨g1, g2⟩ := hS.heap.new (k := nb.k) (t := nb.t) (c := nb.c) (cs := cs) h4 h5 h6
    rw [h1]
    refine ⟨_, _, (hS.step g1 g2).put hd ?_, g1, h w.heap.size⟩
    simp only [NewB.ref]
    split
    · have := Rep.ptr (X := un X (hp ++ [nb.blk w.heap.size])) (w := w.alloc (.cells cs nb.t)) hp.length nb.k w.heap.size 0 0
      simpa [NewB.blk] using this
    · have := Rep.own (X := un X (hp ++ [nb.blk w.heap.size])) (w := w.alloc (.cells cs nb.t)) hp.length nb.k w.heap.size 0 nb.c.length c h2 cs nb.t (0, 0) (heap_push_new w _) (by simpa using h3)
      simpa [NewB.blk] using this
  | lit nb hx hptr h =>
    obtain ⟨cs, c, h1, h2, h3, h4, h5, h6⟩ := opn_ok hS hx
    obtain ⟨g1, g2⟩ := hS.heap.new (k := nb.k) (t := nb.t) (c := nb.c) (cs := cs) h4 h5 h6
    rw [h1, if_neg (by simp [hptr])]
    have e : Ext (Tr hp) w (w.alloc (.cells cs nb.t)) (Tr hp) := g1.sub fun b hb => Tr_app_of hb
    have hh : HeapOk X hp (w.alloc (.cells cs nb.t)) := hS.heap.step e (fun q B hq hl => .inl ⟨hq, fun n hn => heap_push_old w _ n (hS.heap.tlt ⟨q, B, hq, hl, hn⟩)⟩) hS.heap.one
    refine ⟨_, _, (hS.step e hh).put hd ?_, e, h⟩
    have hsz : w.heap.size < (w.alloc (.cells cs nb.t)).heap.size := by show _ < (w.heap.push _).size; rw [Array.size_push]; omega
    have hnot : ¬ un X hp w.heap.size := by
      rintro (hX | hT)
      · exact absurd (hS.heap.lt _ hX) (by omega)
      · exact absurd (hS.heap.tlt hT) (by omega)
    have hcell : ∀ q, (w.alloc (.cells cs nb.t)).cell? ⟨w.heap.size, 0 + q, none⟩ = cs[q]? := fun q => by
      simp only [World.cell?]; rw [heap_push_new]; simp
    refine Rep.sl nb.k nb.c w.heap.size 0 c (fun i j => cs.getD (i * nb.k + j) undef) hnot hsz h2 h5 (fun i x j y hx hy => (h6 i x j y hx hy).elim fun u hu => hu.2.1) (fun i x j y hx hy => ?_) fun i x j y hx hy => ?_
    · obtain ⟨u, u1, u2, u3⟩ := h6 i x j y hx hy
      rw [Nat.zero_add] at *
      have := hcell (i * nb.k + j)
      rw [Nat.zero_add] at this
      rw [this, u1]
      simp [Array.getD_eq_getD_getElem?, u1]
    · obtain ⟨u, u1, u2, u3⟩ := h6 i x j y hx hy
      have : cs.getD (i * nb.k + j) undef = u := by simp [Array.getD_eq_getD_getElem?, u1]
      rw [this]; exact Rep.ext e u3
  | app x y t t' ab ho' hx h =>
    obtain ⟨b, v, w', h1, h2, h3, h4⟩ := appA_ok (ty := o.type) hS (hS.ev x) (hS.ev y) hx
    have e : (execOp a.eval o).run P w = .ok (.value v) w' := by
      obtain ⟨dst, op, type, pos, after, guard⟩ := o
      cases op <;> simp only [appOp] at ho' <;> try (cases ho'; done)
      rename_i c
      obtain ⟨callee, args, argTypes⟩ := c
      simp only at ho'
      split at ho'
      · rename_i q1 q2
        cases ho'
        obtain rfl := list_two q1
        obtain rfl := list_two q2
        simp only [execOp, resolve, Sem.run_bind, Sem.run_pure, Result.andThen_ok, invoke, builtin, List.map_toArray, List.map_cons, List.map_nil, h1]
      · cases ho'
    rw [e]
    exact ⟨_, _, (hS.step h2 h3).put hd h4, h2, h b⟩
  | call g args ho' hf post hc h =>
    obtain ⟨vs, e, hvs, hrep⟩ : ∃ vs : Array Value, (execOp a.eval o).run P w = .ok (.enter g vs) w ∧ vs.size = args.length ∧ ∀ (i : Nat) x u, args[i]? = some x → vs[i]? = some u → Rep (un X hp) w x u := by
      obtain ⟨dst, op, type, pos, after, guard⟩ := o
      cases op <;> simp only [calleeA] at ho' <;> try (cases ho'; done)
      rename_i c
      obtain ⟨callee, cargs, argTypes⟩ := c
      simp only at ho'
      split at ho'
      · rename_i f
        split at ho'
        · rename_i g' l1 l2 hev
          cases ho'
          have hfv := hS.ev f
          rw [hev] at hfv
          generalize hv : a.eval f = fv at hfv
          cases hfv with
          | fn _ _ _ v1 v2 n1 n2 h1 h2 =>
            refine ⟨v1 ++ cargs.map a.eval ++ v2, ?_, by simp [n1, n2], fun i x u hx hu => ?_⟩
            · simp only [execOp, resolve, Sem.run_bind, hv, Deferred.ofValue, Sem.run_pure, Result.andThen_ok, invoke, callFunc, run_program]
              unfold fnOk at hf
              split at hf
              · rename_i fn hfn
                simp only [Bool.and_eq_true, Bool.not_eq_true', Option.isNone_eq_false_iff] at hf
                simp only [hfn]
                rw [if_neg (by rw [hf.1]; simp), if_neg (by
                  have := hf.2
                  cases hb : fn.body <;> simp_all)]
                rfl
              · cases hf
            · by_cases c1 : i < l1.length
              · rw [List.append_assoc, List.getElem?_append_left c1] at hx
                rw [Array.append_assoc, Array.getElem?_append_left (by omega)] at hu
                exact h1 i x u hx hu
              · by_cases c2 : i < l1.length + cargs.size
                · rw [List.getElem?_append_left (by simp; omega), List.getElem?_append_right (by omega)] at hx
                  rw [Array.getElem?_append_left (by simp; omega), Array.getElem?_append_right (by omega), n1] at hu
                  simp only [List.getElem?_map, Array.getElem?_map, Array.getElem?_toList, Option.map_eq_some_iff] at hx hu
                  obtain ⟨q, hq, rfl⟩ := hx
                  obtain ⟨q', hq', rfl⟩ := hu
                  rw [hq] at hq'; cases hq'
                  exact hS.ev _
                · rw [List.getElem?_append_right (by simp; omega)] at hx
                  rw [Array.getElem?_append_right (by simp; omega)] at hu
                  refine h2 _ x u ?_ hu
                  rw [← hx]; congr 1; simp [n1]
        · cases ho'
      · cases ho'
    rw [e]
    simp only [Oper.upon_enter]
    refine (hc X w vs hvs hrep hS.heap).mono fun ed w' => ?_
    rintro ⟨u, x, hp', rfl, h1, h2, h3, h4⟩
    exact ⟨_, _, (hS.step h3 h2).put hd h1, h3, h x hp' h4⟩

/-- What is known of a state: what it stands for, and how it came of the first one. -/
def StF (X : Nat → Prop) (n : Nat) (T : Nat → Prop) (w0 : World) (f : Nat → AV) (hp : List Blk) (a : Act) (w : World) : Prop := Sim X n f hp a w ∧ Ext T w0 w (Tr hp)
def St (X : Nat → Prop) (n : Nat) (T : Nat → Prop) (w0 : World) (fr : Fr) (hp : List Blk) (a : Act) (w : World) : Prop := StF X n T w0 (get fr) hp a w


variable {P : Program}
theorem Rep.und (Y : Nat → Prop) (w : World) : Rep Y w (.tup []) undef := .tup [] #[] rfl (by simp)
theorem gd_ok {X n fr hp a w} (h : Sim X n fr hp a w) {ops : Array Oper} {o : Oper} {b : Bool} (hg : gd fr ops o = some b) (hn : ∀ (j : Nat) o', ops[j]? = some o' → dstOk n o' = true) : Region.wanted o (yielded ops a.tmps) = b := by
  unfold gd at hg
  unfold Region.wanted
  split at hg
  · rename_i e; cases hg; simp [e]
  · rename_i j wnt e
    simp only [e]
    split at hg
    · rename_i d hd
      have hlt : d < a.tmps.size := by
        rw [h.size]
        simp only [Option.bind_eq_some_iff] at hd
        obtain ⟨o', h1, h2⟩ := hd
        have := hn j o' h1
        simp only [dstOk, h2, decide_eq_true_eq] at this
        exact this
      have hr := h.rep d
      split at hg
      · rename_i t ht
        cases hg
        rw [ht] at hr
        have : a.tmps[d]? = some (.bool t) := by
          generalize hv : a.tmps.getD d undef = v at hr
          cases hr
          simp only [Array.getD, hlt, dif_pos] at hv
          rw [Array.getElem?_eq_getElem hlt]
          exact congrArg some hv
        simp only [yielded, hd, Option.bind_some, this]
        cases t <;> cases wnt <;> rfl
      · rename_i ht
        cases hg
        rw [ht] at hr
        have : ∃ vs, a.tmps[d]? = some (.tuple vs) := by
          generalize hv : a.tmps.getD d undef = v at hr
          cases hr
          simp only [Array.getD, hlt, dif_pos] at hv
          rw [Array.getElem?_eq_getElem hlt]
          exact ⟨_, congrArg some hv⟩
        obtain ⟨vs, this⟩ := this
        simp only [yielded, hd, Option.bind_some, this]
        rfl
      · cases hg
    · rename_i hd
      cases hg
      simp [yielded, hd]

theorem Tr_take {hp : List Blk} {m b : Nat} (h : Tr (hp.take m) b) : Tr hp b := by
  obtain ⟨p, B, h1, h2, h3⟩ := h
  rw [List.getElem?_take] at h1
  split at h1
  · exact ⟨p, B, h1, h2, h3⟩
  · cases h1
theorem get_take {hp : List Blk} {m p : Nat} {B : Blk} (h : (hp.take m)[p]? = some B) : hp[p]? = some B := by
  rw [List.getElem?_take] at h
  split at h
  · exact h
  · cases h
theorem un_take {X : Nat → Prop} {hp : List Blk} {m b : Nat} (h : un X (hp.take m) b) : un X hp b := h.imp id Tr_take
theorem HeapOk.take {X hp w} (h : HeapOk X hp w) (m : Nat) : HeapOk X (hp.take m) w where
  ok p B hp' hl := by
    obtain ⟨g1, g2⟩ := h.ok p B (get_take hp') hl
    refine ⟨g1, fun n hn => ?_⟩
    obtain ⟨cs, k1, k2, k3, k4⟩ := g2 n hn
    refine ⟨cs, k1, k2, k3, fun i x j y hx hy => ?_⟩
    obtain ⟨u, u1, u2, u3⟩ := k4 i x j y hx hy
    exact ⟨u, u1, u2, u3.anti fun b => un_take⟩
  out n hn := h.out n (Tr_take hn)
  lt := h.lt
  one p q B C n h1 h2 := h.one p q B C n (get_take h1) (get_take h2)
theorem Sim.take {X n fr hp a w} (h : Sim X n fr hp a w) (m : Nat) : Sim X n fr (hp.take m) a w :=
  ⟨h.size, h.defers, fun t => (h.rep t).anti fun b => un_take, h.heap.take m⟩
theorem St.trim {X n T w0 fr hp fr' hp' a w} (h : St X n T w0 fr hp a w) (ht : Trim fr hp fr' hp') : St X n T w0 fr' hp' a w := by
  obtain ⟨h1, m, rfl⟩ := ht
  refine ⟨?_, h.2.sub fun b => Tr_take⟩
  rcases h1 with rfl | ⟨l, rfl⟩
  · exact h.1.take m
  · exact (h.1.keep l).take m

end Go.Ab
