/- The walk over code at abstract values (W), and that what it shows is so. -/
import Derived.Test.YthfjcplhjbaplaaAbD
set_option linter.all false
namespace Go.Ab
set_option linter.unusedVariables false

/-- What is still to be done. -/
inductive It where
  | code (c : Code)
  | blk (id : Nat)
  | back (J : Fr → List Blk → Prop)
  | reg (ops : Array Oper) (id : Nat) (i : Nat) (rest : List Oper)
  | drw (ops : Array Oper) (id : Nat) (p : Plan)

def popTo (id : Nat) : List It → Option (List It)
  | [] => none
  | .blk i :: s => if i = id then some s else popTo id s
  | _ :: s => popTo id s

/-- What is told of a function's code beside it: how many temporaries; those kept behind each region; literals that are owned; calls that own; the plans of regions that draw. -/
structure Cfg where
  n : Nat
  kp : Nat → List Nat
  ow : List Nat
  ec : List Nat
  pl : Nat → Plan

/-- The walk: with P, so many temporaries, those that are kept behind each region, and what shall hold at the end. -/
inductive W (P : Program) (C : Cfg) (R : Fr → List Blk → Prop) : List It → Fr → List Blk → Prop
  | done {fr hp} (h : R fr hp) : W P C R [] fr hp
  | ret {s fr hp} (h : R fr hp) : W P C R (.code .ret :: s) fr hp
  | skip {s fr hp} (h : W P C R s fr hp) : W P C R (.code .skip :: s) fr hp
  | seq {a b s fr hp} (h : W P C R (.code a :: .code b :: s) fr hp) : W P C R (.code (.seq a b) :: s) fr hp
  | cond {c a b s fr hp t} (he : ev (get fr) c = .v (.bool t)) (h1 : t = true → W P C R (.code a :: s) fr hp) (h2 : t = false → W P C R (.code b :: s) fr hp) : W P C R (.code (.cond c a b) :: s) fr hp
  | block {id c s fr hp} (h : W P C R (.code c :: .blk id :: s) fr hp) : W P C R (.code (.block id c) :: s) fr hp
  | endb {id s fr hp} (h : W P C R s fr hp) : W P C R (.blk id :: s) fr hp
  | exit {id s s' fr hp} (he : popTo id s = some s') (h : W P C R s' fr hp) : W P C R (.code (.exit id) :: s) fr hp
  | loop {c s fr hp} (J : Nat → Fr → List Blk → Prop) (m0 : Nat) (h0 : J m0 fr hp)
      (h : ∀ m fr' hp', J m fr' hp' → W P C R (.code c :: .back (fun f h => ∃ m', m' < m ∧ ∃ f' h', Trim f h f' h' ∧ J m' f' h') :: s) fr' hp') : W P C R (.code (.loop c) :: s) fr hp
  | back {J s fr hp} (h : J fr hp) : W P C R (.back J :: s) fr hp
  | reg {id ops s fr hp} (h : W P C R (.reg ops id 0 ops.toList :: s) fr hp) : W P C R (.code (.region id ops false) :: s) fr hp
  | regE {id ops i s fr hp} (h : W P C R s (keepF fr (C.kp id)) hp) : W P C R (.reg ops id i [] :: s) fr hp
  | nop {id ops i o r s fr hp} (hg : gd (get fr) ops o = some false) (h : W P C R (.reg ops id (i + 1) r :: s) (setO fr o.dst (.tup [])) hp) : W P C R (.reg ops id i (o :: r) :: s) fr hp
  | pure {id ops i o r s fr hp x} (hg : gd (get fr) ops o = some true) (hx : opv P (get fr) hp o.op = some x) (h : W P C R (.reg ops id (i + 1) r :: s) (setO fr o.dst x) hp) : W P C R (.reg ops id i (o :: r) :: s) fr hp
  | store {id ops i o r s fr hp t x y hp'} (hg : gd (get fr) ops o = some true) (ho : stOp o.op = some (t, x, y)) (hx : stA P hp t (ev (get fr) x) (ev (get fr) y) = some hp')
      (h : W P C R (.reg ops id (i + 1) r :: s) (setO fr o.dst .bad) hp') : W P C R (.reg ops id i (o :: r) :: s) fr hp
  | new {id ops i o r s fr hp nb} (hg : gd (get fr) ops o = some true) (hx : opn P (get fr) o.op = some nb)
      (h : ∀ b, W P C R (.reg ops id (i + 1) r :: s) (setO fr o.dst (nb.ref hp.length b)) (hp ++ [nb.blk b])) : W P C R (.reg ops id i (o :: r) :: s) fr hp
  | lit {id ops i o r s fr hp nb} (hg : gd (get fr) ops o = some true) (hx : opn P (get fr) o.op = some nb) (hp0 : nb.ptr = false)
      (h : W P C R (.reg ops id (i + 1) r :: s) (setO fr o.dst (.sl nb.k nb.c)) hp) : W P C R (.reg ops id i (o :: r) :: s) fr hp
  | app {id ops i o r s fr hp x y t t' ab} (hg : gd (get fr) ops o = some true) (ho : appOp o.op = some (x, y, t, t')) (hx : appA P hp t t' (ev (get fr) x) (ev (get fr) y) = some ab)
      (h : ∀ b, W P C R (.reg ops id (i + 1) r :: s) (setO fr o.dst (.own ab.p ab.k b 0 ab.n)) (ab.hp b)) : W P C R (.reg ops id i (o :: r) :: s) fr hp
  | call {id ops i o r s fr hp g args} (hg : gd (get fr) ops o = some true) (ho : calleeA (get fr) o.op = some (g, args)) (hf : fnOk P g = true) (post : AV → List Blk → Prop) (hc : ACall P g args hp post)
      (h : ∀ x hp', post x hp' → W P C R (.reg ops id (i + 1) r :: s) (setO fr o.dst x) hp') : W P C R (.reg ops id i (o :: r) :: s) fr hp
  | weak {c s fr hp} (fr' : Fr) (hp' : List Blk) (hs : ∀ X a w, Sim X C.n (get fr) hp a w → Sim X C.n (get fr') hp' a w ∧ ∀ b, Tr hp' b → Tr hp b) (h : W P C R (.code c :: s) fr' hp') : W P C R (.code c :: s) fr hp
  | draw {id ops s fr hp} (h : W P C R (.drw ops id (C.pl id) :: s) fr hp) : W P C R (.code (.region id ops true) :: s) fr hp
  | dfin {id ops s fr hp} (h : W P C R s (keepF fr (C.kp id)) hp) : W P C R (.drw ops id .fin :: s) fr hp
  | done1 {id ops i p s fr hp o} (x : AV) (ho : ops[i]? = some o) (hy : Yi P C.ow C.ec ops o x (get fr) hp) (h : W P C R (.drw ops id p :: s) (setO fr o.dst x) hp) : W P C R (.drw ops id (.one i p) :: s) fr hp
  | dnil {id ops s fr hp} : W P C R (.drw ops id (.br []) :: s) fr hp
  | dyi {id ops i p r s fr hp o} (x : AV) (ho : ops[i]? = some o) (hy : Yi P C.ow C.ec ops o x (get fr) hp) (h : W P C R (.drw ops id p :: s) (setO fr o.dst x) hp) (hr : W P C R (.drw ops id (.br r) :: s) fr hp) : W P C R (.drw ops id (.br ((i, p) :: r)) :: s) fr hp
  | dstore {id ops i p r s fr hp o} (t : TypeId) (x y : Operand) (hp' : List Blk) (ho : ops[i]? = some o) (hg : gd (get fr) ops o = some true) (hs : stOp o.op = some (t, x, y)) (hx : stA P hp t (ev (get fr) x) (ev (get fr) y) = some hp')
      (h : W P C R (.drw ops id p :: s) (setO fr o.dst .bad) hp') (hr : W P C R (.drw ops id (.br r) :: s) fr hp) : W P C R (.drw ops id (.br ((i, p) :: r)) :: s) fr hp
  | dnew {id ops i p r s fr hp o} (nb : NewB) (ho : ops[i]? = some o) (hg : gd (get fr) ops o = some true) (hx : opn P (get fr) o.op = some nb) (he : eff C.ow C.ec o = 1 ∨ eff C.ow C.ec o = 2)
      (h : ∀ b, W P C R (.drw ops id p :: s) (setO fr o.dst (nb.ref hp.length b)) (hp ++ [nb.blk b])) (hr : W P C R (.drw ops id (.br r) :: s) fr hp) : W P C R (.drw ops id (.br ((i, p) :: r)) :: s) fr hp
  | dapp {id ops i p r s fr hp o} (x y : Operand) (t t' : TypeId) (ab : AppB) (ho : ops[i]? = some o) (hg : gd (get fr) ops o = some true) (hs : appOp o.op = some (x, y, t, t')) (hx : appA P hp t t' (ev (get fr) x) (ev (get fr) y) = some ab)
      (h : ∀ b, W P C R (.drw ops id p :: s) (setO fr o.dst (.own ab.p ab.k b 0 ab.n)) (ab.hp b)) (hr : W P C R (.drw ops id (.br r) :: s) fr hp) : W P C R (.drw ops id (.br ((i, p) :: r)) :: s) fr hp
  | dcall {id ops i p r s fr hp o} (g : FuncId) (args : List AV) (ho : ops[i]? = some o) (hg : gd (get fr) ops o = some true) (hs : calleeA (get fr) o.op = some (g, args)) (hf : fnOk P g = true) (he : eff C.ow C.ec o = 2) (post : AV → List Blk → Prop) (hc : ACall P g args hp post)
      (h : ∀ x hp', post x hp' → W P C R (.drw ops id p :: s) (setO fr o.dst x) hp') (hr : W P C R (.drw ops id (.br r) :: s) fr hp) : W P C R (.drw ops id (.br ((i, p) :: r)) :: s) fr hp

section
variable (P : Program) (F : Exit → Act → World → Prop) (S : Fr → List Blk → Act → World → Prop)
/-- What a stack of code still to be done means. -/
def den : List It → Exit → Act → World → Prop
  | [], e, a, w => F e a w
  | .code c :: s, e, a, w => match e with | .normal => c.wp P (den s) a w | e => den s e a w
  | .blk id :: s, e, a, w => match e with | .normal => den s .normal a w | .exit i => if i = id then den s .normal a w else den s (.exit i) a w | e => den s e a w
  | .back J :: s, e, a, w => match e with | .normal => ∃ fr hp, S fr hp a w ∧ J fr hp | e => den s e a w
  | .reg ops id i rest :: s, e, a, w => match e with | .normal => wpOps P ops (den s) (List.range' i rest.length) a w | e => den s e a w
  | .drw _ _ _ :: s, e, a, w => den s e a w
end

/-- Is each destination one of n? -/
def okC (P : Program) (C : Cfg) : Code → Bool
  | .region id ops d => ops.toList.all (dstOk C.n) && (!d || planOk P C.ow C.ec ops ops.size (Array.replicate ops.size false) (C.pl id))
  | .seq a b => okC P C a && okC P C b
  | .cond _ a b => okC P C a && okC P C b
  | .block _ c => okC P C c
  | .loop c => okC P C c
  | .rangeFunc .. => false
  | .scope _ => false
  | _ => true
def okI (P : Program) (C : Cfg) : It → Prop
  | .code c => okC P C c = true
  | .reg ops _ i rest => ops.toList.all (dstOk C.n) = true ∧ rest = ops.toList.drop i
  | .drw _ _ _ => False
  | _ => True
def okS (P : Program) (C : Cfg) (s : List It) : Prop := ∀ x ∈ s, okI P C x

variable {P : Program} {F : Exit → Act → World → Prop} {S : Fr → List Blk → Act → World → Prop}

theorem den_ret (s : List It) (a : Act) (w : World) (h : F .ret a w) : den P F S s .ret a w := by
  induction s with
  | nil => exact h
  | cons x s ih => cases x <;> exact ih
theorem den_pop {id : Nat} {s s' : List It} (he : popTo id s = some s') (a : Act) (w : World) (h : den P F S s' .normal a w) : den P F S s (.exit id) a w := by
  induction s with
  | nil => cases he
  | cons x s ih =>
    cases x with
    | blk i =>
      simp only [popTo] at he
      simp only [den]
      split at he
      · subst_vars; cases he; rw [if_pos rfl]; exact h
      · rename_i hne; rw [if_neg (fun e => hne e.symm)]; exact ih he
    | code c => exact ih he
    | back J => exact ih he
    | reg ops id' i rest => exact ih he
    | drw ops id' p => exact ih he

theorem wpOps_op {ops : Array Oper} {Q : Exit → Act → World → Prop} {i m : Nat} {o : Oper} {a : Act} {w : World} (ho : ops[i]? = some o) :
    wpOps P ops Q (List.range' i (m + 1)) a w = if Region.wanted o (yielded ops a.tmps) then o.wp P a w (wpOps P ops Q (List.range' (i + 1) m)) Q ∨ (o.asks P a w ∧ LetsOut Q) else wpOps P ops Q (List.range' (i + 1) m) (a.put o.dst undef) w := by
  rw [List.range'_succ]
  simp only [wpOps, ho]

theorem okS_cons {C : Cfg} {x : It} {s : List It} (h : okS P C (x :: s)) : okI P C x ∧ okS P C s := ⟨h x (by simp), fun y hy => h y (by simp [hy])⟩
theorem okS_mk {C : Cfg} {x : It} {s : List It} (h1 : okI P C x) (h2 : okS P C s) : okS P C (x :: s) := fun y hy => by
  rcases List.mem_cons.1 hy with rfl | h
  · exact h1
  · exact h2 y h
theorem okS_pop {C : Cfg} {id : Nat} {s s' : List It} (h : okS P C s) (he : popTo id s = some s') : okS P C s' := by
  induction s with
  | nil => cases he
  | cons x s ih =>
    have h2 := (okS_cons h).2
    cases x with
    | blk i =>
      simp only [popTo] at he
      split at he
      · cases he; exact h2
      · exact ih h2 he
    | code c => exact ih h2 he
    | back J => exact ih h2 he
    | reg ops id' i rest => exact ih h2 he
    | drw ops id' p => exact ih h2 he
theorem okS_reg {C : Cfg} {id i : Nat} {ops : Array Oper} {o : Oper} {r : List Oper} {s : List It} (h : okS P C (.reg ops id i (o :: r) :: s)) :
    ops[i]? = some o ∧ okS P C (.reg ops id (i + 1) r :: s) ∧ (∀ d, o.dst = some d → d < C.n) ∧ ∀ (j : Nat) o', ops[j]? = some o' → dstOk C.n o' = true := by
  obtain ⟨⟨h1, h2⟩, h3⟩ := okS_cons h
  have ho : ops[i]? = some o := by
    have : (ops.toList.drop i)[0]? = some o := by rw [← h2]; rfl
    rw [List.getElem?_drop] at this; simpa using this
  have hall : ∀ (j : Nat) o', ops[j]? = some o' → dstOk C.n o' = true := fun j o' hj => List.all_eq_true.1 h1 o' (by
    rw [← Array.getElem?_toList] at hj; exact List.mem_of_getElem? hj)
  refine ⟨ho, okS_mk ⟨h1, ?_⟩ h3, fun d hd => ?_, hall⟩
  · have : (o :: r).drop 1 = (ops.toList.drop i).drop 1 := by rw [h2]
    rw [List.drop_drop] at this; simpa [Nat.add_comm] using this
  · have := hall i o ho
    simp only [dstOk, hd, decide_eq_true_eq] at this; exact this

/-- One operation, then the rest. -/
theorem step_op {C : Cfg} {X T w0 fr hp a w} (hS : St X C.n T w0 fr hp a w) {id i : Nat} {ops : Array Oper} {o : Oper} {r : List Oper} {s : List It} (hok : okS P C (.reg ops id i (o :: r) :: s)) (hg : gd (get fr) ops o = some true)
    (h : o.wp P a w (den P F S (.reg ops id (i + 1) r :: s) .normal) (den P F S s)) : den P F S (.reg ops id i (o :: r) :: s) .normal a w := by
  obtain ⟨ho, _, _, hall⟩ := okS_reg hok
  simp only [den, List.length_cons]
  rw [wpOps_op ho, if_pos (gd_ok hS.1 hg hall)]
  exact .inl h

theorem wp_loop' {c : Code} {Q : Exit → Act → World → Prop} (J : Nat → Act → World → Prop)
    (round : ∀ m a w, J m a w → c.wp P (Exit.then (fun a' w' => ∃ m', m' < m ∧ J m' a' w') Q) a w) : ∀ m a w, J m a w → (Code.loop c).wp P Q a w := by
  intro m a w h b k cs
  have key : ∀ n a w, J n a w → ∃ e a' w', Q e a' w' ∧ Arrives P (lone (b.at a (.code c :: .inLoop c :: k)) cs w) b k cs e a' w' := by
    intro n
    induction n using Nat.strongRecOn with
    | _ n ih =>
      intro a w hJ
      obtain ⟨e, a₁, w₁, hq, harr⟩ := round n a w hJ b (.inLoop c :: k) cs
      cases e with
      | normal =>
        obtain ⟨m', hlt, hJ₁⟩ := hq
        obtain ⟨e₂, a₂, w₂, hq₂, harr₂⟩ := ih m' hlt a₁ w₁ hJ₁
        exact ⟨e₂, a₂, w₂, hq₂, .of_steps (Steps.trans harr (.one step_inLoop)) harr₂⟩
      | exit id => exact ⟨_, a₁, w₁, hq, .pass (x := .inLoop c) rfl (fun _ _ => .inl (by simp)) harr⟩
      | goto l => exact ⟨_, a₁, w₁, hq, .pass (x := .inLoop c) rfl (fun _ _ => .inl (by simp)) harr⟩
      | ret => exact ⟨_, a₁, w₁, hq, .pass (x := .inLoop c) rfl (fun _ _ => .inl (by simp)) harr⟩
      | panic ch => exact ⟨_, a₁, w₁, hq, .pass (x := .inLoop c) rfl (fun _ _ => .inl (by simp)) harr⟩
      | outgrown => exact ⟨_, a₁, w₁, hq, .pass (x := .inLoop c) rfl (fun _ _ => .inl (by simp)) harr⟩
  obtain ⟨e, a', w', hq, harr⟩ := key _ a w h
  exact ⟨e, a', w', hq, .of_steps (.one step_loop) harr⟩

theorem op_case {C : Cfg} {X T w0 fr hp a w} {id i : Nat} {ops : Array Oper} {o : Oper} {r : List Oper} {s : List It} (hok : okS P C (.reg ops id i (o :: r) :: s)) (hS : St X C.n T w0 fr hp a w) (hg : gd (get fr) ops o = some true)
    (h : OpA P o (fun f hp => ∀ a w, StF X C.n T w0 f hp a w → den P F S (.reg ops id (i + 1) r :: s) .normal a w) (get fr) hp) : den P F S (.reg ops id i (o :: r) :: s) .normal a w := by
  refine step_op hS hok hg (Oper.wp_mono (fun a w => ?_) (opA_wp h hS.1 (okS_reg hok).2.2.1))
  rintro ⟨f', hp', h1, h2, h3⟩
  exact h3 a w ⟨h1, hS.2.trans h2⟩

/-- What a walk shows of a stack: what the stack means; and, where a region that draws stands ahead, what its plan asks for. -/
structure Mot (P : Program) (F : Exit → Act → World → Prop) (X : Nat → Prop) (T : Nat → Prop) (w0 : World) (C : Cfg) (s : List It) (fr : Fr) (hp : List Blk) : Prop where
  mk ::
  h1 : okS P C s → ∀ a w, St X C.n T w0 fr hp a w → den P F (St X C.n T w0) s .normal a w
  h2 : ∀ ops id p s', s = .drw ops id p :: s' → okS P C s' → PR P C.ow C.ec ops (fun f hp => ∀ a w, StF X C.n T w0 f hp a w → den P F (St X C.n T w0) s' .normal a w) p (get fr) hp

theorem W.sound' {C : Cfg} {R : Fr → List Blk → Prop} {X : Nat → Prop} {T : Nat → Prop} {w0 : World} (hm : P.follows .mixedOrders = true)
    (hR : ∀ fr hp a w, R fr hp → St X C.n T w0 fr hp a w → F .normal a w ∧ F .ret a w) {s : List It} {fr : Fr} {hp : List Blk} (h : W P C R s fr hp) :
    Mot P F X T w0 C s fr hp := by
  induction h with
  | done h => exact .mk (fun _ a w hS => (hR _ _ a w h hS).1) nofun
  | ret h => exact .mk (fun _ a w hS => wp_ret (den_ret _ a w (hR _ _ a w h hS).2)) nofun
  | skip h ih => exact .mk (fun ok a w hS => wp_skip (ih.h1 (okS_cons ok).2 a w hS)) nofun
  | @seq x y s fr hp h ih =>
    refine .mk (fun ok a w hS => ?_) nofun
    obtain ⟨h1, h2⟩ := okS_cons ok
    simp only [okI, okC, Bool.and_eq_true] at h1
    have := ih.h1 (okS_mk h1.1 (okS_mk h1.2 h2)) a w hS
    refine wp_seq (wp_mono this fun e a w hq => ?_)
    cases e <;> exact hq
  | @cond c x y s fr hp t he h1 h2 ih1 ih2 =>
    refine .mk (fun ok a w hS => ?_) nofun
    obtain ⟨g1, g2⟩ := okS_cons ok
    simp only [okI, okC, Bool.and_eq_true] at g1
    have hc := hS.1.ev c
    rw [he] at hc
    have hv : a.eval c = .bool t := by
      generalize a.eval c = v at hc
      cases hc; rfl
    exact wp_cond_split hv (fun ht => (ih1 ht).h1 (okS_mk g1.1 g2) a w hS) fun ht => (ih2 ht).h1 (okS_mk g1.2 g2) a w hS
  | @block id c s fr hp h ih =>
    refine .mk (fun ok a w hS => ?_) nofun
    obtain ⟨h1, h2⟩ := okS_cons ok
    have := ih.h1 (okS_mk (x := .code c) h1 (okS_mk (x := .blk id) trivial h2)) a w hS
    refine wp_block (wp_mono this fun e a w hq => ?_)
    cases e with
    | exit i =>
      simp only [den] at hq
      simp only [Exit.inBlock]
      exact hq
    | _ => exact hq
  | endb h ih => exact .mk (fun ok a w hS => ih.h1 (okS_cons ok).2 a w hS) nofun
  | exit he h ih => exact .mk (fun ok a w hS => wp_exit (den_pop he a w (ih.h1 (okS_pop (okS_cons ok).2 he) a w hS))) nofun
  | @loop c s fr hp J m0 h0 h ih =>
    refine .mk (fun ok a w hS => ?_) nofun
    obtain ⟨g1, g2⟩ := okS_cons ok
    refine wp_loop' (fun m a w => ∃ fr hp, St X C.n T w0 fr hp a w ∧ J m fr hp) (fun m a w hm => ?_) m0 a w ⟨fr, hp, hS, h0⟩
    obtain ⟨fr', hp', hS', hJ'⟩ := hm
    have := (ih m fr' hp' hJ').h1 (okS_mk (x := .code c) g1 (okS_mk (x := .back _) trivial g2)) a w hS'
    refine wp_mono this fun e a1 w1 hq => ?_
    cases e with
    | normal =>
      simp only [den] at hq
      obtain ⟨f1, h1, hS1, m', hlt, f2, h2, htr, hJ2⟩ := hq
      exact ⟨m', hlt, f2, h2, hS1.trim htr, hJ2⟩
    | _ => exact hq
  | back h => exact .mk (fun _ a w hS => ⟨_, _, hS, h⟩) nofun
  | @reg id ops s fr hp h ih =>
    refine .mk (fun ok a w hS => ?_) nofun
    obtain ⟨g1, g2⟩ := okS_cons ok
    have := ih.h1 (okS_mk (x := .reg ops id 0 ops.toList) ⟨by simp only [okI, okC, Bool.and_eq_true] at g1; exact g1.1, rfl⟩ g2) a w hS
    refine wp_region ?_
    simp only [den, Array.length_toList] at this
    rw [List.range_eq_range']; exact this
  | @regE id ops i s fr hp h ih =>
    refine .mk (fun ok a w hS => ?_) nofun
    exact ih.h1 (okS_cons ok).2 a w ⟨hS.1.keep _, hS.2⟩
  | @nop id ops i o r s fr hp hg h ih =>
    refine .mk (fun ok a w hS => ?_) nofun
    obtain ⟨ho, ok', hd, hall⟩ := okS_reg ok
    have := ih.h1 ok' (a.put o.dst undef) w ⟨hS.1.putL hd (.und _ _), hS.2⟩
    simp only [den, List.length_cons]
    rw [wpOps_op ho, gd_ok hS.1 hg hall]
    exact this
  | @pure id ops i o r s fr hp x hg hx h ih => exact .mk (fun ok a w hS => op_case ok hS hg (.pure x hx (by rw [← get_setO]; exact fun a w hS => ih.h1 (okS_reg ok).2.1 a w hS))) nofun
  | @store id ops i o r s fr hp t x y hp' hg ho' hx h ih => exact .mk (fun ok a w hS => op_case ok hS hg (.store t x y hp' ho' hx (by rw [← get_setO]; exact fun a w hS => ih.h1 (okS_reg ok).2.1 a w hS))) nofun
  | @new id ops i o r s fr hp nb hg hx h ih => exact .mk (fun ok a w hS => op_case ok hS hg (.new nb hx fun b => by rw [← get_setO]; exact fun a w hS => (ih b).h1 (okS_reg ok).2.1 a w hS)) nofun
  | @lit id ops i o r s fr hp nb hg hx hptr h ih => exact .mk (fun ok a w hS => op_case ok hS hg (.lit nb hx hptr (by rw [← get_setO]; exact fun a w hS => ih.h1 (okS_reg ok).2.1 a w hS))) nofun
  | @app id ops i o r s fr hp x y t t' ab hg ho' hx h ih => exact .mk (fun ok a w hS => op_case ok hS hg (.app x y t t' ab ho' hx fun b => by rw [← get_setO]; exact fun a w hS => (ih b).h1 (okS_reg ok).2.1 a w hS)) nofun
  | @call id ops i o r s fr hp g args hg ho' hf post hc h ih => exact .mk (fun ok a w hS => op_case ok hS hg (.call g args ho' hf post hc fun x hp' hx => by rw [← get_setO]; exact fun a w hS => (ih x hp' hx).h1 (okS_reg ok).2.1 a w hS)) nofun
  | @weak c s fr hp fr' hp' hs h ih =>
    refine .mk (fun ok a w hS => ?_) nofun
    obtain ⟨h1, h2⟩ := hs X a w hS.1
    exact ih.h1 ok a w ⟨h1, hS.2.sub h2⟩
  | @draw id ops s fr hp h ih =>
    refine .mk (fun ok a w hS => ?_) nofun
    obtain ⟨g1, g2⟩ := okS_cons ok
    simp only [okI, okC, Bool.and_eq_true, Bool.not_true, Bool.false_or] at g1
    have hall : ∀ (j : Nat) o', ops[j]? = some o' → dstOk C.n o' = true := fun j o' hj => List.all_eq_true.1 g1.1 o' (by
      rw [← Array.getElem?_toList] at hj; exact List.mem_of_getElem? hj)
    exact draw_wp hm (fun f hp a w hq hS => hq a w hS) hall g1.2 (ih.h2 ops id (C.pl id) s rfl g2) hS
  | @dfin id ops s fr hp h ih =>
    refine .mk (fun ok => (okS_cons ok).1.elim) fun ops' id' p' s' e ok => ?_
    cases e
    exact .fin fun a w hS => ih.h1 ok a w ⟨hS.1.keep _, hS.2⟩
  | @done1 id ops i p s fr hp o x ho hy h ih =>
    refine .mk (fun ok => (okS_cons ok).1.elim) fun ops' id' p' s' e ok => ?_
    cases e
    exact .one x ho hy (by rw [← get_setO]; exact ih.h2 _ _ _ _ rfl ok)
  | @dnil id ops s fr hp =>
    refine .mk (fun ok => (okS_cons ok).1.elim) fun ops' id' p' s' e ok => ?_
    cases e
    exact .nil
  | @dyi id ops i p r s fr hp o x ho hy h hr ih ihr =>
    refine .mk (fun ok => (okS_cons ok).1.elim) fun ops' id' p' s' e ok => ?_
    cases e
    exact .yi x ho hy (by rw [← get_setO]; exact ih.h2 _ _ _ _ rfl ok) (ihr.h2 _ _ _ _ rfl ok)
  | @dstore id ops i p r s fr hp o t x y hp' ho hg hs hx h hr ih ihr =>
    refine .mk (fun ok => (okS_cons ok).1.elim) fun ops' id' p' s' e ok => ?_
    cases e
    exact .store t x y hp' ho hg hs hx (by rw [← get_setO]; exact ih.h2 _ _ _ _ rfl ok) (ihr.h2 _ _ _ _ rfl ok)
  | @dnew id ops i p r s fr hp o nb ho hg hx he h hr ih ihr =>
    refine .mk (fun ok => (okS_cons ok).1.elim) fun ops' id' p' s' e ok => ?_
    cases e
    exact .new nb ho hg hx he (fun b => by rw [← get_setO]; exact (ih b).h2 _ _ _ _ rfl ok) (ihr.h2 _ _ _ _ rfl ok)
  | @dapp id ops i p r s fr hp o x y t t' ab ho hg hs hx h hr ih ihr =>
    refine .mk (fun ok => (okS_cons ok).1.elim) fun ops' id' p' s' e ok => ?_
    cases e
    exact .app x y t t' ab ho hg hs hx (fun b => by rw [← get_setO]; exact (ih b).h2 _ _ _ _ rfl ok) (ihr.h2 _ _ _ _ rfl ok)
  | @dcall id ops i p r s fr hp o g args ho hg hs hf he post hc h hr ih ihr =>
    refine .mk (fun ok => (okS_cons ok).1.elim) fun ops' id' p' s' e ok => ?_
    cases e
    exact .call g args ho hg hs hf he post hc (fun x hp' hx => by rw [← get_setO]; exact (ih x hp' hx).h2 _ _ _ _ rfl ok) (ihr.h2 _ _ _ _ rfl ok)

theorem W.sound {C : Cfg} {R : Fr → List Blk → Prop} {X : Nat → Prop} {T : Nat → Prop} {w0 : World} (hm : P.follows .mixedOrders = true)
    (hR : ∀ fr hp a w, R fr hp → St X C.n T w0 fr hp a w → F .normal a w ∧ F .ret a w) {s : List It} {fr : Fr} {hp : List Blk} (h : W P C R s fr hp) :
    okS P C s → ∀ a w, St X C.n T w0 fr hp a w → den P F (St X C.n T w0) s .normal a w := (W.sound' hm hR h).h1
end Go.Ab
