/- A walk may be cut where a piece of the code ends. -/
import Derived.Test.YthfjcplhjbaplaaAbB
set_option linter.all false
namespace Go.Ab
set_option linter.unusedVariables false
variable {P : Program}

theorem popTo_app {id : Nat} {J : Fr → List Blk → Prop} {s : List It} : ∀ {l : List It} {s' : List It}, popTo id (l ++ [.back J]) = some s' → ∃ l', s' = l' ++ [.back J] ∧ popTo id (l ++ s) = some (l' ++ s)
  | [], s', h => by simp [popTo] at h
  | .blk i :: l, s', h => by
    simp only [List.cons_append, popTo] at h ⊢
    split at h
    · rename_i hi; cases h; exact ⟨l, rfl, by rw [if_pos hi]⟩
    · rename_i hi; rw [if_neg hi]; exact popTo_app h
  | .code c :: l, s', h => popTo_app (l := l) h
  | .back J' :: l, s', h => popTo_app (l := l) h
  | .reg .. :: l, s', h => popTo_app (l := l) h
  | .drw .. :: l, s', h => popTo_app (l := l) h

theorem W.behind {C : Cfg} {R : Fr → List Blk → Prop} {J : Fr → List Blk → Prop} {s : List It} (hJ : ∀ fr hp, J fr hp → W P C R s fr hp) {t : List It} {fr : Fr} {hp : List Blk} (h : W P C R t fr hp) :
    ∀ l, t = l ++ [.back J] → W P C R (l ++ s) fr hp := by
  induction h with
  | done h => intro l e; simp at e
  | @back J' s' fr hp h =>
    intro l e
    cases l with
    | nil => simp at e; obtain ⟨rfl, rfl⟩ := e; exact hJ _ _ h
    | cons x l => simp only [List.cons_append, List.cons.injEq] at e; obtain ⟨rfl, rfl⟩ := e; exact .back h
  | ret h => intro l e; cases l with
    | nil => simp at e
    | cons x l => simp only [List.cons_append, List.cons.injEq] at e; obtain ⟨rfl, rfl⟩ := e; exact .ret h
  | skip h ih => intro l e; cases l with
    | nil => simp at e
    | cons x l => simp only [List.cons_append, List.cons.injEq] at e; obtain ⟨rfl, rfl⟩ := e; exact .skip (ih l rfl)
  | @seq a b _ _ _ h ih => intro l e; cases l with
    | nil => simp at e
    | cons x l => simp only [List.cons_append, List.cons.injEq] at e; obtain ⟨rfl, rfl⟩ := e; exact .seq (ih (.code a :: .code b :: l) rfl)
  | @cond c a b _ _ _ t he h1 h2 ih1 ih2 => intro l e; cases l with
    | nil => simp at e
    | cons x l => simp only [List.cons_append, List.cons.injEq] at e; obtain ⟨rfl, rfl⟩ := e; exact .cond he (fun ht => ih1 ht (.code a :: l) rfl) (fun ht => ih2 ht (.code b :: l) rfl)
  | @block id c _ _ _ h ih => intro l e; cases l with
    | nil => simp at e
    | cons x l => simp only [List.cons_append, List.cons.injEq] at e; obtain ⟨rfl, rfl⟩ := e; exact .block (ih (.code c :: .blk id :: l) rfl)
  | endb h ih => intro l e; cases l with
    | nil => simp at e
    | cons x l => simp only [List.cons_append, List.cons.injEq] at e; obtain ⟨rfl, rfl⟩ := e; exact .endb (ih l rfl)
  | exit he h ih => intro l e; cases l with
    | nil => simp at e
    | cons x l =>
      simp only [List.cons_append, List.cons.injEq] at e; obtain ⟨rfl, rfl⟩ := e
      obtain ⟨l', h1, h2⟩ := popTo_app (s := s) he
      exact .exit h2 (ih l' h1)
  | @loop c _ _ _ J' m0 h0 h ih => intro l e; cases l with
    | nil => simp at e
    | cons x l => simp only [List.cons_append, List.cons.injEq] at e; obtain ⟨rfl, rfl⟩ := e; exact .loop J' m0 h0 fun m fr hp hm => ih m fr hp hm (.code c :: .back _ :: l) rfl
  | @reg id ops _ _ _ h ih => intro l e; cases l with
    | nil => simp at e
    | cons x l => simp only [List.cons_append, List.cons.injEq] at e; obtain ⟨rfl, rfl⟩ := e; exact .reg (ih (.reg ops id 0 ops.toList :: l) rfl)
  | regE h ih => intro l e; cases l with
    | nil => simp at e
    | cons x l => simp only [List.cons_append, List.cons.injEq] at e; obtain ⟨rfl, rfl⟩ := e; exact .regE (ih l rfl)
  | @nop id ops i o r _ _ _ hg h ih => intro l e; cases l with
    | nil => simp at e
    | cons x l => simp only [List.cons_append, List.cons.injEq] at e; obtain ⟨rfl, rfl⟩ := e; exact .nop hg (ih (.reg ops id (i + 1) r :: l) rfl)
  | @pure id ops i o r _ _ _ x hg hx h ih => intro l e; cases l with
    | nil => simp at e
    | cons y l => simp only [List.cons_append, List.cons.injEq] at e; obtain ⟨rfl, rfl⟩ := e; exact .pure hg hx (ih (.reg ops id (i + 1) r :: l) rfl)
  | @store id ops i o r _ _ _ t x y hp' hg ho hx h ih => intro l e; cases l with
    | nil => simp at e
    | cons z l => simp only [List.cons_append, List.cons.injEq] at e; obtain ⟨rfl, rfl⟩ := e; exact .store hg ho hx (ih (.reg ops id (i + 1) r :: l) rfl)
  | @new id ops i o r _ _ _ nb hg hx h ih => intro l e; cases l with
    | nil => simp at e
    | cons z l => simp only [List.cons_append, List.cons.injEq] at e; obtain ⟨rfl, rfl⟩ := e; exact .new hg hx fun b => ih b (.reg ops id (i + 1) r :: l) rfl
  | @lit id ops i o r _ _ _ nb hg hx hp0 h ih => intro l e; cases l with
    | nil => simp at e
    | cons z l => simp only [List.cons_append, List.cons.injEq] at e; obtain ⟨rfl, rfl⟩ := e; exact .lit hg hx hp0 (ih (.reg ops id (i + 1) r :: l) rfl)
  | @app id ops i o r _ _ _ x y t t' ab hg ho hx h ih => intro l e; cases l with
    | nil => simp at e
    | cons z l => simp only [List.cons_append, List.cons.injEq] at e; obtain ⟨rfl, rfl⟩ := e; exact .app hg ho hx fun b => ih b (.reg ops id (i + 1) r :: l) rfl
  | @call id ops i o r _ _ _ g args hg ho hf post hc h ih => intro l e; cases l with
    | nil => simp at e
    | cons z l => simp only [List.cons_append, List.cons.injEq] at e; obtain ⟨rfl, rfl⟩ := e; exact .call hg ho hf post hc fun x hp' hx => ih x hp' hx (.reg ops id (i + 1) r :: l) rfl
  | @weak c _ _ _ fr' hp' hs h ih => intro l e; cases l with
    | nil => simp at e
    | cons z l => simp only [List.cons_append, List.cons.injEq] at e; obtain ⟨rfl, rfl⟩ := e; exact .weak fr' hp' hs (ih (.code c :: l) rfl)
  | @draw id ops _ _ _ h ih => intro l e; cases l with
    | nil => simp at e
    | cons z l => simp only [List.cons_append, List.cons.injEq] at e; obtain ⟨rfl, rfl⟩ := e; exact .draw (ih (.drw ops id (C.pl id) :: l) rfl)
  | dfin h ih => intro l e; cases l with
    | nil => simp at e
    | cons z l => simp only [List.cons_append, List.cons.injEq] at e; obtain ⟨rfl, rfl⟩ := e; exact .dfin (ih l rfl)
  | @done1 id ops i p _ _ _ o x ho hy h ih => intro l e; cases l with
    | nil => simp at e
    | cons z l => simp only [List.cons_append, List.cons.injEq] at e; obtain ⟨rfl, rfl⟩ := e; exact .done1 x ho hy (ih (.drw ops id p :: l) rfl)
  | dnil => intro l e; cases l with
    | nil => simp at e
    | cons z l => simp only [List.cons_append, List.cons.injEq] at e; obtain ⟨rfl, rfl⟩ := e; exact .dnil
  | @dyi id ops i p r _ _ _ o x ho hy h hr ih ihr => intro l e; cases l with
    | nil => simp at e
    | cons z l => simp only [List.cons_append, List.cons.injEq] at e; obtain ⟨rfl, rfl⟩ := e; exact .dyi x ho hy (ih (.drw ops id p :: l) rfl) (ihr (.drw ops id (.br r) :: l) rfl)
  | @dstore id ops i p r _ _ _ o t x y hp' ho hg hs hx h hr ih ihr => intro l e; cases l with
    | nil => simp at e
    | cons z l => simp only [List.cons_append, List.cons.injEq] at e; obtain ⟨rfl, rfl⟩ := e; exact .dstore t x y hp' ho hg hs hx (ih (.drw ops id p :: l) rfl) (ihr (.drw ops id (.br r) :: l) rfl)
  | @dnew id ops i p r _ _ _ o nb ho hg hx he h hr ih ihr => intro l e; cases l with
    | nil => simp at e
    | cons z l => simp only [List.cons_append, List.cons.injEq] at e; obtain ⟨rfl, rfl⟩ := e; exact .dnew nb ho hg hx he (fun b => ih b (.drw ops id p :: l) rfl) (ihr (.drw ops id (.br r) :: l) rfl)
  | @dapp id ops i p r _ _ _ o x y t t' ab ho hg hs hx h hr ih ihr => intro l e; cases l with
    | nil => simp at e
    | cons z l => simp only [List.cons_append, List.cons.injEq] at e; obtain ⟨rfl, rfl⟩ := e; exact .dapp x y t t' ab ho hg hs hx (fun b => ih b (.drw ops id p :: l) rfl) (ihr (.drw ops id (.br r) :: l) rfl)
  | @dcall id ops i p r _ _ _ o g args ho hg hs hf he post hc h hr ih ihr => intro l e; cases l with
    | nil => simp at e
    | cons z l => simp only [List.cons_append, List.cons.injEq] at e; obtain ⟨rfl, rfl⟩ := e; exact .dcall g args ho hg hs hf he post hc (fun x hp' hx => ih x hp' hx (.drw ops id p :: l) rfl) (ihr (.drw ops id (.br r) :: l) rfl)

theorem popTo_un {id : Nat} {a b : Code} {s : List It} : ∀ {l : List It} {s' : List It}, popTo id (l ++ .code a :: .code b :: s) = some s' →
    (∃ l', s' = l' ++ .code a :: .code b :: s ∧ popTo id (l ++ .code (.seq a b) :: s) = some (l' ++ .code (.seq a b) :: s)) ∨ popTo id (l ++ .code (.seq a b) :: s) = some s'
  | [], s', h => .inr h
  | .blk i :: l, s', h => by
    simp only [List.cons_append, popTo] at h ⊢
    split at h
    · rename_i hi; cases h; exact .inl ⟨l, rfl, by rw [if_pos hi]⟩
    · rename_i hi; rw [if_neg hi]; exact popTo_un h
  | .code c :: l, s', h => popTo_un (l := l) h
  | .back J' :: l, s', h => popTo_un (l := l) h
  | .reg .. :: l, s', h => popTo_un (l := l) h
  | .drw .. :: l, s', h => popTo_un (l := l) h

/-- One code behind the other, further down. -/
theorem W.unseq' {C : Cfg} {R : Fr → List Blk → Prop} {a b : Code} {s t : List It} {fr : Fr} {hp : List Blk} (h : W P C R t fr hp) :
    ∀ x l, t = x :: (l ++ .code a :: .code b :: s) → W P C R (x :: (l ++ .code (.seq a b) :: s)) fr hp := by
  have go : ∀ {t : List It} {fr : Fr} {hp : List Blk}, W P C R t fr hp → (∀ x l, t = x :: (l ++ .code a :: .code b :: s) → W P C R (x :: (l ++ .code (.seq a b) :: s)) fr hp) →
      ∀ l, t = l ++ .code a :: .code b :: s → W P C R (l ++ .code (.seq a b) :: s) fr hp := fun h ih l e => by
    cases l with
    | nil => subst e; exact .seq h
    | cons x l => exact ih x l e
  induction h with
  | done h => intro x l e; cases e
  | back h => intro x l e; cases e; exact .back h
  | ret h => intro x l e; cases e; exact .ret h
  | skip h ih => intro x l e; cases e; exact .skip (go h ih l rfl)
  | @seq p q _ _ _ h ih => intro x l e; cases e; exact .seq (go h ih (.code p :: .code q :: l) rfl)
  | @cond c p q _ _ _ t he h1 h2 ih1 ih2 => intro x l e; cases e; exact .cond he (fun ht => go (h1 ht) (ih1 ht) (.code p :: l) rfl) (fun ht => go (h2 ht) (ih2 ht) (.code q :: l) rfl)
  | @block id c _ _ _ h ih => intro x l e; cases e; exact .block (go h ih (.code c :: .blk id :: l) rfl)
  | endb h ih => intro x l e; cases e; exact .endb (go h ih l rfl)
  | exit he h ih =>
    intro x l e; cases e
    rcases popTo_un he with ⟨l', h1, h2⟩ | h2
    · exact .exit h2 (go h ih l' h1)
    · exact .exit h2 h
  | @loop c _ _ _ J' m0 h0 h ih => intro x l e; cases e; exact .loop J' m0 h0 fun m fr hp hm => go (h m fr hp hm) (ih m fr hp hm) (.code c :: .back _ :: l) rfl
  | @reg id ops _ _ _ h ih => intro x l e; cases e; exact .reg (go h ih (.reg ops id 0 ops.toList :: l) rfl)
  | regE h ih => intro x l e; cases e; exact .regE (go h ih l rfl)
  | @nop id ops i o r _ _ _ hg h ih => intro x l e; cases e; exact .nop hg (go h ih (.reg ops id (i + 1) r :: l) rfl)
  | @pure id ops i o r _ _ _ x hg hx h ih => intro x l e; cases e; exact .pure hg hx (go h ih (.reg ops id (i + 1) r :: l) rfl)
  | @store id ops i o r _ _ _ t x y hp' hg ho hx h ih => intro x l e; cases e; exact .store hg ho hx (go h ih (.reg ops id (i + 1) r :: l) rfl)
  | @new id ops i o r _ _ _ nb hg hx h ih => intro x l e; cases e; exact .new hg hx fun b => go (h b) (ih b) (.reg ops id (i + 1) r :: l) rfl
  | @lit id ops i o r _ _ _ nb hg hx hp0 h ih => intro x l e; cases e; exact .lit hg hx hp0 (go h ih (.reg ops id (i + 1) r :: l) rfl)
  | @app id ops i o r _ _ _ x y t t' ab hg ho hx h ih => intro x l e; cases e; exact .app hg ho hx fun b => go (h b) (ih b) (.reg ops id (i + 1) r :: l) rfl
  | @call id ops i o r _ _ _ g args hg ho hf post hc h ih => intro x l e; cases e; exact .call hg ho hf post hc fun x hp' hx => go (h x hp' hx) (ih x hp' hx) (.reg ops id (i + 1) r :: l) rfl
  | @weak c _ _ _ fr' hp' hs h ih => intro x l e; cases e; exact .weak fr' hp' hs (go h ih (.code c :: l) rfl)
  | @draw id ops _ _ _ h ih => intro x l e; cases e; exact .draw (go h ih (.drw ops id (C.pl id) :: l) rfl)
  | dfin h ih => intro x l e; cases e; exact .dfin (go h ih l rfl)
  | @done1 id ops i p _ _ _ o x ho hy h ih => intro x' l e; cases e; exact .done1 x ho hy (go h ih (.drw ops id p :: l) rfl)
  | dnil => intro x l e; cases e; exact .dnil
  | @dyi id ops i p r _ _ _ o x ho hy h hr ih ihr => intro x' l e; cases e; exact .dyi x ho hy (go h ih (.drw ops id p :: l) rfl) (go hr ihr (.drw ops id (.br r) :: l) rfl)
  | @dstore id ops i p r _ _ _ o t x y hp' ho hg hs hx h hr ih ihr => intro x' l e; cases e; exact .dstore t x y hp' ho hg hs hx (go h ih (.drw ops id p :: l) rfl) (go hr ihr (.drw ops id (.br r) :: l) rfl)
  | @dnew id ops i p r _ _ _ o nb ho hg hx he h hr ih ihr => intro x' l e; cases e; exact .dnew nb ho hg hx he (fun b => go (h b) (ih b) (.drw ops id p :: l) rfl) (go hr ihr (.drw ops id (.br r) :: l) rfl)
  | @dapp id ops i p r _ _ _ o x y t t' ab ho hg hs hx h hr ih ihr => intro x' l e; cases e; exact .dapp x y t t' ab ho hg hs hx (fun b => go (h b) (ih b) (.drw ops id p :: l) rfl) (go hr ihr (.drw ops id (.br r) :: l) rfl)
  | @dcall id ops i p r _ _ _ o g args ho hg hs hf he post hc h hr ih ihr => intro x' l e; cases e; exact .dcall g args ho hg hs hf he post hc (fun x hp' hx => go (h x hp' hx) (ih x hp' hx) (.drw ops id p :: l) rfl) (go hr ihr (.drw ops id (.br r) :: l) rfl)
theorem W.unseq {C : Cfg} {R : Fr → List Blk → Prop} {a b : Code} {s : List It} {fr : Fr} {hp : List Blk} (x : It) (l : List It) (h : W P C R (x :: (l ++ .code a :: .code b :: s)) fr hp) : W P C R (x :: (l ++ .code (.seq a b) :: s)) fr hp :=
  W.unseq' h x l rfl

/-- Less may be known. -/
theorem W.trim {C : Cfg} {R : Fr → List Blk → Prop} {c : Code} {s : List It} {fr fr' : Fr} {hp hp' : List Blk} (ht : Trim fr hp fr' hp') (h : W P C R (.code c :: s) fr' hp') : W P C R (.code c :: s) fr hp := by
  refine .weak fr' hp' (fun X a w hS => ?_) h
  obtain ⟨h1, m, rfl⟩ := ht
  refine ⟨?_, fun b => Tr_take⟩
  rcases h1 with rfl | ⟨l, rfl⟩
  · exact hS.take m
  · exact (hS.keep l).take m

/-- A walk is cut behind l, where the code c begins: states there are named by x. -/
theorem W.cut {C : Cfg} {R : Fr → List Blk → Prop} {l : List It} {c : Code} {s : List It} {fr : Fr} {hp : List Blk} {σ : Type} (F : σ → Fr) (H : σ → List Blk) (I : σ → Prop)
    (h : W P C R (l ++ [.back fun f h => ∃ y, I y ∧ Trim f h (F y) (H y)]) fr hp) (k : ∀ x, I x → W P C R (.code c :: s) (F x) (H x)) : W P C R (l ++ .code c :: s) fr hp :=
  W.behind (fun fr hp => fun ⟨y, hy, ht⟩ => W.trim ht (k y hy)) h l rfl
/-- Ways that meet again: states there are named by x. -/
theorem W.join {C : Cfg} {R : Fr → List Blk → Prop} {s : List It} {c : Code} {G : Prop} {σ : Type} (F : σ → Fr) (H : σ → List Blk) (I : σ → Prop)
    (h : (∀ fr hp, (∃ y, I y ∧ Trim fr hp (F y) (H y)) → W P C R (.code c :: s) fr hp) → G) (k : ∀ x, I x → W P C R (.code c :: s) (F x) (H x)) : G :=
  h fun fr hp ⟨y, hy, ht⟩ => W.trim ht (k y hy)
theorem appendC {α : Type} (a : α) (l m : List α) : List.append (a :: l) m = a :: List.append l m := rfl
theorem appendN {α : Type} (m : List α) : List.append [] m = m := rfl
attribute [go_sem] appendC appendN
end Go.Ab
