/- Calls that write into a block of the caller's. -/
import Derived.Test.YthfjcplhjbaplaaAb19
set_option linter.all false
namespace Go.Ab
set_option linter.unusedVariables false
variable {P : Program}

theorem BlkOk.anti {Y Y' : Nat → Prop} {w : World} {B : Blk} (hY : ∀ b, Y' b → Y b) (h : BlkOk Y w B) : BlkOk Y' w B := by
  refine ⟨h.1, fun n hn => ?_⟩
  obtain ⟨cs, k1, k2, k3, k4⟩ := h.2 n hn
  refine ⟨cs, k1, k2, k3, fun i x j y hx hy => ?_⟩
  obtain ⟨u, u1, u2, u3⟩ := k4 i x j y hx hy
  exact ⟨u, u1, u2, u3.anti hY⟩

theorem Tr_one {B : Blk} {n : Nat} : Tr [B] n ↔ B.live = true ∧ B.b = some n :=
  ⟨fun ⟨q, C, h1, h2, h3⟩ => by
    cases q with
    | zero => simp at h1; subst h1; exact ⟨h2, h3⟩
    | succ q => simp at h1, fun h => ⟨0, B, rfl, h.1, h.2⟩⟩

/-- One of the caller's blocks is lent. -/
theorem ACall.borrow {f : FuncId} {args : List AV} {B B' : Blk} {x : AV} {hp : List Blk} {p : Nat} (h : ACall P f args [B] fun r bs => r = x ∧ bs = [B']) (hB : hp[p]? = some B) (hl : B.live = true) :
    ACall P f args hp fun r hp' => r = x ∧ hp' = hp.set p B' := by
  intro X w vs hvs hrep hh
  have hlt : p < hp.length := (List.getElem?_eq_some_iff.1 hB).1
  obtain ⟨Q, hQ⟩ : ∃ Q, Q = hp.set p ⟨false, none, 0, 0, []⟩ := ⟨_, rfl⟩
  have q1 : ∀ (q : Nat) C, q ≠ p → (Q[q]? = some C ↔ hp[q]? = some C) := fun q C hne => by rw [hQ, List.getElem?_set_ne (Ne.symm hne)]
  have q2 : ∀ C, Q[p]? = some C → C.live = false := fun C hC => by
    rw [hQ, List.getElem?_set_self hlt] at hC; cases hC; rfl
  have q3 : ∀ b, Tr Q b → Tr hp b := fun b ⟨q, C, h1, h2, h3⟩ => by
    by_cases e : q = p
    · subst e; rw [q2 C h1] at h2; cases h2
    · exact ⟨q, C, (q1 q C e).1 h1, h2, h3⟩
  have q4 : ∀ b, Tr hp b → Tr Q b ∨ B.b = some b := fun b ⟨q, C, h1, h2, h3⟩ => by
    by_cases e : q = p
    · subst e; rw [hB] at h1; cases h1; exact .inr h3
    · exact .inl ⟨q, C, (q1 q C e).2 h1, h2, h3⟩
  have q5 : ∀ b, Tr Q b → B.b ≠ some b := fun b ⟨q, C, h1, h2, h3⟩ h4 => by
    by_cases e : q = p
    · subst e; rw [q2 C h1] at h2; cases h2
    · exact e (hh.one q p C B b ((q1 q C e).1 h1) hB h2 hl h3 h4)
  have tB : ∀ b, B.b = some b → Tr hp b := fun b hb => ⟨p, B, hB, hl, hb⟩
  have uA : ∀ b, un (un X Q) [B] b → un X hp b := fun b hb => by
    rcases hb with (hb | hb) | hb
    · exact .inl hb
    · exact .inr (q3 b hb)
    · exact .inr (tB b (Tr_one.1 hb).2)
  have h0 : HeapOk (un X Q) [B] w := by
    refine ⟨fun q C hC hlc => ?_, fun n hn => ?_, fun n hn => ?_, fun q r C D n h1 h2 _ _ _ _ => ?_⟩
    · cases q with
      | zero => simp at hC; subst hC; exact (hh.ok p B hB hl).anti uA
      | succ q => simp at hC
    · have hb := (Tr_one.1 hn).2
      rintro (hx | hx)
      · exact hh.out n (tB n hb) hx
      · exact q5 n hx hb
    · exact hn.elim (hh.lt n) fun ht => hh.tlt (q3 n ht)
    · have := (List.getElem?_eq_some_iff.1 h1).1
      have := (List.getElem?_eq_some_iff.1 h2).1
      simp at *; omega
  refine (h (un X Q) w vs hvs (fun i x u hx hu => (hrep i x u hx hu).anti uA) h0).mono fun e w' => ?_
  rintro ⟨u, r, bs', he, h1, h2, h3, h4, rfl⟩
  have t1 : ∀ b, Tr (hp.set p B') b → Tr Q b ∨ Tr [B'] b := fun b ⟨q, C, g1, g2, g3⟩ => by
    by_cases e : q = p
    · subst e; rw [List.getElem?_set_self hlt] at g1; cases g1; exact .inr (Tr_one.2 ⟨g2, g3⟩)
    · rw [List.getElem?_set_ne (Ne.symm e)] at g1; exact .inl ⟨q, C, (q1 q C e).2 g1, g2, g3⟩
  have uB : ∀ b, un X (hp.set p B') b → un (un X Q) [B'] b := fun b hb => by
    rcases hb with hb | hb
    · exact .inl (.inl hb)
    · exact (t1 b hb).elim (fun h => .inl (.inr h)) .inr
  have e' : Ext (Tr hp) w w' (Tr (hp.set p B')) := by
    refine ⟨h3.os, h3.tape, h3.output, h3.size, fun b hb hn => h3.old b hb fun ht => hn (tB b (Tr_one.1 ht).2), h3.rows, fun b hb => ?_⟩
    rcases t1 b hb with hb | hb
    · exact .inl (q3 b hb)
    · exact (h3.tr b hb).imp (fun ht => tB b (Tr_one.1 ht).2) id
  refine ⟨u, r, hp.set p B', he, h1.anti uB, ?_, e', h4, rfl⟩
  have far : ∀ (q : Nat) C n, q ≠ p → hp[q]? = some C → C.live = true → C.b = some n → B'.live = true → B'.b = some n → False := fun q C n hne g1 g2 g3 g4 g5 => by
    rcases h3.tr n (Tr_one.2 ⟨g4, g5⟩) with ht | hge
    · exact hne (hh.one q p C B n g1 hB g2 hl g3 (Tr_one.1 ht).2)
    · have := hh.tlt ⟨q, C, g1, g2, g3⟩; omega
  refine hh.step e' (fun q C hC hlc => ?_) fun q r C D n g1 g2 g3 g4 g5 g6 => ?_
  · by_cases e : q = p
    · subst e; rw [List.getElem?_set_self hlt] at hC; cases hC
      exact .inr ((h2.ok 0 B' rfl hlc).anti uB)
    · rw [List.getElem?_set_ne (Ne.symm e)] at hC
      exact .inl ⟨hC, fun n hn => h3.old n (hh.tlt ⟨q, C, hC, hlc, hn⟩) fun ht => e (hh.one q p C B n hC hB hlc hl hn (Tr_one.1 ht).2)⟩
  · by_cases e1 : q = p <;> by_cases e2 : r = p
    · rw [e1, e2]
    · subst e1
      rw [List.getElem?_set_self hlt] at g1; cases g1
      rw [List.getElem?_set_ne (Ne.symm e2)] at g2
      exact (far r D n e2 g2 g4 g6 g3 g5).elim
    · subst e2
      rw [List.getElem?_set_self hlt] at g2; cases g2
      rw [List.getElem?_set_ne (Ne.symm e1)] at g1
      exact (far q C n e1 g1 g3 g5 g4 g6).elim
    · rw [List.getElem?_set_ne (Ne.symm e1)] at g1
      rw [List.getElem?_set_ne (Ne.symm e2)] at g2
      exact hh.one q r C D n g1 g2 g3 g4 g5 g6

/-- Where a pointer's block stands is but a hint. -/
theorem ACall.hint {f : FuncId} {p q k : Nat} {b : Option Nat} {i j : Nat} {rest : List AV} {bs : List Blk} {K} (h : ACall P f (.ptr q k b i j :: rest) bs K) : ACall P f (.ptr p k b i j :: rest) bs K := by
  intro X w vs hvs hrep hh
  refine h X w vs (by simpa using hvs) (fun n x u hx hu => ?_) hh
  cases n with
  | zero =>
    simp at hx; subst hx
    have := hrep 0 _ u rfl hu
    cases this; exact .ptr q k _ i j
  | succ n => exact hrep (n + 1) x u (by simpa using hx) hu

/-- A call that writes into the block behind its first argument; c: what that holds, c': and then. -/
structure AMut (P : Program) (f : FuncId) (k : Nat) (t : TypeId) (rest : List AV) (c : AV) (x c' : AV) : Prop where
  ok : fnOk P f = true
  call : ∀ b, ACall P f (.ptr 0 k (some b) 0 0 :: rest) [⟨true, some b, k, t, [c]⟩] fun r bs => r = x ∧ bs = [⟨true, some b, k, t, [c']⟩]

theorem CallG.mut {C R g p k t b rest c x c' dst s fr hp} (h : AMut P g k t rest c x c') (hb : hp[p]? = some ⟨true, some b, k, t, [c]⟩) (kk : W P C R s (setO fr dst x) (hp.set p ⟨true, some b, k, t, [c']⟩)) :
    CallG P C R g (.ptr p k (some b) 0 0 :: rest) dst s fr hp :=
  ⟨_, h.ok, (h.call b).hint.borrow hb rfl, fun y hp' hy => by obtain ⟨rfl, rfl⟩ := hy; exact kk⟩

/-- Such a walk's end. -/
def RM (P : Program) (rs : List ResultVar) (x : AV) (B : Blk) (fr : Fr) (hp : List Blk) : Prop := (match (resA P rs fr hp).bind (fz hp 1 6) with | some y => leA y x | none => False) ∧ hp.take 1 = [B]
theorem AMut.intro {f : FuncId} {fn : Func} {c : Code} {rs : List ResultVar} {C : Cfg} {k : Nat} {t : TypeId} {rest : List AV} {v x v' : AV} (hk : fnOk P f = true) (hm : P.follows .mixedOrders = true)
    (hf : P.funcs[f]? = some fn) (hb : fn.body = some c) (hr : fn.results.toList = rs) (hn : fn.ntmps = C.n) (hok : okC P C c = true) (hl : rest.length + 1 ≤ C.n)
    (h : ∀ b, W P C (RM P rs x ⟨true, some b, k, t, [v']⟩) [.code c] (initF 0 (.ptr 0 k (some b) 0 0 :: rest)) [⟨true, some b, k, t, [v]⟩]) : AMut P f k t rest v x v' := by
  subst hr
  refine ⟨hk, fun b => ACall.le (ACall.freeze ?_)⟩
  refine (ACall.intro (post := fun r hp => (∃ y, fz hp 1 6 r = some y ∧ leA y x) ∧ hp.take 1 = [⟨true, some b, k, t, [v']⟩]) hm hf hb hn hok (by simpa using hl) ?_).mono ?_
  · have e : RM P fn.results.toList x ⟨true, some b, k, t, [v']⟩ = fun fr hp => ∃ r, resA P fn.results.toList fr hp = some r ∧ (∃ y, fz hp 1 6 r = some y ∧ leA y x) ∧ hp.take 1 = [⟨true, some b, k, t, [v']⟩] := by
      funext fr hp
      simp only [RM, eq_iff_iff]
      cases h1 : resA P fn.results.toList fr hp with
      | none => simp
      | some r =>
        cases h2 : fz hp 1 6 r with
        | none => simp [h2]
        | some y => simp [h2]
    rw [← e]; exact h b
  · rintro r hp ⟨⟨y, h0, h1⟩, h2⟩
    exact ⟨y, h0, h1, h2⟩
attribute [go_sem] RM
end Go.Ab
