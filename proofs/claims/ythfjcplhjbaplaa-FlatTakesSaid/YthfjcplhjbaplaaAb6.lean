/- '==' of structs; converting; new structs; and all pure operations as one. -/
import Derived.Test.YthfjcplhjbaplaaAb5
import Derived.Laws.StructEq
set_option linter.all false
namespace Go.Ab
set_option linter.unusedVariables false
variable {P : Program}

inductive LK where | int | str | bool
  deriving DecidableEq

def eqdF (P : Program) (rec : TypeId → Option (List (Nat × LK))) : List Field → Option (List (Nat × LK))
  | [] => some []
  | f :: r => if f.name ≠ "_" then
      match rec f.type, eqdF P rec r, tk P f.type with
      | some l, some m, some (_, s) => if l.all (fun x => x.1 < s) then some (l.map (fun x => (x.1 + f.offset, x.2)) ++ m) else none
      | _, _, _ => none
    else eqdF P rec r
/-- The leaves of a type that '==' compares: their places and kinds. -/
def eqd (P : Program) : Nat → TypeId → Option (List (Nat × LK))
  | 0, _ => none
  | d + 1, t => match P.underlying t with
    | some .bool => some [(0, .bool)]
    | some (.int _) => some [(0, .int)]
    | some .string => some [(0, .str)]
    | some (.struct fs) => if P.stoodInHeld t = true ∨ P.eqGuardType P.depth t = true then none else eqdF P (eqd P d) fs.toList
    | _ => none

def eqLeaf : LK → AV → AV → Option Bool
  | .int, .v (.int k a), .v (.int k' b) => if k = k' then some (decide (a = b)) else none
  | .str, .v (.string a), .v (.string b) => some (decide (a = b))
  | .bool, .v (.bool a), .v (.bool b) => some (a == b)
  | _, _, _ => none
def eqC : List (Nat × LK) → List AV → List AV → Option Bool
  | [], _, _ => some true
  | (o, k) :: r, xs, ys => match xs[o]?, ys[o]? with
    | some a, some b => match eqLeaf k a b, eqC r xs ys with
      | some p, some q => some (p && q)
      | _, _ => none
    | _, _ => none

theorem eqC_append {l m : List (Nat × LK)} {xs ys : List AV} {r : Bool} (h : eqC (l ++ m) xs ys = some r) : ∃ p q, eqC l xs ys = some p ∧ eqC m xs ys = some q ∧ r = (p && q) := by
  induction l generalizing r with
  | nil => exact ⟨true, r, rfl, h, by simp⟩
  | cons a l ih =>
    obtain ⟨o, k⟩ := a
    simp only [List.cons_append, eqC] at h ⊢
    split at h
    · rename_i a b ha hb
      split at h
      · rename_i p q h1 h2
        obtain ⟨p', q', g1, g2, rfl⟩ := ih h2
        cases h
        exact ⟨p && p', q', by simp [h1, g1], g2, by simp [Bool.and_assoc]⟩
      · cases h
    · cases h

theorem eqC_shift {l : List (Nat × LK)} {xs ys : List AV} {o s : Nat} {r : Bool} (hl : l.all (fun x => x.1 < s) = true) (h : eqC (l.map (fun x => (x.1 + o, x.2))) xs ys = some r) :
    eqC l ((xs.drop o).take s) ((ys.drop o).take s) = some r := by
  induction l generalizing r with
  | nil => exact h
  | cons a l ih =>
    obtain ⟨p, k⟩ := a
    simp only [List.all_cons, Bool.and_eq_true, decide_eq_true_eq] at hl
    simp only [List.map_cons, eqC] at h ⊢
    have e : ∀ zs : List AV, ((zs.drop o).take s)[p]? = zs[p + o]? := fun zs => by
      rw [List.getElem?_take, if_pos hl.1, List.getElem?_drop, Nat.add_comm]
    rw [e, e]
    split at h
    · rename_i a b ha hb
      split at h
      · rename_i p q h1 h2
        cases h
        simp [h1, ih hl.2 h2]
      · cases h
    · cases h

theorem eqLeaf_ok {Y : Nat → Prop} {w : World} {t : TypeId} {D : Nat} {x y : AV} {u v : Value} {k : LK} {r : Bool}
    (hk : match k with | .int => ∃ k, P.underlying t = some (.int k) | .str => P.underlying t = some .string | .bool => P.underlying t = some .bool)
    (hx : Rep Y w x u) (hy : Rep Y w y v) (h : eqLeaf k x y = some r) : (Op.equalIn (D + 1) t u v).run P w = .ok r w := by
  unfold eqLeaf at h
  split at h
  · cases hx; cases hy
    split at h
    · subst_vars; cases h
      obtain ⟨k', hk⟩ := hk
      rw [run_equalIn_int w D t _ k' _ _ hk, int_beq]
    · cases h
  · cases hx; cases hy; cases h
    rw [run_equalIn_string w D t _ _ hk, bytes_toList_inj]
  · cases hx; cases hy; cases h
    exact run_equalIn_bool' w D t _ _ hk
  · cases h

theorem eq_ok {Y : Nat → Prop} {w : World} : ∀ (d D : Nat) (t : TypeId) (l : List (Nat × LK)) (xs ys : List AV) (us vs : Array Value) (r : Bool) (s : Nat), eqd P d t = some l → d ≤ D → us.size = xs.length → vs.size = ys.length →
    (∀ (i : Nat) x u, xs[i]? = some x → us[i]? = some u → Rep Y w x u) → (∀ (i : Nat) x u, ys[i]? = some x → vs[i]? = some u → Rep Y w x u) → tk P t = some (true, s) → eqC l xs ys = some r →
    (Op.equalIn D t (.agg us) (.agg vs)).run P w = .ok r w := by
  intro d
  induction d with
  | zero => intro D t l xs ys us vs r s h; simp [eqd] at h
  | succ d ih =>
    intro D t l xs ys us vs r s h hD hu hv hxs hys htk hc
    obtain ⟨D, rfl⟩ : ∃ D', D = D' + 1 := ⟨D - 1, by omega⟩
    obtain ⟨ds, i, g1, g2, g3, g4⟩ := tk_some htk
    simp only [eqd, g1] at h
    cases ds <;> simp only at h g4 <;> try (first | (cases g4; done) | (cases h; done))
    rename_i fs
    split at h
    · cases h
    · rename_i hs
      have hf : P.fieldsOf t = fs := by simp [Program.fieldsOf, g1]
      rw [run_equalIn_struct w D t us vs (by rw [hf]; exact g1) (by revert hs; cases P.stoodInHeld t <;> simp), hf]
      clear g1 g2 g3 htk hf hs
      generalize fs.toList = L at h
      induction L generalizing l r with
      | nil => simp only [eqdF, Option.some.injEq] at h; subst h; cases hc; rfl
      | cons f L ihL =>
        simp only [eqdF] at h
        simp only [Op.eqFields]
        split at h
        · rename_i hname
          rw [if_pos hname]
          split at h
          · rename_i l1 m s' b e1 e2 e3
            split at h
            · rename_i hall
              cases h
              obtain ⟨p, q, c1, c2, rfl⟩ := eqC_append hc
              have c1' := eqC_shift hall c1
              have hfld : ∃ ua ub, (part f.type us f.offset).run P w = .ok ua w ∧ (part f.type vs f.offset).run P w = .ok ub w ∧ (Op.equalIn D f.type ua ub).run P w = .ok p w := by
                obtain ⟨dd, i', k1, k2, k3, k4⟩ := tk_some e3
                cases d with
                | zero => simp [eqd] at e1
                | succ d =>
                  obtain ⟨D, rfl⟩ : ∃ D', D = D' + 1 := ⟨D - 1, by omega⟩
                  have leaf : ∀ kk, l1 = [(0, kk)] → s' = false → (match kk with | LK.int => ∃ k, P.underlying f.type = some (.int k) | .str => P.underlying f.type = some .string | .bool => P.underlying f.type = some .bool) →
                      ∃ ua ub, (part f.type us f.offset).run P w = .ok ua w ∧ (part f.type vs f.offset).run P w = .ok ub w ∧ (Op.equalIn (D + 1) f.type ua ub).run P w = .ok p w := by
                    rintro kk rfl rfl hk
                    simp only [List.map_cons, List.map_nil, eqC, Nat.zero_add] at c1
                    split at c1
                    · rename_i a' b' ha hb
                      split at c1
                      · rename_i p' q' h1 h2
                        cases h2; cases c1
                        obtain ⟨ua, ha'⟩ : ∃ ua, us[f.offset]? = some ua := ⟨_, Array.getElem?_eq_getElem (by rw [hu]; exact (List.getElem?_eq_some_iff.1 ha).1)⟩
                        obtain ⟨ub, hb'⟩ : ∃ ub, vs[f.offset]? = some ub := ⟨_, Array.getElem?_eq_getElem (by rw [hv]; exact (List.getElem?_eq_some_iff.1 hb).1)⟩
                        refine ⟨ua, ub, ?_, ?_, ?_⟩
                        · simp only [part, Sem.run_bind, run_isAgg e3, Result.andThen_ok, Bool.false_eq_true, if_false, ha', Sem.run_pure]
                        · simp only [part, Sem.run_bind, run_isAgg e3, Result.andThen_ok, Bool.false_eq_true, if_false, hb', Sem.run_pure]
                        · rw [Bool.and_true]
                          exact eqLeaf_ok (Y := Y) hk (hxs _ _ _ ha ha') (hys _ _ _ hb hb') h1
                      · cases c1
                    · cases c1
                  simp only [eqd, k1] at e1
                  cases dd <;> simp only at e1 k4 <;> try (cases e1; done)
                  case bool => cases e1; exact leaf .bool rfl k4 k1
                  case int k => cases e1; exact leaf .int rfl k4 ⟨k, k1⟩
                  case string => cases e1; exact leaf .str rfl k4 k1
                  case struct fs' =>
                    subst k4
                    refine ⟨.agg (us.extract f.offset (f.offset + b)), .agg (vs.extract f.offset (f.offset + b)), by simp [part, run_isAgg e3, run_size e3], by simp [part, run_isAgg e3, run_size e3], ?_⟩
                    refine ih (D + 1) f.type l1 ((xs.drop f.offset).take b) ((ys.drop f.offset).take b) _ _ p b (by simp only [eqd, k1]; exact e1) (by omega) (by simp; omega) (by simp; omega) ?_ ?_ e3 c1'
                    · intro i x u hx1 hu1
                      simp only [List.getElem?_take, List.getElem?_drop] at hx1
                      rw [Array.getElem?_extract] at hu1
                      split at hx1
                      · split at hu1
                        · exact hxs _ _ _ hx1 hu1
                        · cases hu1
                      · cases hx1
                    · intro i x u hx1 hu1
                      simp only [List.getElem?_take, List.getElem?_drop] at hx1
                      rw [Array.getElem?_extract] at hu1
                      split at hx1
                      · split at hu1
                        · exact hys _ _ _ hx1 hu1
                        · cases hu1
                      · cases hx1
              obtain ⟨ua, ub, q1, q2, q3⟩ := hfld
              simp only [Sem.run_bind, q1, q2, q3, Result.andThen_ok, Sem.run_ite]
              cases p
              · simp
              · simp only [Bool.not_true, Bool.false_eq_true, if_false, Bool.true_and]
                exact ihL m q c2 e2
            · cases h
          · cases h
        · rename_i hname
          rw [if_neg hname]
          exact ihL l r hc h
end Go.Ab
