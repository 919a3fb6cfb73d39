/- Converting, comparing with nil, new structs; and all pure operations as one: opv. -/
import Derived.Test.YthfjcplhjbaplaaAb6
import Derived.Laws.BytesString
set_option linter.all false
namespace Go.Ab
set_option linter.unusedVariables false
variable {P : Program}

def isPtr (P : Program) (t : TypeId) : Bool := match P.underlying t with | some (.pointer _) => true | _ => false
def isBool (P : Program) (t : TypeId) : Bool := match P.underlying t with | some .bool => true | _ => false

/-- The bytes of cells. -/
def strOf : List AV → Option (List UInt8)
  | [] => some []
  | .v (.int .u8 n) :: r => (strOf r).map (UInt8.ofNat n.toNat :: ·)
  | _ => none

def binA (P : Program) (op : BinOp) (t : TypeId) : AV → AV → Option AV
  | .v (.int k a), .v (.int k' b) => match op with
    | .shl | .shr => shiftA op k a b
    | _ => if k = k' then intA op k a b else none
  | .v (.string a), .v (.string b) => strA op a b
  | .v (.bool a), .v (.bool b) => if isBool P t = true then (match op with | .eql => some (.v (.bool (a == b))) | .neq => some (.v (.bool (!(a == b)))) | _ => none) else none
  | .agg xs, .agg ys => match tk P t, eqd P 5 t with
    | some (true, _), some l => match eqC l xs ys with
      | some r => (match op with | .eql => some (.v (.bool r)) | .neq => some (.v (.bool (!r))) | _ => none)
      | none => none
    | _, _ => none
  | .ptr _ _ _ _ _, .v (.pointer none) => if isPtr P t = true then (match op with | .eql => some (.v (.bool false)) | .neq => some (.v (.bool true)) | _ => none) else none
  | .rp _ _, .v (.pointer none) => if isPtr P t = true then (match op with | .eql => some (.v (.bool false)) | .neq => some (.v (.bool true)) | _ => none) else none
  | .v (.pointer none), .v (.pointer none) => if isPtr P t = true then (match op with | .eql => some (.v (.bool true)) | .neq => some (.v (.bool false)) | _ => none) else none
  | _, _ => none

theorem eqGuard_run (op : BinOp) (t : TypeId) (x y : Operand) (a b : Value) (w : World) (h : (∀ cs, a ≠ .agg cs) ∧ a ≠ .nilIface) : (eqGuard op t x y a b).run P w = .ok () w := by
  unfold eqGuard
  cases op <;> simp only [Bool.not_true, Bool.not_false, Bool.false_eq_true, if_true, if_false] <;> try rfl
  all_goals
    cases a <;> try rfl
    · exact absurd rfl h.2
    · rename_i cs; exact absurd rfl (h.1 cs)

theorem binA_ok {Y : Nat → Prop} {w : World} {op : BinOp} {t : TypeId} {x y z : AV} {u v : Value} (xo yo : Operand) (hx : Rep Y w x u) (hy : Rep Y w y v) (h : binA P op t x y = some z) :
    ∃ r, (do eqGuard op t xo yo u v; binOp op t u v : Sem Value).run P w = .ok r w ∧ Rep Y w z r := by
  unfold binA at h
  split at h
  · cases hx; cases hy
    rw [Sem.run_bind, eqGuard_run _ _ _ _ _ _ _ ⟨by simp, by simp⟩, Result.andThen_ok]
    split at h
    · exact shiftA_ok h
    · exact shiftA_ok h
    · split at h
      · subst_vars; exact intA_ok h
      · cases h
  · cases hx; cases hy
    rw [Sem.run_bind, eqGuard_run _ _ _ _ _ _ _ ⟨by simp, by simp⟩, Result.andThen_ok]
    exact strA_ok h
  · cases hx; cases hy
    rw [Sem.run_bind, eqGuard_run _ _ _ _ _ _ _ ⟨by simp, by simp⟩, Result.andThen_ok]
    split at h
    · rename_i hb
      have hu : P.underlying t = some .bool := by unfold isBool at hb; split at hb <;> simp_all
      split at h <;> cases h
      · exact ⟨_, run_eql_bool w t _ _ hu, .v _ rfl⟩
      · exact ⟨_, run_neq_bool w t _ _ hu, .v _ rfl⟩
    · cases h
  · rename_i xs ys
    cases hx with | agg _ us hu ho1 hxs => ?_
    cases hy with | agg _ vs hv ho2 hys => ?_
    split at h
    · rename_i b s l h1 h2
      split at h
      · rename_i r hr
        have he := eq_ok (P := P) 5 10000 t l xs ys us vs r s h2 (by omega) hu hv hxs hys h1 hr
        have hg : P.eqGuardType P.depth t = false := by
          obtain ⟨ds, i, g1, g2, g3, g4⟩ := tk_some h1
          simp only [eqd, g1] at h2
          cases ds <;> simp only at h2 g4 <;> try (first | (cases g4; done) | (cases h2; done))
          split at h2
          · cases h2
          · rename_i hs
            revert hs; cases P.eqGuardType P.depth t <;> simp
        rw [Sem.run_bind, run_eqGuard_agg w _ _ _ _ _ _ hg, Result.andThen_ok]
        split at h <;> cases h
        · exact ⟨_, by rw [run_eql_struct, he]; rfl, .v _ rfl⟩
        · exact ⟨_, by rw [run_neq_struct, he]; rfl, .v _ rfl⟩
      · cases h
    · cases h
  · cases hx; cases hy
    rw [Sem.run_bind, eqGuard_run _ _ _ _ _ _ _ ⟨by simp, by simp⟩, Result.andThen_ok]
    split at h
    · rename_i hb
      have hu : P.underlying t = some (.pointer (P.pointee t)) := by
        unfold isPtr at hb; split at hb
        · rename_i e he; simp [Program.pointee, he]
        · cases hb
      split at h <;> cases h
      · exact ⟨_, run_eql_pointer_nil w t _ hu, .v _ rfl⟩
      · exact ⟨_, run_neq_pointer_nil w t _ hu, .v _ rfl⟩
    · cases h
  · cases hx; cases hy
    rw [Sem.run_bind, eqGuard_run _ _ _ _ _ _ _ ⟨by simp, by simp⟩, Result.andThen_ok]
    split at h
    · rename_i hb
      have hu : P.underlying t = some (.pointer (P.pointee t)) := by
        unfold isPtr at hb; split at hb
        · rename_i e he; simp [Program.pointee, he]
        · cases hb
      split at h <;> cases h
      · exact ⟨_, run_eql_pointer_nil w t _ hu, .v _ rfl⟩
      · exact ⟨_, run_neq_pointer_nil w t _ hu, .v _ rfl⟩
    · cases h
  · cases hx; cases hy
    rw [Sem.run_bind, eqGuard_run _ _ _ _ _ _ _ ⟨by simp, by simp⟩, Result.andThen_ok]
    split at h
    · rename_i hb
      have hu : P.underlying t = some (.pointer (P.pointee t)) := by
        unfold isPtr at hb; split at hb
        · rename_i e he; simp [Program.pointee, he]
        · cases hb
      split at h <;> cases h
      · exact ⟨_, run_eql_pointer_nil w t _ hu, .v _ rfl⟩
      · exact ⟨_, run_neq_pointer_nil w t _ hu, .v _ rfl⟩
    · cases h
  · cases h
end Go.Ab
