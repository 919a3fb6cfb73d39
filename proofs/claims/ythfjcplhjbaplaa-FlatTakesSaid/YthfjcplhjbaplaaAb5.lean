/- The pure operations, more: lengths, sums, comparings. -/
import Derived.Test.YthfjcplhjbaplaaAb4
set_option linter.all false
namespace Go.Ab
set_option linter.unusedVariables false
variable {P : Program}

def lenA (P : Program) (t : TypeId) (x : AV) : Option AV :=
  match x with
  | .v (.string s) => if isStr P t = true then some (.v (.int .i64 s.size)) else none
  | .sl _ l => (sle P t).map fun _ => .v (.int .i64 l.length)
  | .nils => (sle P t).map fun _ => .v (.int .i64 0)
  | .own _ _ _ _ n => (sle P t).map fun _ => .v (.int .i64 n)
  | _ => none

theorem isStr_some {t : TypeId} (h : isStr P t = true) : P.underlying t = some .string := by
  unfold isStr at h; split at h <;> simp_all

theorem lenA_ok {Y : Nat → Prop} {w : World} {t ty : TypeId} {x y : AV} {u : Value} (hx : Rep Y w x u) (hl : lenA P t x = some y) :
    ∃ r, (Builtin.len_ #[t] ty #[u]).run P w = .ok r w ∧ Rep Y w y r := by
  have key : ∀ a n c r, (sle P t).map (fun _ => AV.v (.int .i64 ((n : Nat) : Int))) = some r → (Builtin.len_ #[t] ty #[.slice a n c]).run P w = .ok (.int .i64 n) w ∧ r = .v (.int .i64 n) := by
    intro a n c r h
    simp only [Option.map_eq_some_iff] at h
    obtain ⟨⟨e, s⟩, h1, rfl⟩ := h
    obtain ⟨i, g1, g2, rfl⟩ := sle_some h1
    exact ⟨by simp [Builtin.len_, run_underlying g1, goInt], rfl⟩
  cases hx <;> (try simp only [lenA] at hl) <;> try (cases hl; done)
  case v =>
    cases u <;> simp only [lenA] at hl <;> try (cases hl; done)
    rename_i s
    split at hl
    · rename_i hs
      cases hl
      exact ⟨_, by simp [Builtin.len_, run_underlying (isStr_some hs), goInt], .v _ rfl⟩
    · cases hl
  case sl0 k a c => obtain ⟨h1, rfl⟩ := key a 0 c _ hl; exact ⟨_, h1, .v _ rfl⟩
  case sl k l b off c f hX hb hc hk ho hl' h' => obtain ⟨h1, rfl⟩ := key _ l.length c _ hl; exact ⟨_, h1, .v _ rfl⟩
  case nils a => obtain ⟨h1, rfl⟩ := key a 0 0 _ hl; exact ⟨_, h1, .v _ rfl⟩
  case ownE p k b off a => obtain ⟨h1, rfl⟩ := key a 0 0 _ hl; exact ⟨_, h1, .v _ rfl⟩
  case own p k b off len c hc cs e' z hb hs => obtain ⟨h1, rfl⟩ := key _ len c _ hl; exact ⟨_, h1, .v _ rfl⟩

/-- Is a sum, or a difference, an int? -/
def i64R (n : Int) : Prop := -9223372036854775808 ≤ n ∧ n ≤ 9223372036854775807
instance (n : Int) : Decidable (i64R n) := inferInstanceAs (Decidable (_ ∧ _))

abbrev andI (k : IntKind) (a b : Int) : Int := k.wrap (BitVec.ofInt k.bits a &&& BitVec.ofInt k.bits b).toNat
abbrev orI (k : IntKind) (a b : Int) : Int := k.wrap (BitVec.ofInt k.bits a ||| BitVec.ofInt k.bits b).toNat
abbrev xorI (k : IntKind) (a b : Int) : Int := k.wrap (BitVec.ofInt k.bits a ^^^ BitVec.ofInt k.bits b).toNat
def intA (op : BinOp) (k : IntKind) (a b : Int) : Option AV :=
  match op with
  | .add => if k = .i64 then (if i64R (a + b) then some (.v (.int k (a + b))) else none) else some (.v (.int k (k.wrap (a + b))))
  | .sub => if k = .i64 then (if i64R (a - b) then some (.v (.int k (a - b))) else none) else some (.v (.int k (k.wrap (a - b))))
  | .mul => if k = .i64 then (if i64R (a * b) then some (.v (.int k (a * b))) else none) else some (.v (.int k (k.wrap (a * b))))
  | .quo => if k = .i64 then (if 0 ≤ a ∧ 0 < b ∧ i64R a then some (.v (.int k (a / b))) else none) else if b ≠ 0 then some (.v (.int k (k.wrap (a.tdiv b)))) else none
  | .rem => if k = .i64 then (if 0 ≤ a ∧ 0 < b then some (.v (.int k (a % b))) else none) else if b ≠ 0 then some (.v (.int k (a.tmod b))) else none
  | .and => some (.v (.int k (andI k a b)))
  | .or => some (.v (.int k (orI k a b)))
  | .xor => some (.v (.int k (xorI k a b)))
  | .eql => some (.v (.bool (decide (a = b))))
  | .neq => some (.v (.bool (!decide (a = b))))
  | .lss => some (.v (.bool (decide (a < b))))
  | .leq => some (.v (.bool (decide (a ≤ b))))
  | .gtr => some (.v (.bool (decide (b < a))))
  | .geq => some (.v (.bool (decide (b ≤ a))))
  | _ => none
def shiftA (op : BinOp) (k : IntKind) (a b : Int) : Option AV :=
  match op with
  | .shl => if 0 ≤ b then some (.v (.int k (k.wrap (a * 2 ^ (min b.toNat k.bits))))) else none
  | .shr => if 0 ≤ b then some (.v (.int k (a.fdiv (2 ^ (min b.toNat k.bits))))) else none
  | _ => none
/-- Is a text less than another? -/
def sLt (a b : ByteArray) : Bool := Op.bytesLess a.toList b.toList
def strA (op : BinOp) (a b : ByteArray) : Option AV :=
  match op with
  | .add => if a.size + b.size ≤ 9223372036854775807 then some (.v (.string (a ++ b))) else none
  | .eql => some (.v (.bool (decide (a = b))))
  | .neq => some (.v (.bool (!decide (a = b))))
  | .lss => some (.v (.bool (sLt a b)))
  | .leq => some (.v (.bool (sLt a b || decide (a = b))))
  | .gtr => some (.v (.bool (!(sLt a b || decide (a = b)))))
  | .geq => some (.v (.bool (!sLt a b)))
  | _ => none

theorem wrap_i64 {n : Int} (h : i64R n) : IntKind.i64.wrap n = n := by
  obtain ⟨h1, h2⟩ := h
  have e1 : (2 : Int) ^ IntKind.i64.bits = 18446744073709551616 := rfl
  have e2 : (2 : Int) ^ (IntKind.i64.bits - 1) = 9223372036854775808 := rfl
  simp only [IntKind.wrap, e1, e2, IntKind.signed, Bool.true_and, decide_eq_true_eq]
  split <;> omega
theorem bytes_toList_inj {a b : ByteArray} : (a.toList == b.toList) = decide (a = b) := by
  rw [Bool.eq_iff_iff]
  simp only [beq_iff_eq, decide_eq_true_eq]
  constructor
  · intro h
    rw [ByteArray.toList_eq, ByteArray.toList_eq] at h
    cases a; cases b; simp only [Array.toList_inj] at h; rw [h]
  · rintro rfl; rfl

theorem int_beq (a b : Int) : (a == b) = decide (a = b) := by rw [Bool.eq_iff_iff]; simp
theorem intA_ok {w : World} {t : TypeId} {op : BinOp} {k : IntKind} {a b : Int} {y : AV} {Y : Nat → Prop} (h : intA op k a b = some y) :
    ∃ r, (binOp op t (.int k a) (.int k b)).run P w = .ok r w ∧ Rep Y w y r := by
  cases op <;> simp only [intA] at h <;> try (cases h; done)
  case add =>
    split at h
    · subst_vars
      split at h
      · rename_i hr; cases h
        exact ⟨_, by simp only [binOp, ne_eq, not_true, if_false, Op.intArith, Sem.run_pure, wrap_i64 hr], .v _ rfl⟩
      · cases h
    · cases h; exact ⟨_, by simp only [binOp, ne_eq, not_true, if_false, Op.intArith, Sem.run_pure], .v _ rfl⟩
  case sub =>
    split at h
    · subst_vars
      split at h
      · rename_i hr; cases h
        exact ⟨_, by simp only [binOp, ne_eq, not_true, if_false, Op.intArith, Sem.run_pure, wrap_i64 hr], .v _ rfl⟩
      · cases h
    · cases h; exact ⟨_, by simp only [binOp, ne_eq, not_true, if_false, Op.intArith, Sem.run_pure], .v _ rfl⟩
  case mul =>
    split at h
    · subst_vars
      split at h
      · rename_i hr; cases h
        exact ⟨_, by simp only [binOp, ne_eq, not_true, if_false, Op.intArith, Sem.run_pure, wrap_i64 hr], .v _ rfl⟩
      · cases h
    · cases h; exact ⟨_, by simp only [binOp, ne_eq, not_true, if_false, Op.intArith, Sem.run_pure], .v _ rfl⟩
  case quo =>
    split at h
    · subst_vars
      split at h
      · rename_i hr; cases h
        obtain ⟨h0, h1, h2⟩ := hr
        have e : a.tdiv b = a / b := Int.tdiv_eq_ediv_of_nonneg h0
        have hb : i64R (a / b) := by
          have := Int.ediv_le_self b h0
          have := Int.ediv_nonneg h0 (Int.le_of_lt h1)
          unfold i64R at *; omega
        exact ⟨_, by simp only [binOp, ne_eq, not_true, if_false, Op.intDiv, if_neg (show ¬ b = 0 by omega), Sem.run_pure, e, wrap_i64 hb], .v _ rfl⟩
      · cases h
    · split at h
      · rename_i hb; cases h
        exact ⟨_, by simp only [binOp, ne_eq, not_true, if_false, Op.intDiv, if_neg hb, Sem.run_pure], .v _ rfl⟩
      · cases h
  case rem =>
    split at h
    · subst_vars
      split at h
      · rename_i hr; cases h
        have e : a.tmod b = a % b := Int.tmod_eq_emod_of_nonneg hr.1
        exact ⟨_, by simp only [binOp, ne_eq, not_true, if_false, Op.intDiv, if_neg (show ¬ b = 0 by omega), Sem.run_pure, e], .v _ rfl⟩
      · cases h
    · split at h
      · rename_i hb; cases h
        exact ⟨_, by simp only [binOp, ne_eq, not_true, if_false, Op.intDiv, if_neg hb, Sem.run_pure], .v _ rfl⟩
      · cases h
  all_goals
    cases h
    refine ⟨_, ?_, .v _ rfl⟩
    simp only [binOp, ne_eq, not_true, if_false, Op.intBits, Op.intCmp, Sem.run_pure, int_beq, bne, ge_iff_le, gt_iff_lt]

theorem shiftA_ok {w : World} {t : TypeId} {op : BinOp} {k k' : IntKind} {a b : Int} {y : AV} {Y : Nat → Prop} (h : shiftA op k a b = some y) :
    ∃ r, (binOp op t (.int k a) (.int k' b)).run P w = .ok r w ∧ Rep Y w y r := by
  cases op <;> simp only [shiftA] at h <;> try (cases h; done)
  all_goals
    split at h
    · rename_i hb
      cases h
      refine ⟨_, ?_, .v _ rfl⟩
      simp only [binOp, Op.shift, if_neg (show ¬ b < 0 by omega), Sem.run_pure]
    · cases h

theorem strA_ok {w : World} {t : TypeId} {op : BinOp} {a b : ByteArray} {y : AV} {Y : Nat → Prop} (h : strA op a b = some y) :
    ∃ r, (binOp op t (.string a) (.string b)).run P w = .ok r w ∧ Rep Y w y r := by
  cases op <;> simp only [strA] at h <;> try (cases h; done)
  case add =>
    split at h
    · rename_i hr; cases h
      refine ⟨_, ?_, .v _ rfl⟩
      simp only [binOp, Op.stringOp]
      rw [if_neg (by simp [IntKind.max, IntKind.signed, IntKind.bits]; omega)]
      rfl
    · cases h
  all_goals
    cases h
    refine ⟨_, ?_, .v _ rfl⟩
    simp only [binOp, Op.stringOp, Sem.run_pure, bytes_toList_inj, sLt]
end Go.Ab
