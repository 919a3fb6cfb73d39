/- All pure operations as one: opv. -/
import Derived.Test.YthfjcplhjbaplaaAb9
set_option linter.all false
namespace Go.Ab
set_option linter.unusedVariables false
variable {P : Program}

/-- A bound: none, or an int. -/
def bnd (fr : Nat → AV) : Option Operand → Option (Option Int)
  | none => some none
  | some x => match ev fr x with
    | .v (.int _ n) => some (some n)
    | _ => none

def minA : AV → AV → Option AV
  | .v (.int k a), .v (.int _ b) => some (.v (.int k (min a b)))
  | .v (.string a), .v (.string b) => some (.v (.string (if sLt a b || decide (a = b) then a else b)))
  | _, _ => none
def maxA : AV → AV → Option AV
  | .v (.int k a), .v (.int _ b) => some (.v (.int k (max a b)))
  | .v (.string a), .v (.string b) => some (.v (.string (if !sLt a b then a else b)))
  | _, _ => none

def intOfA : AV → Option Int
  | .v (.int _ n) => some n
  | _ => none

/-- What a pure operation comes to. -/
def opv (P : Program) (fr : Nat → AV) (hp : List Blk) : Op → Option AV
  | .move x | .assign x => some (ev fr x)
  | .pick c a b => match ev fr c with | .v (.bool t) => some (if t = true then ev fr a else ev fr b) | _ => none
  | .extract x i => match ev fr x with | .tup l => l[i]? | _ => none
  | .nilCheck x => match ev fr x with
    | .ptr p k b i j => some (.ptr p k b i j)
    | .rp d j => some (.rp d j)
    | .fn (.func f) a b => some (.fn (.func f) a b)
    | _ => none
  | .field t x f => fieldA P t f (ev fr x)
  | .fieldAddr t x f => fldA P t f (ev fr x)
  | .load t x => loadA P hp t (ev fr x)
  | .indexAddr t x i => match intOfA (ev fr i) with | some n => idxA P t (ev fr x) n | none => none
  | .index t x i => match intOfA (ev fr i) with | some n => eltA P t (ev fr x) n | none => none
  | .slice t x lo hi mx => match bnd fr lo, bnd fr hi, bnd fr mx with
    | some a, some b, some c => sliceA P t (ev fr x) a b c
    | _, _, _ => none
  | .build t parts => buildA P t (parts.toList.map fun p => (p.1, ev fr p.2))
  | .makeFunc f a c => some (.fn f (a.toList.map (ev fr)) (c.toList.map (ev fr)))
  | .unOp .not _ x => match ev fr x with | .v (.bool t) => some (.v (.bool (!t))) | _ => none
  | .convert s d x => convA P hp s d (ev fr x)
  | .binOp op t x y _ => binA P op t (ev fr x) (ev fr y)
  | .call c => match c.callee, c.args.toList, c.argTypes.toList with
    | .builtin .len, [x], [t] => lenA P t (ev fr x)
    | .builtin .min, [x, y], _ => minA (ev fr x) (ev fr y)
    | .builtin .max, [x, y], _ => maxA (ev fr x) (ev fr y)
    | _, _, _ => none
  | _ => none

theorem bnd_ok {X n fr hp a w} (h : Sim X n fr hp a w) {o : Option Operand} {b : Option Int} (hb : bnd fr o = some b) : BV b (o.map a.eval) := by
  cases o with
  | none => cases hb; exact .none
  | some x =>
    simp only [bnd] at hb
    split at hb
    · rename_i k m he
      cases hb
      have := h.ev x
      rw [he] at this
      simp only [Option.map_some]
      generalize a.eval x = u at this
      cases this
      exact .some k m
    · cases hb

theorem intOfA_ok {Y : Nat → Prop} {w : World} {x : AV} {u : Value} {n : Int} (h : Rep Y w x u) (hn : intOfA x = some n) : ∃ k, u = .int k n := by
  unfold intOfA at hn
  split at hn
  · cases hn; cases h; exact ⟨_, rfl⟩
  · cases hn

theorem list_one {α : Type} {a : Array α} {x : α} (h : a.toList = [x]) : a = #[x] := by cases a; simp at h; rw [h]
theorem list_two {α : Type} {a : Array α} {x y : α} (h : a.toList = [x, y]) : a = #[x, y] := by cases a; simp at h; rw [h]

theorem minA_ok {Y : Nat → Prop} {w : World} {ts : Array TypeId} {ty : TypeId} {x y z : AV} {u v : Value} (hx : Rep Y w x u) (hy : Rep Y w y v) (h : minA x y = some z) :
    ∃ r, (Builtin.min_ ts ty #[u, v]).run P w = .ok r w ∧ Rep Y w z r := by
  unfold minA at h
  split at h
  · cases hx; cases hy; cases h
    refine ⟨_, ?_, .v _ rfl⟩
    simp only [Builtin.min_, List.foldlM, Builtin.min2, Sem.run_bind, Sem.run_pure, Result.andThen_ok]
    congr 2
    rw [Int.min_def]; split <;> split <;> omega
  · cases hx; cases hy; cases h
    refine ⟨_, ?_, .v _ rfl⟩
    simp only [Builtin.min_, List.foldlM, Builtin.min2, Sem.run_bind, Sem.run_pure, Result.andThen_ok, Op.stringOp, asBool, bytes_toList_inj, sLt]
    rfl
  · cases h
theorem maxA_ok {Y : Nat → Prop} {w : World} {ts : Array TypeId} {ty : TypeId} {x y z : AV} {u v : Value} (hx : Rep Y w x u) (hy : Rep Y w y v) (h : maxA x y = some z) :
    ∃ r, (Builtin.max_ ts ty #[u, v]).run P w = .ok r w ∧ Rep Y w z r := by
  unfold maxA at h
  split at h
  · cases hx; cases hy; cases h
    refine ⟨_, ?_, .v _ rfl⟩
    simp only [Builtin.max_, List.foldlM, Builtin.max2, Sem.run_bind, Sem.run_pure, Result.andThen_ok]
    congr 2
    rw [Int.max_def]; split <;> split <;> omega
  · cases hx; cases hy; cases h
    refine ⟨_, ?_, .v _ rfl⟩
    simp only [Builtin.max_, List.foldlM, Builtin.max2, Sem.run_bind, Sem.run_pure, Result.andThen_ok, Op.stringOp, asBool, bytes_toList_inj, sLt]
    rfl
  · cases h

theorem run_v {s : Sem Value} {w : World} {r : Value} (h : s.run P w = .ok r w) : (do pure (Next.value (← s)) : Sem Next).run P w = .ok (.value r) w := by
  rw [Sem.run_bind, h]; rfl

theorem opv_ok {X n fr hp a w} (h : Sim X n fr hp a w) {o : Oper} {x : AV} (hx : opv P fr hp o.op = some x) :
    ∃ u, (execOp a.eval o).run P w = .ok (.value u) w ∧ Rep (un X hp) w x u := by
  obtain ⟨dst, op, type, pos, after, guard⟩ := o
  simp only at hx
  unfold opv at hx
  simp only [execOp]
  split at hx
  · cases hx; exact ⟨_, rfl, h.ev _⟩
  · cases hx; exact ⟨_, rfl, h.ev _⟩
  · rename_i c y z
    split at hx
    · rename_i t he
      cases hx
      have hc := h.ev c
      rw [he] at hc
      obtain ⟨cv, hcv⟩ : ∃ cv, a.eval c = cv := ⟨_, rfl⟩; simp only [hcv] at hc ⊢; clear hcv
      cases hc
      refine ⟨if t = true then a.eval y else a.eval z, ?_, ?_⟩
      · simp only [Sem.run_bind, asBool, Sem.run_pure, Result.andThen_ok]
      · cases t
        · exact h.ev z
        · exact h.ev y
    · cases hx
  · rename_i y i
    split at hx
    · rename_i l he
      have hc := h.ev y
      rw [he] at hc
      obtain ⟨cv, hcv⟩ : ∃ cv, a.eval y = cv := ⟨_, rfl⟩; simp only [hcv] at hc ⊢; clear hcv
      cases hc with
      | tup l vs hn hh =>
        have hlt := (List.getElem?_eq_some_iff.1 hx).1
        have hv : vs[i]? = some vs[i] := Array.getElem?_eq_getElem (by omega)
        exact ⟨vs[i], run_v (by simp [Instr.extract, hv]), hh i x _ hx hv⟩
    · cases hx
  · rename_i y
    have hc := h.ev y
    split at hx
    · rename_i he; cases hx; rw [he] at hc
      obtain ⟨cv, hcv⟩ : ∃ cv, a.eval y = cv := ⟨_, rfl⟩; simp only [hcv] at hc ⊢; clear hcv
      cases hc; exact ⟨_, rfl, .ptr _ _ _ _ _⟩
    · rename_i he; cases hx; rw [he] at hc
      obtain ⟨cv, hcv⟩ : ∃ cv, a.eval y = cv := ⟨_, rfl⟩; simp only [hcv] at hc ⊢; clear hcv
      cases hc with
      | rp _ _ b off u hX hb ho hl hh => exact ⟨_, rfl, .rp _ _ b off u hX hb ho hl hh⟩
    · rename_i he; cases hx; rw [he] at hc
      obtain ⟨cv, hcv⟩ : ∃ cv, a.eval y = cv := ⟨_, rfl⟩; simp only [hcv] at hc ⊢; clear hcv
      cases hc with
      | fn _ _ _ v1 v2 n1 n2 h1 h2 => exact ⟨_, rfl, .fn _ _ _ v1 v2 n1 n2 h1 h2⟩
    · cases hx
  · obtain ⟨r, h1, h2⟩ := fieldA_ok (P := P) (h.ev _) hx; exact ⟨r, run_v h1, h2⟩
  · obtain ⟨r, h1, h2⟩ := fldA_ok (P := P) (h.ev _) hx; exact ⟨r, run_v h1, h2⟩
  · obtain ⟨r, h1, h2⟩ := load_ok (P := P) h (h.ev _) hx; exact ⟨r, run_v h1, h2⟩
  · split at hx
    · rename_i i m hm
      obtain ⟨k, hk⟩ := intOfA_ok (h.ev _) hm
      dsimp only
      rw [hk]
      obtain ⟨r, h1, h2⟩ := idxA_ok (P := P) (k := k) (h.ev _) hx; exact ⟨r, run_v h1, h2⟩
    · cases hx
  · split at hx
    · rename_i i m hm
      obtain ⟨k, hk⟩ := intOfA_ok (h.ev _) hm
      dsimp only
      rw [hk]
      obtain ⟨r, h1, h2⟩ := eltA_ok (P := P) (k := k) (h.ev _) hx; exact ⟨r, run_v h1, h2⟩
    · cases hx
  · split at hx
    · rename_i h1 h2 h3
      obtain ⟨r, h4, h5⟩ := sliceA_ok (P := P) (bnd_ok h h1) (bnd_ok h h2) (bnd_ok h h3) (h.ev _) hx
      exact ⟨r, run_v h4, h5⟩
    · cases hx
  · rename_i t parts
    obtain ⟨r, h1, h2⟩ := buildA_ok (P := P) (w := w) (vparts := parts.map fun (i, x) => (i, a.eval x)) (by simp [Function.comp_def]) (fun j y u hy hu => by
      simp only [List.map_map, List.getElem?_map, Array.toList_map, Option.map_eq_some_iff, Function.comp_apply] at hy hu
      obtain ⟨q, hq, rfl⟩ := hy
      obtain ⟨q', hq', rfl⟩ := hu
      rw [hq] at hq'; cases hq'
      exact h.ev _) hx
    exact ⟨r, run_v h1, h2⟩
  · rename_i f c d
    cases hx
    refine ⟨_, rfl, .fn _ _ _ _ _ (by simp) (by simp) (fun i y u hy hu => ?_) fun i y u hy hu => ?_⟩
    all_goals
      simp only [List.getElem?_map, Array.getElem?_map, Array.getElem?_toList, Option.map_eq_some_iff] at hy hu
      obtain ⟨q, hq, rfl⟩ := hy
      obtain ⟨q', hq', rfl⟩ := hu
      rw [hq] at hq'; cases hq'
      exact h.ev _
  · rename_i y
    split at hx
    · rename_i t he
      cases hx
      have hc := h.ev y
      rw [he] at hc
      obtain ⟨cv, hcv⟩ : ∃ cv, a.eval y = cv := ⟨_, rfl⟩; simp only [hcv] at hc ⊢; clear hcv
      cases hc
      exact ⟨_, rfl, .v _ rfl⟩
    · cases hx
  · obtain ⟨r, h1, h2⟩ := convA_ok (P := P) h (h.ev _) hx; exact ⟨r, run_v h1, h2⟩
  · obtain ⟨r, h1, h2⟩ := binA_ok (P := P) _ _ (h.ev _) (h.ev _) hx; exact ⟨r, run_v h1, h2⟩
  · rename_i c
    obtain ⟨callee, args, argTypes⟩ := c
    simp only at hx
    split at hx
    · rename_i h2 h3
      obtain rfl := list_one h2; obtain rfl := list_one h3
      obtain ⟨r, q1, q2⟩ := lenA_ok (P := P) (ty := type) (h.ev _) hx
      refine ⟨r, ?_, q2⟩
      simp only [resolve, Sem.run_bind, Sem.run_pure, Result.andThen_ok, invoke, builtin]
      simp only [List.map_toArray, List.map_cons, List.map_nil, q1, Result.andThen_ok]
    · rename_i h2
      obtain rfl := list_two h2
      obtain ⟨r, q1, q2⟩ := minA_ok (P := P) (ts := argTypes) (ty := type) (h.ev _) (h.ev _) hx
      refine ⟨r, ?_, q2⟩
      simp only [resolve, Sem.run_bind, Sem.run_pure, Result.andThen_ok, invoke, builtin]
      simp only [List.map_toArray, List.map_cons, List.map_nil, q1, Result.andThen_ok]
    · rename_i h2
      obtain rfl := list_two h2
      obtain ⟨r, q1, q2⟩ := maxA_ok (P := P) (ts := argTypes) (ty := type) (h.ev _) (h.ev _) hx
      refine ⟨r, ?_, q2⟩
      simp only [resolve, Sem.run_bind, Sem.run_pure, Result.andThen_ok, invoke, builtin]
      simp only [List.map_toArray, List.map_cons, List.map_nil, q1, Result.andThen_ok]
    · cases hx
  · cases hx
end Go.Ab
