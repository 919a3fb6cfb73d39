/- The pure operations, more: slices, lengths, sums, comparings, new structs. -/
import Derived.Test.YthfjcplhjbaplaaAb3
set_option linter.all false
namespace Go.Ab
set_option linter.unusedVariables false
variable {P : Program}

/-- A bound of a slice expression. -/
inductive BV : Option Int → Option Value → Prop
  | none : BV none none
  | some (k : IntKind) (n : Int) : BV (some n) (some (.int k n))

def sliceA (P : Program) (t : TypeId) (x : AV) (lo hi mx : Option Int) : Option AV :=
  match x with
  | .v (.string s) => if isStr P t = true ∧ mx = none ∧ 0 ≤ lo.getD 0 ∧ lo.getD 0 ≤ hi.getD s.size ∧ hi.getD s.size ≤ s.size then some (.v (.string (s.extract (lo.getD 0).toNat (hi.getD s.size).toNat))) else none
  | .sl k l => match sle P t with
    | some (_, s) => if k = s ∧ 0 ≤ lo.getD 0 ∧ lo.getD 0 ≤ hi.getD l.length ∧ hi.getD l.length ≤ l.length ∧ hi.getD l.length ≤ mx.getD l.length ∧ mx.getD l.length ≤ l.length ∧ (mx.isSome → hi.isSome) then some (.sl k ((l.take (hi.getD l.length).toNat).drop (lo.getD 0).toNat)) else none
    | none => none
  | .own p k b off len => match sle P t with
    | some (_, s) => if k = s ∧ 0 ≤ lo.getD 0 ∧ lo.getD 0 ≤ hi.getD len ∧ hi.getD len ≤ len ∧ hi.getD len ≤ mx.getD len ∧ mx.getD len ≤ len ∧ (mx.isSome → hi.isSome) then some (.own p k b (off + (lo.getD 0).toNat) ((hi.getD len).toNat - (lo.getD 0).toNat)) else none
    | none => none
  | .nils => match sle P t with
    | some (_, s) => if lo.getD 0 = 0 ∧ hi.getD 0 = 0 ∧ mx.getD 0 = 0 ∧ (mx.isSome → hi.isSome) then some .nils else none
    | none => none
  | _ => none

theorem sliceBounds_run (isSlice : Bool) (w : World) {len cap : Nat} {lo hi mx : Option Int} {lv hv mv : Option Value} (h1 : BV lo lv) (h2 : BV hi hv) (h3 : BV mx mv)
    (a : 0 ≤ lo.getD 0) (b : lo.getD 0 ≤ hi.getD len) (c : hi.getD len ≤ mx.getD cap) (d : mx.getD cap ≤ cap) (e : mx.isSome → hi.isSome) (f : 0 ≤ hi.getD len) :
    (Instr.sliceBounds isSlice len cap lv hv mv).run P w = .ok ((lo.getD 0).toNat, (hi.getD len).toNat, (mx.getD cap).toNat) w := by
  cases h1 <;> cases h2 <;> cases h3 <;> simp only [Option.getD_none, Option.getD_some, Option.isSome_none, Option.isSome_some] at a b c d e f <;>
    first
    | (simp at e; done)
    | (simp only [Instr.sliceBounds, Sem.run_bind, Sem.run_pure, Result.andThen_ok, Option.getD_none, Option.getD_some, Int.toNat_natCast, Int.toNat_zero, Sem.run_ite, Option.isSome_none, Option.isSome_some, Bool.false_eq_true, if_false, if_true]
       repeat (first | rw [run_sliceBound (h0 := by omega) (h1 := by omega)] | simp only [Result.andThen_ok, Sem.run_pure, Sem.run_bind]))

theorem sliceA_ok {Y : Nat → Prop} {w : World} {t : TypeId} {x y : AV} {u : Value} {lo hi mx : Option Int} {lv hv mv : Option Value} (h1 : BV lo lv) (h2 : BV hi hv) (h3 : BV mx mv)
    (hx : Rep Y w x u) (hl : sliceA P t x lo hi mx = some y) : ∃ r, (Instr.sliceAt t u lv hv mv).run P w = .ok r w ∧ Rep Y w y r := by
  have key : ∀ e s (a : Option Addr) (len cap : Nat), sle P t = some (e, s) → 0 ≤ lo.getD 0 → lo.getD 0 ≤ hi.getD len → hi.getD len ≤ mx.getD cap → mx.getD cap ≤ cap → (mx.isSome → hi.isSome) →
      (Instr.sliceAt t (.slice a len cap) lv hv mv).run P w = .ok (.slice (if (mx.getD cap).toNat = (lo.getD 0).toNat then a else a.map (·.add ((lo.getD 0).toNat * s))) ((hi.getD len).toNat - (lo.getD 0).toNat) ((mx.getD cap).toNat - (lo.getD 0).toNat)) w := by
    intro e s a len cap h a1 b1 c1 d1 e1
    obtain ⟨i, g1, g2, rfl⟩ := sle_some h
    simp only [Instr.sliceAt, Instr.slice, Sem.run_bind, run_underlying g1, Result.andThen_ok, sliceBounds_run (P := P) true w h1 h2 h3 a1 b1 c1 d1 e1 (Int.le_trans a1 b1), run_sizeOf g2, Sem.run_pure]
  cases hx <;> (try simp only [sliceA] at hl) <;> try (cases hl; done)
  case v =>
    cases u <;> simp only [sliceA] at hl <;> try (cases hl; done)
    rename_i s
    split at hl
    · rename_i hc
      cases hl
      obtain ⟨g1, rfl, g3, g4, g5⟩ := hc
      cases h3
      have hu : P.underlying t = some .string := by unfold isStr at g1; split at g1 <;> simp_all
      refine ⟨_, ?_, .v _ rfl⟩
      simp only [Instr.sliceAt, Instr.slice, Sem.run_bind, run_underlying hu, Result.andThen_ok, Option.isSome_none, Bool.false_eq_true, if_false, Sem.run_pure,
        sliceBounds_run (P := P) false w h1 h2 .none g3 g4 (by simpa using g5) (by simp) (by simp) (Int.le_trans g3 g4)]
    · cases hl
  case sl0 k a c =>
    split at hl
    · rename_i e s he
      split at hl
      · rename_i hc
        obtain ⟨rfl, g1, g2, g3, g4, g5, g6⟩ := hc
        cases hl
        simp only [List.length_nil, List.take_nil, List.drop_nil] at *
        have e0 : mx.getD ((0 : Nat) : Int) = 0 := by omega
        refine ⟨_, key e k a 0 c he g1 (by omega) (by cases mx <;> simp only [Option.getD_none, Option.getD_some] at * <;> omega) (by cases mx <;> simp only [Option.getD_none, Option.getD_some] at * <;> omega) g6, ?_⟩
        have : (hi.getD ((0 : Nat) : Int)).toNat - (lo.getD 0).toNat = 0 := by omega
        rw [this]; exact .sl0 _ _ _
      · cases hl
    · cases hl
  case sl k l b off c f hX hb hc hk ho hl' h' =>
    split at hl
    · rename_i e s he
      split at hl
      · rename_i hc'
        obtain ⟨rfl, g1, g2, g3, g4, g5, g6⟩ := hc'
        cases hl
        refine ⟨_, key e k _ l.length c he g1 g2 (by cases mx <;> simp_all; omega) (by cases mx <;> simp_all; omega) g6, ?_⟩
        generalize hL : (lo.getD 0).toNat = L
        generalize hH : (hi.getD l.length).toNat = H
        generalize hM : (mx.getD c).toNat = M
        have hLH : L ≤ H := by omega
        have hHl : H ≤ l.length := by omega
        have hHM : H ≤ M := by cases mx <;> simp_all <;> omega
        have hlen : ((l.take H).drop L).length = H - L := by simp; omega
        by_cases e0 : H = L
        · have : (l.take H).drop L = [] := List.eq_nil_of_length_eq_zero (by omega)
          rw [this, e0, Nat.sub_self]; exact .sl0 _ _ _
        · rw [if_neg (by omega), ← hlen]
          simp only [Option.map_some, add_addr]
          have hget : ∀ (i : Nat) x, ((l.take H).drop L)[i]? = some x → l[L + i]? = some x := by
            intro i x hx
            simp only [List.getElem?_drop, List.getElem?_take] at hx
            split at hx
            · exact hx
            · cases hx
          refine .sl k _ b (off + L * k) _ (fun i j => f (L + i) j) hX hb (by omega) (fun i x hx => hk _ x (hget i x hx)) (fun i x j y hx hy => ho _ x j y (hget i x hx) hy) (fun i x j y hx hy => ?_) fun i x j y hx hy => h' _ x j y (hget i x hx) hy
          have := hl' _ x j y (hget i x hx) hy
          rw [Nat.add_mul] at this
          rw [← this]; congr 2; omega
      · cases hl
    · cases hl
  case nils a =>
    split at hl
    · rename_i e s he
      split at hl
      · rename_i hc
        obtain ⟨g1, g2, g3, g4⟩ := hc
        cases hl
        refine ⟨_, key e s a 0 0 he (by omega) (by rw [Int.natCast_zero]; omega) (by rw [Int.natCast_zero]; omega) (by rw [Int.natCast_zero]; omega) g4, ?_⟩
        simp only [Int.natCast_zero, g1, g2, g3]
        exact .nils _
      · cases hl
    · cases hl
  case ownE p k b off a =>
    split at hl
    · rename_i e s he
      split at hl
      · rename_i hc
        obtain ⟨rfl, g1, g2, g3, g4, g5, g6⟩ := hc
        cases hl
        simp only [Int.natCast_zero] at *
        refine ⟨_, key e k a 0 0 he (by omega) (by rw [Int.natCast_zero]; omega) (by rw [Int.natCast_zero]; omega) (by rw [Int.natCast_zero]; omega) g6, ?_⟩
        have e1 : (hi.getD ((0 : Nat) : Int)).toNat - (lo.getD 0).toNat = 0 := by simp only [Int.natCast_zero]; omega
        have e1' : (hi.getD (0 : Int)).toNat - (lo.getD 0).toNat = 0 := by omega
        have e2 : (mx.getD ((0 : Nat) : Int)).toNat - (lo.getD 0).toNat = 0 := by simp only [Int.natCast_zero]; omega
        rw [e1, e1', e2]; exact .ownE _ _ _ _ _
      · cases hl
    · cases hl
  case own p k b off len c hc cs e' z hb hs =>
    split at hl
    · rename_i e s he
      split at hl
      · rename_i hc'
        obtain ⟨rfl, g1, g2, g3, g4, g5, g6⟩ := hc'
        cases hl
        refine ⟨_, key e k _ len c he g1 g2 (by cases mx <;> simp_all; omega) (by cases mx <;> simp_all; omega) g6, ?_⟩
        generalize hL : (lo.getD 0).toNat = L
        generalize hH : (hi.getD len).toNat = H
        generalize hM : (mx.getD c).toNat = M
        have hLH : L ≤ H := by omega
        have hHl : H ≤ len := by omega
        have hHM : H ≤ M := by cases mx <;> simp_all <;> omega
        have hMc : M ≤ c := by cases mx <;> simp_all <;> omega
        by_cases e0 : M = L
        · have e1 : H - L = 0 := by omega
          have e2 : M - L = 0 := by omega
          rw [e1, e2]; exact .ownE _ _ _ _ _
        · rw [if_neg e0]
          simp only [Option.map_some, add_addr]
          rw [← Nat.add_mul]
          refine .own p k b (off + L) (H - L) (M - L) (by omega) cs e' z hb (Nat.le_trans (Nat.mul_le_mul_right k ?_) hs)
          omega
      · cases hl
    · cases hl
end Go.Ab
