/- The law FlatTakes: its walk. -/
import Derived.Test.YthfjcplhjbaplaaAbY
import Derived.Test.YthfjcplhjbaplaaAbK
import Derived.Test.YthfjcplhjbaplaaT13b
namespace Go.Ab
open Go.Proofs
set_option linter.all false
set_option maxRecDepth 100000
set_option maxHeartbeats 400000000
/-- what omega shall not look at -/
structure Hid (p : Prop) : Prop where out : p
/-- what is known of a list that is being taken: o is what taking the whole answers -/
def Inv {α : Type} (g : List UInt8 → α × List UInt8 × Bool) (may : α → Bool) (o : List α × List UInt8 × Int) (M k : Nat) (good : Bool) (left : List UInt8) : Prop :=
  left.length ≤ 300 ∧ ((good = true ∧ ∃ pre : List α, pre.length = k ∧ o = takeEnd false pre (takeN g may (M - k) left)) ∨ (good = false ∧ o.2.2 = 2))
def sel (h : Bool) (a b : List UInt8) : List UInt8 := match h with
  | true => a
  | false => b
attribute [go_sem] sel
theorem Inv.step {α : Type} {g : List UInt8 → α × List UInt8 × Bool} {may : α → Bool} {o : List α × List UInt8 × Int} {M k : Nat} {good : Bool} {left : List UInt8} (hle : ∀ s, (g s).2.1.length ≤ s.length) (h : Inv g may o M k good left) (hk : k < M) :
    ((o.2.2 = 0 ∧ good = true ∧ (!(g left).2.2 && may (g left).1) = true ∧ o.1[k]? = some (g left).1 ∧ k < o.1.length) ∨ o.2.2 = 2) ∧
      Inv g may o M (k + 1) (good && (!(g left).2.2 && may (g left).1)) (sel (good && (!(g left).2.2 && may (g left).1)) (g left).2.1 left) := by
  obtain ⟨hl, ⟨rfl, pre, hp, ho⟩ | ⟨rfl, ho⟩⟩ := h
  · obtain ⟨d, hd⟩ : ∃ d, M - k = d + 1 := ⟨M - k - 1, by omega⟩
    have hd' : M - (k + 1) = d := by omega
    rw [hd, takeN] at ho
    have hg := hle left
    cases hb : (g left).2.2 with
    | true =>
      rw [if_pos hb] at ho
      exact ⟨.inr (by rw [ho]; rfl), hl, .inr ⟨by simp, by rw [ho]; rfl⟩⟩
    | false =>
      rw [if_neg (by rw [hb]; simp)] at ho
      cases hm : may (g left).1 with
      | false =>
        rw [if_neg (by rw [hm]; simp)] at ho
        exact ⟨.inr (by rw [ho]; rfl), hl, .inr ⟨by simp, by rw [ho]; rfl⟩⟩
      | true =>
        rw [if_pos hm] at ho
        simp only [Bool.not_false, Bool.and_self, sel]
        refine ⟨?_, by omega, .inl ⟨rfl, pre ++ [(g left).1], by simp [hp], ?_⟩⟩
        · cases ht : takeN g may d (g left).2.1 with
          | none => rw [ht] at ho; exact .inr (by rw [ho]; rfl)
          | some r =>
            rw [ht] at ho
            refine .inl ⟨by rw [ho]; rfl, by simp, by simp, ?_, ?_⟩
            · rw [ho]; simp [takeEnd, hp]
            · rw [ho]; simp [takeEnd, hp]
        · rw [ho, hd']
          cases takeN g may d (g left).2.1 <;> simp [takeEnd]
  · exact ⟨.inr ho, hl, .inr ⟨rfl, ho⟩⟩
theorem Inv.fin {α : Type} {g : List UInt8 → α × List UInt8 × Bool} {may : α → Bool} {o : List α × List UInt8 × Int} {M : Nat} {good : Bool} {left : List UInt8} (h : Inv g may o M M good left) : (good = true ∧ o.2.2 = 0 ∧ o.2.1 = left) ∨ (good = false ∧ o.2.2 = 2) := by
  obtain ⟨hl, ⟨rfl, pre, hp, ho⟩ | ⟨rfl, ho⟩⟩ := h
  · rw [Nat.sub_self, takeN] at ho
    exact .inl ⟨rfl, by rw [ho]; rfl, by rw [ho]; rfl⟩
  · exact .inr ⟨rfl, ho⟩
theorem Inv.off {α : Type} {g : List UInt8 → α × List UInt8 × Bool} {may : α → Bool} {o : List α × List UInt8 × Int} {M k : Nat} {left : List UInt8} (h : Inv g may o M k false left) : o.2.2 = 2 := by
  obtain ⟨hl, ⟨h, _⟩ | ⟨_, ho⟩⟩ := h
  · cases h
  · exact ho
theorem Inv.zero {α : Type} (g : List UInt8 → α × List UInt8 × Bool) (may : α → Bool) (s : List UInt8) (hs : s.length ≤ 300) {M : Nat} {r0 : List UInt8} {b0 : Bool} (hr : rnum s 2 = (M, r0, b0)) : Inv g may (takeLP g may s) M 0 (!b0) r0 := by
  obtain ⟨h1, h2, h3, h4⟩ := takeLP_end g may s hr
  refine ⟨by omega, ?_⟩
  cases b0 with
  | true => exact .inr ⟨rfl, by rw [h1]; rfl⟩
  | false => exact .inl ⟨rfl, [], rfl, by rw [h1]; simp⟩
@[go_sem] abbrev B0 (b : Nat) (s : List UInt8) : Blk := ⟨true, some b, 3, 34, [rgA (takeR s).1.1 (takeR s).1.2.1 (takeR s).1.2.2]⟩
theorem aw13 : APure Try.prog 4 [] (boolA true) := awake13
def c3b : Cfg := ⟨315, k3, [], [1000008, 1000015], p3⟩
attribute [go_sem] c3b
theorem i3b {c : Code} {args x} (hb : Try.f3.body = some c) (hl : args.length ≤ 315) (h : W Try.prog c3b (RP Try.prog [.tmp 2] x) [.code c] (initF 0 args) []) : APure Try.prog 3 args x :=
  .intro (by kernel_rfl) mixed Try.func3 hb rfl rfl (okE hb (by kernel_rfl)) hl h
theorem law_FlatTakes (s : List UInt8) : APure Try.prog 3 [sA s] (boolA true) := by
  refine i3b rfl (by simp) (W.go 200 ?_)
  by_cases c : s.length ≤ 300
  · have hs : s.length ≤ 2 ^ 40 := by omega
    have c' : ¬ (300 : Int) < s.length := by omega
    simp (config := { contextual := true, maxSteps := 4000000 }) (disch := omega) only [go_sem, beq_self_eq_true, Nat.reduceBEq, ↓reduceIte, reduceCtorEq, Nat.reduceEqDiff, Nat.reduceAdd, Nat.reduceSub, Nat.reduceMul, Nat.reduceLT, Nat.reduceLeDiff, Int.reduceLT, Int.reduceLE, Int.reduceToNat, Int.reduceAdd, Int.reduceSub, Int.reduceMul, Int.reduceNeg, Int.reduceEq, c']
    refine CallG.pure (flat_TakeNote s hs) (W.go 200 ?_)
    simp (config := { contextual := true, maxSteps := 4000000 }) (disch := omega) only [go_sem, beq_self_eq_true, Nat.reduceBEq, ↓reduceIte, reduceCtorEq, Nat.reduceEqDiff, Nat.reduceAdd, Nat.reduceSub, Nat.reduceMul, Nat.reduceLT, Nat.reduceLeDiff, Int.reduceLT, Int.reduceLE, Int.reduceToNat, Int.reduceAdd, Int.reduceSub, Int.reduceMul, Int.reduceNeg, Int.reduceEq]
    refine CallG.pure (flat_TakePair s hs) (W.go 200 ?_)
    simp (config := { contextual := true, maxSteps := 4000000 }) (disch := omega) only [go_sem, beq_self_eq_true, Nat.reduceBEq, ↓reduceIte, reduceCtorEq, Nat.reduceEqDiff, Nat.reduceAdd, Nat.reduceSub, Nat.reduceMul, Nat.reduceLT, Nat.reduceLeDiff, Int.reduceLT, Int.reduceLE, Int.reduceToNat, Int.reduceAdd, Int.reduceSub, Int.reduceMul, Int.reduceNeg, Int.reduceEq]
    refine CallG.pure (flat_TakeChange s hs) (W.go 200 ?_)
    simp (config := { contextual := true, maxSteps := 4000000 }) (disch := omega) only [go_sem, beq_self_eq_true, Nat.reduceBEq, ↓reduceIte, reduceCtorEq, Nat.reduceEqDiff, Nat.reduceAdd, Nat.reduceSub, Nat.reduceMul, Nat.reduceLT, Nat.reduceLeDiff, Int.reduceLT, Int.reduceLE, Int.reduceToNat, Int.reduceAdd, Int.reduceSub, Int.reduceMul, Int.reduceNeg, Int.reduceEq]
    refine CallG.pure (flat_TakeRange s hs) (W.go 200 ?_)
    simp (config := { contextual := true, maxSteps := 4000000 }) (disch := omega) only [go_sem, beq_self_eq_true, Nat.reduceBEq, ↓reduceIte, reduceCtorEq, Nat.reduceEqDiff, Nat.reduceAdd, Nat.reduceSub, Nat.reduceMul, Nat.reduceLT, Nat.reduceLeDiff, Int.reduceLT, Int.reduceLE, Int.reduceToNat, Int.reduceAdd, Int.reduceSub, Int.reduceMul, Int.reduceNeg, Int.reduceEq]
    intro b0
    refine CallG.pure (ref13_TakeRange s hs) (W.go 200 ?_)
    simp (config := { contextual := true, maxSteps := 4000000 }) (disch := omega) only [go_sem, beq_self_eq_true, Nat.reduceBEq, ↓reduceIte, reduceCtorEq, Nat.reduceEqDiff, Nat.reduceAdd, Nat.reduceSub, Nat.reduceMul, Nat.reduceLT, Nat.reduceLeDiff, Int.reduceLT, Int.reduceLE, Int.reduceToNat, Int.reduceAdd, Int.reduceSub, Int.reduceMul, Int.reduceNeg, Int.reduceEq]
    intro b1
    refine W.cut (l := [_, _]) (σ := Unit) (fun _ => [(0, sA s), (3, .sl 4 ((takeLP gN nright s).1.map Note.av)), (4, sA (takeLP gN nright s).2.1), (5, iA (takeLP gN nright s).2.2), (6, .sl 2 ((takeLP gP pright s).1.map Pair.av)), (7, sA (takeLP gP pright s).2.1), (8, iA (takeLP gP pright s).2.2), (9, .sl 6 ((takeLP gC cmay s).1.map Change.av)), (10, sA (takeLP gC cmay s).2.1), (11, iA (takeLP gC cmay s).2.2)])
      (fun _ => [B0 b0 s, B0 b1 s]) (fun _ => True) ?_ ?_
    · dsimp only [List.cons_append, List.nil_append]
      refine .reg (W.go 200 ?_)
      cases hr2 : (takeR s).2.2 with
      | _ =>
        simp (config := { contextual := true, maxSteps := 4000000 }) (disch := omega) only [go_sem, beq_self_eq_true, Nat.reduceBEq, ↓reduceIte, reduceCtorEq, Nat.reduceEqDiff, Nat.reduceAdd, Nat.reduceSub, Nat.reduceMul, Nat.reduceLT, Nat.reduceLeDiff, Int.reduceLT, Int.reduceLE, Int.reduceToNat, Int.reduceAdd, Int.reduceSub, Int.reduceMul, Int.reduceNeg, Int.reduceEq, hr2]
        exact ⟨(), .inr ⟨[0, 3, 4, 5, 6, 7, 8, 9, 10, 11], rfl⟩, 2, rfl⟩
    · rintro - -
      refine W.go 200 ?_
      simp (config := { contextual := true, maxSteps := 4000000 }) (disch := omega) only [go_sem, beq_self_eq_true, Nat.reduceBEq, ↓reduceIte, reduceCtorEq, Nat.reduceEqDiff, Nat.reduceAdd, Nat.reduceSub, Nat.reduceMul, Nat.reduceLT, Nat.reduceLeDiff, Int.reduceLT, Int.reduceLE, Int.reduceToNat, Int.reduceAdd, Int.reduceSub, Int.reduceMul, Int.reduceNeg, Int.reduceEq]
      refine CallG.pure (ref01_Take s 2 (by omega) (by omega)) (W.go 200 ?_)
      generalize hr : rnum s 2 = q
      obtain ⟨M, r0, bad⟩ := q
      have hM : M < 65536 := by have := rnum_lt s 2; rw [hr] at this; simpa using this
      have i1 := Inv.zero gN nright s c hr
      have i2 := Inv.zero gP pright s c hr
      have i3 := Inv.zero gC cmay s c hr
      have z1 : (takeLP gN nright s).2.2 = 0 ∨ (takeLP gN nright s).2.2 = 2 := by unfold takeLP; cases takeL gN nright s <;> simp
      have z2 : (takeLP gP pright s).2.2 = 0 ∨ (takeLP gP pright s).2.2 = 2 := by unfold takeLP; cases takeL gP pright s <;> simp
      have z3 : (takeLP gC cmay s).2.2 = 0 ∨ (takeLP gC cmay s).2.2 = 2 := by unfold takeLP; cases takeL gC cmay s <;> simp
      generalize takeLP gN nright s = N at *
      generalize takeLP gP pright s = P at *
      generalize takeLP gC cmay s = Q at *
      obtain ⟨n, a, e⟩ := N
      obtain ⟨p, b, f⟩ := P
      obtain ⟨cc, d, g⟩ := Q
      simp only at z1 z2 z3
      have hbad : decide ((if bad = true then (2 : Int) else 0) = 0) = !bad := by cases bad <;> rfl
      clear hr z1 z2 z3
      simp (config := { contextual := true, maxSteps := 4000000 }) (disch := omega) only [go_sem, beq_self_eq_true, Nat.reduceBEq, ↓reduceIte, reduceCtorEq, Nat.reduceEqDiff, Nat.reduceAdd, Nat.reduceSub, Nat.reduceMul, Nat.reduceLT, Nat.reduceLeDiff, Int.reduceLT, Int.reduceLE, Int.reduceToNat, Int.reduceAdd, Int.reduceSub, Int.reduceMul, Int.reduceNeg, Int.reduceEq, hbad]
      intro b2 b3
      refine W.cut (l := [_, _]) (σ := (Bool × Bool × Bool) × (List UInt8 × List UInt8 × List UInt8)) (fun x => [(4, sA a), (5, iA e), (7, sA b), (8, iA f), (10, sA d), (11, iA g), (21, .ptr 2 3 (some b2) 0 0), (22, .ptr 3 3 (some b3) 0 0)])
        (fun x => [B0 b0 s, B0 b1 s, ⟨true, some b2, 3, 42, [.agg [boolA x.1.1, boolA x.1.2.1, boolA x.1.2.2]]⟩, ⟨true, some b3, 3, 43, [.agg [sA x.2.1, sA x.2.2.1, sA x.2.2.2]]⟩])
        (fun x => ((x.1.1 = true ∧ e = 0 ∧ a = x.2.1) ∨ (x.1.1 = false ∧ e = 2)) ∧ ((x.1.2.1 = true ∧ f = 0 ∧ b = x.2.2.1) ∨ (x.1.2.1 = false ∧ f = 2)) ∧ ((x.1.2.2 = true ∧ g = 0 ∧ d = x.2.2.2) ∨ (x.1.2.2 = false ∧ g = 2)))
        ?_ ?_
      · refine W.loopS (fun x : Nat × (Bool × Bool × Bool) × (List UInt8 × List UInt8 × List UInt8) => [(3, .sl 4 (n.map Note.av)), (4, sA a), (5, iA e), (6, .sl 2 (p.map Pair.av)), (7, sA b), (8, iA f), (9, .sl 6 (cc.map Change.av)), (10, sA d), (11, iA g), (21, .ptr 2 3 (some b2) 0 0), (22, .ptr 3 3 (some b3) 0 0), (106, iA M), (107, iA x.1)])
          (fun x => [B0 b0 s, B0 b1 s, ⟨true, some b2, 3, 42, [.agg [boolA x.2.1.1, boolA x.2.1.2.1, boolA x.2.1.2.2]]⟩, ⟨true, some b3, 3, 43, [.agg [sA x.2.2.1, sA x.2.2.2.1, sA x.2.2.2.2]]⟩])
          (fun x => x.1 ≤ M ∧ Inv gN nright (n, a, e) M x.1 x.2.1.1 x.2.2.1 ∧ Inv gP pright (p, b, f) M x.1 x.2.1.2.1 x.2.2.2.1 ∧ Inv gC cmay (cc, d, g) M x.1 x.2.1.2.2 x.2.2.2.2) (fun x => M - x.1)
          (0, (!bad, !bad, !bad), (r0, r0, r0)) ⟨Nat.zero_le _, i1, i2, i3⟩ rfl rfl ?_
        clear i1 i2 i3
        rintro ⟨k, ⟨g0, g1, g2⟩, ⟨l0, l1, l2⟩⟩ ⟨hk, i1, i2, i3⟩
        simp only at hk i1 i2 i3
        refine W.go 200 ?_
        by_cases hkM : k < M
        · simp (config := { contextual := true, maxSteps := 4000000 }) (disch := omega) only [go_sem, beq_self_eq_true, Nat.reduceBEq, ↓reduceIte, reduceCtorEq, Nat.reduceEqDiff, Nat.reduceAdd, Nat.reduceSub, Nat.reduceMul, Nat.reduceLT, Nat.reduceLeDiff, Int.reduceLT, Int.reduceLE, Int.reduceToNat, Int.reduceAdd, Int.reduceSub, Int.reduceMul, Int.reduceNeg, Int.reduceEq, hkM]
          have hk40 : k < 2 ^ 40 := by omega
          obtain ⟨u, hu, cu⟩ := ref13_TakeNote l0 (by have := i1.1; omega)
          obtain ⟨v, hv, cv⟩ := ref13_TakePair l1 (by have := i2.1; omega)
          obtain ⟨w, hw, cw⟩ := ref13_TakeChange l2 (by have := i3.1; omega)
          obtain ⟨j1, k1⟩ := i1.step gN_le hkM
          obtain ⟨j2, k2⟩ := i2.step gP_le hkM
          obtain ⟨j3, k3⟩ := i3.step gC_le hkM
          have x1 := gN_back l0
          have x2 := gP_back l1
          have x3 := gC_back l2
          have y1 : nright (gN l0).1 = true → 0 ≤ (gN l0).1.kind ∧ (gN l0).1.kind < 256 ∧ (gN l0).1.key.length ≤ 65535 ∧ (gN l0).1.value.length ≤ 65535 := fun h => by
            simp only [nright, decide_eq_true_eq] at h; omega
          have y1' : (gN l0).1.n < 18446744073709551616 := by
            have := rnum_lt (rtext (rtext (rnum l0 1).2.1).2.1).2.1 8
            simpa [gN] using this
          have y2 : pright (gP l1).1 = true → (gP l1).1.key.length ≤ 65535 ∧ (gP l1).1.value.length ≤ 65535 := fun h => by
            simp only [pright, decide_eq_true_eq] at h; omega
          have y3 : cmay (gC l2).1 = true → (0 ≤ (gC l2).1.seq ∧ (gC l2).1.seq < 4294967296) ∧ (gC l2).1.key.length ≤ 65535 ∧ (gC l2).1.before.length ≤ 65535 ∧ (gC l2).1.after.length ≤ 65535 := fun h => by
            simp only [cmay, decide_eq_true_eq] at h; omega
          generalize hs1 : (!(gN l0).2.2 && nright (gN l0).1) = s1 at *
          generalize hs2 : (!(gP l1).2.2 && pright (gP l1).1) = s2 at *
          generalize hs3 : (!(gC l2).2.2 && cmay (gC l2).1) = s3 at *
          have w1' : (g0 && s1) = true → u = (gN l0).1 ∧ (encN u).length ≤ l0.length ∧ l0.drop (encN u).length = (gN l0).2.1 ∧ 0 ≤ u.kind ∧ u.kind < 256 ∧ u.key.length ≤ 65535 ∧ u.value.length ≤ 65535 ∧ u.n < 18446744073709551616 := fun h => by
            obtain ⟨_, rfl⟩ : g0 = true ∧ s1 = true := by simpa using h
            obtain ⟨h1, h2⟩ : (gN l0).2.2 = false ∧ nright (gN l0).1 = true := by simpa using hs1
            rw [hu rfl]
            have := x1 h1
            generalize encN (gN l0).1 = E at this
            refine ⟨rfl, by rw [← this]; simp, ?_, (y1 h2).1, (y1 h2).2.1, (y1 h2).2.2.1, (y1 h2).2.2.2, y1'⟩
            conv => lhs; rw [← this]
            simp
          have w2' : (g1 && s2) = true → v = (gP l1).1 ∧ (encP v).length ≤ l1.length ∧ l1.drop (encP v).length = (gP l1).2.1 ∧ v.key.length ≤ 65535 ∧ v.value.length ≤ 65535 := fun h => by
            obtain ⟨_, rfl⟩ : g1 = true ∧ s2 = true := by simpa using h
            obtain ⟨h1, h2⟩ : (gP l1).2.2 = false ∧ pright (gP l1).1 = true := by simpa using hs2
            rw [hv rfl]
            have := x2 h1
            generalize encP (gP l1).1 = E at this
            refine ⟨rfl, by rw [← this]; simp, ?_, (y2 h2).1, (y2 h2).2⟩
            conv => lhs; rw [← this]
            simp
          have w3' : (g2 && s3) = true → w = (gC l2).1 ∧ (encC w).length ≤ l2.length ∧ l2.drop (encC w).length = (gC l2).2.1 ∧ (0 ≤ w.seq ∧ w.seq < 4294967296) ∧ w.key.length ≤ 65535 ∧ w.before.length ≤ 65535 ∧ w.after.length ≤ 65535 := fun h => by
            obtain ⟨_, rfl⟩ : g2 = true ∧ s3 = true := by simpa using h
            obtain ⟨h1, h2⟩ : (gC l2).2.2 = false ∧ cmay (gC l2).1 = true := by simpa using hs3
            rw [hw rfl]
            have := x3 h1
            generalize encC (gC l2).1 = E at this
            refine ⟨rfl, by rw [← this]; simp, ?_, (y3 h2).1, (y3 h2).2.1, (y3 h2).2.2.1, (y3 h2).2.2.2⟩
            conv => lhs; rw [← this]
            simp
          have w1 := Hid.mk w1'
          have w2 := Hid.mk w2'
          have w3 := Hid.mk w3'
          clear w1' w2' w3' x1 x2 x3 y1 y1' y2 y3 hs1 hs2 hs3 hu hv hw
          have j1 := Hid.mk j1
          have j2 := Hid.mk j2
          have j3 := Hid.mk j3
          have v1 : l0.length ≤ 2 ^ 40 := by have := i1.1; omega
          have v2 : l1.length ≤ 2 ^ 40 := by have := i2.1; omega
          have v3 : l2.length ≤ 2 ^ 40 := by have := i3.1; omega
          refine W.unseq _ [] (W.unseq _ [_] (W.unseq _ [_, _] (W.unseq _ [_, _, _] (W.unseq _ [_, _, _, _] (W.unseq _ [_, _, _, _, _] ?_)))))
          refine W.cut (l := [_, _, _, _, _, _, _]) (σ := Nat × Nat × Nat)
            (fun x => [(3, .sl 4 (n.map Note.av)), (4, sA a), (5, iA e), (6, .sl 2 (p.map Pair.av)), (7, sA b), (8, iA f), (9, .sl 6 (cc.map Change.av)), (10, sA d), (11, iA g), (21, .ptr 2 3 (some b2) 0 0), (22, .ptr 3 3 (some b3) 0 0), (23, iA k), (24, .ptr 4 4 (some x.1) 0 0), (26, .ptr 5 2 (some x.2.1) 0 0), (28, .ptr 6 6 (some x.2.2) 0 0), (106, iA M), (107, iA k)])
            (fun x => [B0 b0 s, B0 b1 s, ⟨true, some b2, 3, 42, [.agg [boolA (g0 && s1), boolA (g1 && s2), boolA (g2 && s3)]]⟩, ⟨true, some b3, 3, 43, [.agg [sA l0, sA l1, sA l2]]⟩,
              ⟨true, some x.1, 4, 45, [u.av]⟩, ⟨true, some x.2.1, 2, 49, [v.av]⟩, ⟨true, some x.2.2, 6, 53, [w.av]⟩])
            (fun _ => True) ?_ ?_
          · clear w1 w2 w3 j1 j2 j3 k1 k2 k3 i1 i2 i3 hs c c' hM hbad
            cases g0 <;> cases g1 <;> cases g2
            all_goals
              dsimp only [List.cons_append, List.nil_append]
              refine .reg (W.go 200 ?_)
              simp (config := { contextual := true, maxSteps := 4000000 }) (disch := omega) only [go_sem, beq_self_eq_true, Nat.reduceBEq, ↓reduceIte, reduceCtorEq, Nat.reduceEqDiff, Nat.reduceAdd, Nat.reduceSub, Nat.reduceMul, Nat.reduceLT, Nat.reduceLeDiff, Int.reduceLT, Int.reduceLE, Int.reduceToNat, Int.reduceAdd, Int.reduceSub, Int.reduceMul, Int.reduceNeg, Int.reduceEq]
              refine CallG.pure cu (W.go 200 ?_)
              simp (config := { contextual := true, maxSteps := 4000000 }) (disch := omega) only [go_sem, beq_self_eq_true, Nat.reduceBEq, ↓reduceIte, reduceCtorEq, Nat.reduceEqDiff, Nat.reduceAdd, Nat.reduceSub, Nat.reduceMul, Nat.reduceLT, Nat.reduceLeDiff, Int.reduceLT, Int.reduceLE, Int.reduceToNat, Int.reduceAdd, Int.reduceSub, Int.reduceMul, Int.reduceNeg, Int.reduceEq]
              intro t1
              refine CallG.pure cv (W.go 200 ?_)
              simp (config := { contextual := true, maxSteps := 4000000 }) (disch := omega) only [go_sem, beq_self_eq_true, Nat.reduceBEq, ↓reduceIte, reduceCtorEq, Nat.reduceEqDiff, Nat.reduceAdd, Nat.reduceSub, Nat.reduceMul, Nat.reduceLT, Nat.reduceLeDiff, Int.reduceLT, Int.reduceLE, Int.reduceToNat, Int.reduceAdd, Int.reduceSub, Int.reduceMul, Int.reduceNeg, Int.reduceEq]
              intro t2
              refine CallG.pure cw (W.go 200 ?_)
              simp (config := { contextual := true, maxSteps := 4000000 }) (disch := omega) only [go_sem, beq_self_eq_true, Nat.reduceBEq, ↓reduceIte, reduceCtorEq, Nat.reduceEqDiff, Nat.reduceAdd, Nat.reduceSub, Nat.reduceMul, Nat.reduceLT, Nat.reduceLeDiff, Int.reduceLT, Int.reduceLE, Int.reduceToNat, Int.reduceAdd, Int.reduceSub, Int.reduceMul, Int.reduceNeg, Int.reduceEq]
              intro t3
              exact ⟨(t1, t2, t3), .inl rfl, 7, rfl⟩
          · rintro ⟨t1, t2, t3⟩ -
            have jj1 : e = 2 ∨ (e = 0 ∧ (g0 && s1) = true ∧ n[k]? = some (gN l0).1 ∧ ¬ n.length ≤ k) := by
              rcases j1.out with ⟨z1, z2, z3, z4, z5⟩ | z1
              · exact .inr ⟨z1, by rw [z2, z3]; rfl, z4, by simp only at z5; omega⟩
              · exact .inl z1
            have jj2 : f = 2 ∨ (f = 0 ∧ (g1 && s2) = true ∧ p[k]? = some (gP l1).1 ∧ ¬ p.length ≤ k) := by
              rcases j2.out with ⟨z1, z2, z3, z4, z5⟩ | z1
              · exact .inr ⟨z1, by rw [z2, z3]; rfl, z4, by simp only at z5; omega⟩
              · exact .inl z1
            have jj3 : g = 2 ∨ (g = 0 ∧ (g2 && s3) = true ∧ cc[k]? = some (gC l2).1 ∧ ¬ cc.length ≤ k) := by
              rcases j3.out with ⟨z1, z2, z3, z4, z5⟩ | z1
              · exact .inr ⟨z1, by rw [z2, z3]; rfl, z4, by simp only at z5; omega⟩
              · exact .inl z1
            clear j1 j2 j3 cu cv cw i1 i2 i3
            generalize (g0 && s1) = h0 at *
            generalize (g1 && s2) = h1 at *
            generalize (g2 && s3) = h2 at *
            refine .seq (W.unseq _ [] (W.unseq _ [_] ?_))
            refine W.cut (l := [_, _, _]) (σ := Unit)
              (fun _ => [(3, .sl 4 (n.map Note.av)), (4, sA a), (5, iA e), (6, .sl 2 (p.map Pair.av)), (7, sA b), (8, iA f), (9, .sl 6 (cc.map Change.av)), (10, sA d), (11, iA g), (21, .ptr 2 3 (some b2) 0 0), (22, .ptr 3 3 (some b3) 0 0), (23, iA k), (24, .ptr 4 4 (some t1) 0 0), (26, .ptr 5 2 (some t2) 0 0), (28, .ptr 6 6 (some t3) 0 0), (106, iA M), (107, iA k)])
              (fun _ => [B0 b0 s, B0 b1 s, ⟨true, some b2, 3, 42, [.agg [boolA h0, boolA h1, boolA h2]]⟩, ⟨true, some b3, 3, 43, [.agg [sA (sel h0 (gN l0).2.1 l0), sA (sel h1 (gP l1).2.1 l1), sA (sel h2 (gC l2).2.1 l2)]]⟩,
                ⟨true, some t1, 4, 45, [u.av]⟩, ⟨true, some t2, 2, 49, [v.av]⟩, ⟨true, some t3, 6, 53, [w.av]⟩])
              (fun _ => True) ?_ ?_
            · have o1 : h0 = true → (encN u).length ≤ l0.length ∧ l0.drop (encN u).length = (gN l0).2.1 := fun h => ⟨(w1.out h).2.1, (w1.out h).2.2.1⟩
              have o2 : h1 = true → (encP v).length ≤ l1.length ∧ l1.drop (encP v).length = (gP l1).2.1 := fun h => ⟨(w2.out h).2.1, (w2.out h).2.2.1⟩
              have o3 : h2 = true → (encC w).length ≤ l2.length ∧ l2.drop (encC w).length = (gC l2).2.1 := fun h => ⟨(w3.out h).2.1, (w3.out h).2.2.1⟩
              have n1 : h0 = true → APure Try.prog 14 [u.av] (sA (encN u)) := fun h => ref13_Note u ⟨(w1.out h).2.2.2.1, (w1.out h).2.2.2.2.1⟩ (w1.out h).2.2.2.2.2.1 (w1.out h).2.2.2.2.2.2.1 (w1.out h).2.2.2.2.2.2.2
              have n2 : h1 = true → APure Try.prog 15 [v.av] (sA (encP v)) := fun h => ref13_Pair v (w2.out h).2.2.2.1 (w2.out h).2.2.2.2
              have n3 : h2 = true → APure Try.prog 16 [w.av] (sA (encC w)) := fun h => ref13_Change w (w3.out h).2.2.2.1 (w3.out h).2.2.2.2.1 (w3.out h).2.2.2.2.2.1 (w3.out h).2.2.2.2.2.2
              clear w1 w2 w3 jj1 jj2 jj3 k1 k2 k3 hs c c' hM hbad
              cases h0 <;> cases h1 <;> cases h2
              all_goals
                simp only [forall_const, reduceCtorEq, false_implies, implies_true] at o1 o2 o3 n1 n2 n3
                dsimp only [List.cons_append, List.nil_append]
                refine W.go 200 ?_
                simp (config := { contextual := true, maxSteps := 4000000 }) (disch := omega) only [go_sem, beq_self_eq_true, Nat.reduceBEq, ↓reduceIte, reduceCtorEq, Nat.reduceEqDiff, Nat.reduceAdd, Nat.reduceSub, Nat.reduceMul, Nat.reduceLT, Nat.reduceLeDiff, Int.reduceLT, Int.reduceLE, Int.reduceToNat, Int.reduceAdd, Int.reduceSub, Int.reduceMul, Int.reduceNeg, Int.reduceEq]
                try (refine CallD.pure n1 (W.go 200 ?_); simp (config := { contextual := true, maxSteps := 4000000 }) (disch := omega) only [go_sem, beq_self_eq_true, Nat.reduceBEq, ↓reduceIte, reduceCtorEq, Nat.reduceEqDiff, Nat.reduceAdd, Nat.reduceSub, Nat.reduceMul, Nat.reduceLT, Nat.reduceLeDiff, Int.reduceLT, Int.reduceLE, Int.reduceToNat, Int.reduceAdd, Int.reduceSub, Int.reduceMul, Int.reduceNeg, Int.reduceEq, o1, List.take_length])
                try (refine CallD.pure n2 (W.go 200 ?_); simp (config := { contextual := true, maxSteps := 4000000 }) (disch := omega) only [go_sem, beq_self_eq_true, Nat.reduceBEq, ↓reduceIte, reduceCtorEq, Nat.reduceEqDiff, Nat.reduceAdd, Nat.reduceSub, Nat.reduceMul, Nat.reduceLT, Nat.reduceLeDiff, Int.reduceLT, Int.reduceLE, Int.reduceToNat, Int.reduceAdd, Int.reduceSub, Int.reduceMul, Int.reduceNeg, Int.reduceEq, o2, List.take_length])
                try (refine CallD.pure n3 (W.go 200 ?_); simp (config := { contextual := true, maxSteps := 4000000 }) (disch := omega) only [go_sem, beq_self_eq_true, Nat.reduceBEq, ↓reduceIte, reduceCtorEq, Nat.reduceEqDiff, Nat.reduceAdd, Nat.reduceSub, Nat.reduceMul, Nat.reduceLT, Nat.reduceLeDiff, Int.reduceLT, Int.reduceLE, Int.reduceToNat, Int.reduceAdd, Int.reduceSub, Int.reduceMul, Int.reduceNeg, Int.reduceEq, o3, List.take_length])
                exact ⟨(), .inr ⟨[3, 4, 5, 6, 7, 8, 9, 10, 11, 21, 22, 23, 24, 26, 28, 106, 107], rfl⟩, 7, rfl⟩
            · rintro - -
              refine W.go 400 ?_
              generalize hm0 : (sel h0 (gN l0).2.1 l0) = m0 at *
              generalize hm1 : (sel h1 (gP l1).2.1 l1) = m1 at *
              generalize hm2 : (sel h2 (gC l2).2.1 l2) = m2 at *
              have w1' : h0 = true → u = (gN l0).1 := fun h => (w1.out h).1
              have w2' : h1 = true → v = (gP l1).1 := fun h => (w2.out h).1
              have w3' : h2 = true → w = (gC l2).1 := fun h => (w3.out h).1
              clear w1 w2 w3 hm0 hm1 hm2
              have kb : ∀ fr hp, fr = [(3, .sl 4 (n.map Note.av)), (4, sA a), (5, iA e), (6, .sl 2 (p.map Pair.av)), (7, sA b), (8, iA f), (9, .sl 6 (cc.map Change.av)), (10, sA d), (11, iA g), (21, .ptr 2 3 (some b2) 0 0), (22, .ptr 3 3 (some b3) 0 0), (106, iA M), (107, iA ((k + 1 : Nat)))] → (∃ q, hp = [B0 b0 s, B0 b1 s, ⟨true, some b2, 3, 42, [.agg [boolA h0, boolA h1, boolA h2]]⟩, ⟨true, some b3, 3, 43, [.agg [sA m0, sA m1, sA m2]]⟩] ++ q) → True := fun _ _ _ _ => trivial
              clear kb
              have bk := And.intro k1 (And.intro k2 k3)
              clear k1 k2 k3
              have bk := Hid.mk bk
              rcases jj1 with rfl | ⟨rfl, rfl, a1, a2⟩ <;> rcases jj2 with rfl | ⟨rfl, rfl, a3, a4⟩ <;> rcases jj3 with rfl | ⟨rfl, rfl, a5, a6⟩
              all_goals
                try obtain rfl := w1' rfl
                try obtain rfl := w2' rfl
                try obtain rfl := w3' rfl
                try clear w1'
                try clear w2'
                try clear w3'
                simp (config := { contextual := true, maxSteps := 4000000 }) (disch := omega) only [go_sem, beq_self_eq_true, Nat.reduceBEq, ↓reduceIte, reduceCtorEq, Nat.reduceEqDiff, Nat.reduceAdd, Nat.reduceSub, Nat.reduceMul, Nat.reduceLT, Nat.reduceLeDiff, Int.reduceLT, Int.reduceLE, Int.reduceToNat, Int.reduceAdd, Int.reduceSub, Int.reduceMul, Int.reduceNeg, Int.reduceEq, *]
                have bb := bk.out
                try cases h0
                all_goals try cases h1
                all_goals try cases h2
                all_goals
                  try simp only [sp_true, sp_false]
                  first
                  | exact ⟨(k + 1, (_, _, _), (_, _, _)), ⟨hkM, bb.1, bb.2.1, bb.2.2⟩, by show M - (k + 1) < M - k; omega, .inl rfl, 4, rfl⟩
                  | exact ⟨((false, false, false), (m0, m1, m2)), ⟨.inr rfl, .inr rfl, .inr rfl⟩, .inr ⟨[4, 5, 7, 8, 10, 11, 21, 22], rfl⟩, 4, rfl⟩
                  | exact ⟨((false, false, false), (m0, m1, m2)), ⟨.inr ⟨rfl, rfl⟩, .inr ⟨rfl, rfl⟩, .inr ⟨rfl, rfl⟩⟩, .inr ⟨[4, 5, 7, 8, 10, 11, 21, 22], rfl⟩, 4, rfl⟩
        · obtain rfl : k = M := by omega
          simp (config := { contextual := true, maxSteps := 4000000 }) (disch := omega) only [go_sem, beq_self_eq_true, Nat.reduceBEq, ↓reduceIte, reduceCtorEq, Nat.reduceEqDiff, Nat.reduceAdd, Nat.reduceSub, Nat.reduceMul, Nat.reduceLT, Nat.reduceLeDiff, Int.reduceLT, Int.reduceLE, Int.reduceToNat, Int.reduceAdd, Int.reduceSub, Int.reduceMul, Int.reduceNeg, Int.reduceEq]
          exact ⟨((g0, g1, g2), (l0, l1, l2)), ⟨i1.fin, i2.fin, i3.fin⟩, .inr ⟨[4, 5, 7, 8, 10, 11, 21, 22], rfl⟩, 4, rfl⟩
      · rintro ⟨⟨g0, g1, g2⟩, ⟨l0, l1, l2⟩⟩ ⟨q1, q2, q3⟩
        simp only at q1 q2 q3
        refine W.go 200 ?_
        simp (config := { contextual := true, maxSteps := 4000000 }) (disch := omega) only [go_sem, beq_self_eq_true, Nat.reduceBEq, ↓reduceIte, reduceCtorEq, Nat.reduceEqDiff, Nat.reduceAdd, Nat.reduceSub, Nat.reduceMul, Nat.reduceLT, Nat.reduceLeDiff, Int.reduceLT, Int.reduceLE, Int.reduceToNat, Int.reduceAdd, Int.reduceSub, Int.reduceMul, Int.reduceNeg, Int.reduceEq]
        refine W.loopS (fun k : Nat => [(4, sA a), (7, sA b), (10, sA d), (21, .ptr 2 3 (some b2) 0 0), (22, .ptr 3 3 (some b3) 0 0), (257, .sl 1 [iA e, iA f, iA g]), (258, iA 3), (259, iA k)])
          (fun _ => [B0 b0 s, B0 b1 s, ⟨true, some b2, 3, 42, [.agg [boolA g0, boolA g1, boolA g2]]⟩, ⟨true, some b3, 3, 43, [.agg [sA l0, sA l1, sA l2]]⟩])
          (fun k => k ≤ 3) (fun k => 3 - k) 0 (by omega) rfl rfl ?_
        intro k hk
        refine W.go 200 ?_
        rcases (by omega : k = 0 ∨ k = 1 ∨ k = 2 ∨ k = 3) with rfl | rfl | rfl | rfl
        · rcases q1 with ⟨rfl, rfl, -⟩ | ⟨rfl, rfl⟩ <;> simp (config := { contextual := true, maxSteps := 4000000 }) (disch := omega) only [go_sem, beq_self_eq_true, Nat.reduceBEq, ↓reduceIte, reduceCtorEq, Nat.reduceEqDiff, Nat.reduceAdd, Nat.reduceSub, Nat.reduceMul, Nat.reduceLT, Nat.reduceLeDiff, Int.reduceLT, Int.reduceLE, Int.reduceToNat, Int.reduceAdd, Int.reduceSub, Int.reduceMul, Int.reduceNeg, Int.reduceEq] <;> exact ⟨1, by omega, by omega, .inl rfl, 4, rfl⟩
        · rcases q2 with ⟨rfl, rfl, -⟩ | ⟨rfl, rfl⟩ <;> simp (config := { contextual := true, maxSteps := 4000000 }) (disch := omega) only [go_sem, beq_self_eq_true, Nat.reduceBEq, ↓reduceIte, reduceCtorEq, Nat.reduceEqDiff, Nat.reduceAdd, Nat.reduceSub, Nat.reduceMul, Nat.reduceLT, Nat.reduceLeDiff, Int.reduceLT, Int.reduceLE, Int.reduceToNat, Int.reduceAdd, Int.reduceSub, Int.reduceMul, Int.reduceNeg, Int.reduceEq] <;> exact ⟨2, by omega, by omega, .inl rfl, 4, rfl⟩
        · rcases q3 with ⟨rfl, rfl, -⟩ | ⟨rfl, rfl⟩ <;> simp (config := { contextual := true, maxSteps := 4000000 }) (disch := omega) only [go_sem, beq_self_eq_true, Nat.reduceBEq, ↓reduceIte, reduceCtorEq, Nat.reduceEqDiff, Nat.reduceAdd, Nat.reduceSub, Nat.reduceMul, Nat.reduceLT, Nat.reduceLeDiff, Int.reduceLT, Int.reduceLE, Int.reduceToNat, Int.reduceAdd, Int.reduceSub, Int.reduceMul, Int.reduceNeg, Int.reduceEq] <;> exact ⟨3, by omega, by omega, .inl rfl, 4, rfl⟩
        · have r1 : g0 = true → a = l0 := fun h => q1.elim (fun z => z.2.2) (fun z => by rw [z.1] at h; cases h)
          have r2 : g1 = true → b = l1 := fun h => q2.elim (fun z => z.2.2) (fun z => by rw [z.1] at h; cases h)
          have r3 : g2 = true → d = l2 := fun h => q3.elim (fun z => z.2.2) (fun z => by rw [z.1] at h; cases h)
          clear q1 q2 q3
          cases g0 <;> cases g1 <;> cases g2
          all_goals
            simp only [forall_const, reduceCtorEq, false_implies] at r1 r2 r3
            simp (config := { contextual := true, maxSteps := 4000000 }) (disch := omega) only [go_sem, beq_self_eq_true, Nat.reduceBEq, ↓reduceIte, reduceCtorEq, Nat.reduceEqDiff, Nat.reduceAdd, Nat.reduceSub, Nat.reduceMul, Nat.reduceLT, Nat.reduceLeDiff, Int.reduceLT, Int.reduceLE, Int.reduceToNat, Int.reduceAdd, Int.reduceSub, Int.reduceMul, Int.reduceNeg, Int.reduceEq, *]
            refine CallG.pure aw13 (W.go 200 ?_)
            simp (config := { contextual := true, maxSteps := 4000000 }) (disch := omega) only [go_sem, beq_self_eq_true, Nat.reduceBEq, ↓reduceIte, reduceCtorEq, Nat.reduceEqDiff, Nat.reduceAdd, Nat.reduceSub, Nat.reduceMul, Nat.reduceLT, Nat.reduceLeDiff, Int.reduceLT, Int.reduceLE, Int.reduceToNat, Int.reduceAdd, Int.reduceSub, Int.reduceMul, Int.reduceNeg, Int.reduceEq]
  · have c' : (300 : Int) < s.length := by omega
    simp (config := { contextual := true, maxSteps := 4000000 }) (disch := omega) only [go_sem, beq_self_eq_true, Nat.reduceBEq, ↓reduceIte, reduceCtorEq, Nat.reduceEqDiff, Nat.reduceAdd, Nat.reduceSub, Nat.reduceMul, Nat.reduceLT, Nat.reduceLeDiff, Int.reduceLT, Int.reduceLE, Int.reduceToNat, Int.reduceAdd, Int.reduceSub, Int.reduceMul, Int.reduceNeg, Int.reduceEq, c']
    refine CallG.pure aw13 (W.go 200 ?_)
    simp (config := { contextual := true, maxSteps := 4000000 }) (disch := omega) only [go_sem, beq_self_eq_true, Nat.reduceBEq, ↓reduceIte, reduceCtorEq, Nat.reduceEqDiff, Nat.reduceAdd, Nat.reduceSub, Nat.reduceMul, Nat.reduceLT, Nat.reduceLeDiff, Int.reduceLT, Int.reduceLE, Int.reduceToNat, Int.reduceAdd, Int.reduceSub, Int.reduceMul, Int.reduceNeg, Int.reduceEq]
end Go.Ab
