/- What the functions of weirkeeperref05 come to, in plain words. -/
import Derived.Test.YthcohkgpbjcliaaFlaw05refs
import Derived.Test.YthcohkgpbjcliaaFref05x0
import Derived.Test.YthcohkgpbjcliaaFref05x1
import Derived.Test.YthcohkgpbjcliaaFref05x2
import Derived.Test.YthcohkgpbjcliaaPlSpace
import Derived.Test.YthcohkgpbjcliaaPlAwake05
namespace Go.Proofs.Ythcohkgpbjcliaa.Pl
open Go.RowKit Go.Proofs.Ythcohkgpbjcliaa.F Go.Proofs.YthcohkgpbjcliaaW.PrintWords Go.Proofs.YthcohkgpbjcliaaW.PrintLast Go.Proofs.YthcohkgpbjcliaaW.PrintMore
set_option linter.unusedVariables false
set_option linter.unusedSimpArgs false
abbrev RE := F.S72
def toR (x : E) : RE := ⟨x.f0, x.f1⟩
def ys (l : List RE) : List X := l.map fun x => (x.f0, x.f1)
theorem ys_toR (l : List E) : ys (l.map toR) = xs l := by unfold ys xs; rw [List.map_map]; rfl
theorem ys_inj : ∀ {l m : List RE}, ys l = ys m → l = m
  | [], [], _ => rfl
  | x :: l, y :: m, h => by
    obtain ⟨h1, h2⟩ := List.cons.inj (show (x.f0, x.f1) :: ys l = (y.f0, y.f1) :: ys m from h)
    obtain ⟨x0, x1⟩ := x
    obtain ⟨y0, y1⟩ := y
    obtain ⟨rfl, rfl⟩ := Prod.mk.inj h1
    rw [ys_inj h2]
theorem rdY_at (l : List RE) (i : Nat) (h : i < l.length) : rd_T72 l (i : Int) = l[i] := by
  show l.getD (i : Int).toNat _ = _
  rw [Int.toNat_natCast, List.getD_eq_getElem?_getD, List.getElem?_eq_getElem h]
  rfl
theorem refs_l0 (l : List E) (hn : l.length ≤ 1000) : ∀ (d i k : Nat) (out : List RE), i + d = l.length → d < k → out.length = i → weirkeeperlaw05_refs.l0 k out l (l.length : Int) (i : Int) = some (out ++ (l.drop i).map toR)
  | 0, i, k, out, hi, hk, ho => by
    obtain ⟨k, rfl⟩ : ∃ m, k = m + 1 := ⟨k - 1, by omega⟩
    rw [weirkeeperlaw05_refs.l0, if_neg (by omega), List.drop_of_length_le (by omega)]
    simp
  | d + 1, i, k, out, hi, hk, ho => by
    obtain ⟨k, rfl⟩ : ∃ m, k = m + 1 := ⟨k - 1, by omega⟩
    have hlt : i < l.length := by omega
    rw [weirkeeperlaw05_refs.l0, if_pos (by omega), if_pos (by omega), if_pos (by omega), if_pos (by omega), rdX_at _ _ hlt, wrap64_in (by omega) (by omega), show ((i : Int) + 1) = ((i + 1 : Nat) : Int) by omega,
      refs_l0 l hn d (i + 1) k _ (by omega) (by omega) (by simp; omega), List.drop_eq_getElem_cons hlt, List.map_cons, List.append_assoc]
    rfl
theorem refs_eq (l : List E) (hn : l.length ≤ 1000) (k : Nat) (hk : l.length < k) : weirkeeperlaw05_refs.f k l = some (l.map toR) := by
  have := refs_l0 l hn l.length 0 k [] (by omega) hk rfl
  rw [List.drop_zero, List.nil_append] at this
  exact this
theorem re_eq {a b : RE} : (!(a.f0 == b.f0) || !(a.f1 == b.f1)) = true ↔ a ≠ b := by
  obtain ⟨a0, a1⟩ := a
  obtain ⟨b0, b1⟩ := b
  simp only [Bool.or_eq_true, Bool.not_eq_true', beq_eq_false_iff_ne, ne_eq, S72.mk.injEq]
  by_cases h : a0 = b0 <;> simp [h]
theorem sameE_l0 (a b : List RE) (h : a.length = b.length) (hn : a.length ≤ 1000) : ∀ (d i k : Nat), i + d = a.length → d < k → (weirkeeperref05_Same.l0 k a b (i : Int) = some true ∧ a.drop i = b.drop i) ∨ (weirkeeperref05_Same.l0 k a b (i : Int) = some false ∧ a.drop i ≠ b.drop i)
  | 0, i, k, hi, hk => by
    obtain ⟨k, rfl⟩ : ∃ m, k = m + 1 := ⟨k - 1, by omega⟩
    rw [weirkeeperref05_Same.l0, if_neg (by omega), List.drop_of_length_le (by omega), List.drop_of_length_le (by omega)]
    exact .inl ⟨rfl, rfl⟩
  | d + 1, i, k, hi, hk => by
    obtain ⟨k, rfl⟩ : ∃ m, k = m + 1 := ⟨k - 1, by omega⟩
    have h1 : i < a.length := by omega
    have h2 : i < b.length := by omega
    rw [weirkeeperref05_Same.l0, if_pos (by omega), if_pos (by omega), if_pos (by omega), rdY_at _ _ h1, rdY_at _ _ h2, List.drop_eq_getElem_cons h1, List.drop_eq_getElem_cons h2]
    by_cases c : a[i] = b[i]
    · rw [if_neg (by rw [re_eq]; exact fun h => h c), wrap64_in (by omega) (by omega), show ((i : Int) + 1) = ((i + 1 : Nat) : Int) by omega, c]
      rcases sameE_l0 a b h hn d (i + 1) k (by omega) (by omega) with ⟨h3, h4⟩ | ⟨h3, h4⟩
      · exact .inl ⟨h3, by rw [h4]⟩
      · exact .inr ⟨h3, fun he => h4 (List.cons.inj he).2⟩
    · rw [if_pos (by rw [re_eq]; exact c)]
      exact .inr ⟨rfl, fun he => c (List.cons.inj he).1⟩
theorem sameE_refl (a : List RE) (hn : a.length ≤ 1000) (k : Nat) (hk : a.length < k) : weirkeeperref05_Same.f k a a = some true := by
  unfold weirkeeperref05_Same.f
  rw [if_pos rfl]
  rcases sameE_l0 a a rfl hn a.length 0 k (by omega) hk with ⟨h, _⟩ | ⟨_, h⟩
  · exact h
  · exact absurd rfl h
/-! ### the document's Right -/
theorem okR {a b : Int} (ha : 0 ≤ a) (hab : a ≤ b) (hb : b ≤ 2147483647) (x : RE) : OkX a b (x.f0, x.f1) ↔ ¬ (x.f1 < 1 ∨ x.f0 < a ∨ x.f0 > b) ∧ ¬ x.f1 > b - x.f0 := by
  unfold OkX
  simp only
  omega
/-- the inner loop: does one meet one of those ahead? -/
theorem refR_in (a b : Int) (l : List RE) (hn : l.length ≤ 100) (ha : 0 ≤ a) (hb : b ≤ 2147483647) (i : Nat) (hi : i < l.length) (hok : ∀ x ∈ l.take (i + 1), OkX a b (x.f0, x.f1)) : ∀ (d j k : Nat), j + d = i → d < k →
    (weirkeeperref05_Right.l1 k a b l (i : Int) (j : Int) = weirkeeperref05_Right.l0 (k - d - 1) a b l ((i + 1 : Nat) : Int) ∧ ∀ m (hm : m < l.length), j ≤ m → m < i → Disj (l[i].f0, l[i].f1) (l[m].f0, l[m].f1)) ∨
    (weirkeeperref05_Right.l1 k a b l (i : Int) (j : Int) = some false ∧ ∃ m, ∃ hm : m < l.length, m < i ∧ ¬ Disj (l[i].f0, l[i].f1) (l[m].f0, l[m].f1))
  | 0, j, k, hj, hk => by
    obtain ⟨k, rfl⟩ : ∃ m, k = m + 1 := ⟨k - 1, by omega⟩
    rw [weirkeeperref05_Right.l1, if_neg (by omega), wrap64_in (by omega) (by omega), show ((i : Int) + 1) = ((i + 1 : Nat) : Int) by omega, show k + 1 - 0 - 1 = k by omega]
    exact .inl ⟨rfl, fun m _ h1 h2 => by omega⟩
  | d + 1, j, k, hj, hk => by
    obtain ⟨k, rfl⟩ : ∃ m, k = m + 1 := ⟨k - 1, by omega⟩
    have hjl : j < l.length := by omega
    have oi := hok l[i] (List.mem_take_iff_getElem.2 ⟨i, by omega, rfl⟩)
    have oj := hok l[j] (List.mem_take_iff_getElem.2 ⟨j, by omega, rfl⟩)
    obtain ⟨i1, i2, i3⟩ := oi
    obtain ⟨j1, j2, j3⟩ := oj
    simp only at i1 i2 i3 j1 j2 j3
    have ih := refR_in a b l hn ha hb i hi hok d (j + 1) k (by omega) (by omega)
    rw [show k - d - 1 = k + 1 - (d + 1) - 1 by omega] at ih
    rw [weirkeeperref05_Right.l1, if_pos (by omega), if_pos (by omega), if_pos (by omega), if_pos (by omega), if_pos (by omega), rdY_at _ _ hi, rdY_at _ _ hjl, wrap64_in (n := l[j].f0 + l[j].f1) (by omega) (by omega), wrap64_in (n := l[i].f0 + l[i].f1) (by omega) (by omega), wrap64_in (n := (j : Int) + 1) (by omega) (by omega), show ((j : Int) + 1) = ((j + 1 : Nat) : Int) by omega]
    have step : Disj (l[i].f0, l[i].f1) (l[j].f0, l[j].f1) →
        ((weirkeeperref05_Right.l1 k a b l (i : Int) ((j + 1 : Nat) : Int) = weirkeeperref05_Right.l0 (k + 1 - (d + 1) - 1) a b l ((i + 1 : Nat) : Int) ∧ ∀ m (hm : m < l.length), j ≤ m → m < i → Disj (l[i].f0, l[i].f1) (l[m].f0, l[m].f1)) ∨
        (weirkeeperref05_Right.l1 k a b l (i : Int) ((j + 1 : Nat) : Int) = some false ∧ ∃ m, ∃ hm : m < l.length, m < i ∧ ¬ Disj (l[i].f0, l[i].f1) (l[m].f0, l[m].f1))) := fun hd => by
      rcases ih with ⟨h1, h2⟩ | h
      · refine .inl ⟨h1, fun m hm h3 h4 => ?_⟩
        by_cases c : m = j
        · subst c; exact hd
        · exact h2 m hm (by omega) h4
      · exact .inr h
    by_cases c1 : l[i].f0 < l[j].f0 + l[j].f1
    · rw [if_pos c1]
      by_cases c2 : l[j].f0 < l[i].f0 + l[i].f1
      · rw [if_pos c2]
        refine .inr ⟨rfl, j, hjl, by omega, fun h => ?_⟩
        unfold Disj at h
        simp only at h
        omega
      · rw [if_neg c2]
        exact step (.inl (by simp only; omega))
    · rw [if_neg c1]
      exact step (.inr (by simp only; omega))
theorem take_snoc' {α : Type} (l : List α) (i : Nat) (h : i < l.length) : l.take (i + 1) = l.take i ++ [l[i]] := by
  rw [List.take_add_one, List.getElem?_eq_getElem h]
  rfl
/-- the outer loop -/
theorem refR_out (a b : Int) (l : List RE) (hn : l.length ≤ 100) (ha : 0 ≤ a) (hab : a ≤ b) (hb : b ≤ 2147483647) : ∀ (d i k : Nat), i + d = l.length → d * 102 < k → (∀ x ∈ l.take i, OkX a b (x.f0, x.f1)) → (ys (l.take i)).Pairwise Disj →
    (weirkeeperref05_Right.l0 k a b l (i : Int) = some true ∧ MayX a b (ys l)) ∨ (weirkeeperref05_Right.l0 k a b l (i : Int) = some false ∧ ¬ MayX a b (ys l))
  | 0, i, k, hi, hk, h1, h2 => by
    obtain ⟨k, rfl⟩ : ∃ m, k = m + 1 := ⟨k - 1, by omega⟩
    rw [List.take_of_length_le (by omega)] at h1 h2
    rw [weirkeeperref05_Right.l0, if_neg (by omega)]
    exact .inl ⟨rfl, ha, hab, hb, fun x hx => by obtain ⟨y, hy, rfl⟩ := List.mem_map.1 hx; exact h1 y hy, h2⟩
  | d + 1, i, k, hi, hk, h1, h2 => by
    obtain ⟨k, rfl⟩ : ∃ m, k = m + 2 := ⟨k - 2, by omega⟩
    have hlt : i < l.length := by omega
    rw [weirkeeperref05_Right.l0, if_pos (by omega), if_pos (by omega), rdY_at _ _ hlt]
    have no : ¬ OkX a b (l[i].f0, l[i].f1) → ¬ MayX a b (ys l) := fun h hm => h (hm.2.2.2.1 _ (List.mem_map_of_mem (List.getElem_mem hlt)))
    have bad : ∀ k, ¬ OkX a b (l[i].f0, l[i].f1) → (weirkeeperref05_Right.j2 (k + 1) a b l (i : Int) true = some true ∧ MayX a b (ys l)) ∨ (weirkeeperref05_Right.j2 (k + 1) a b l (i : Int) true = some false ∧ ¬ MayX a b (ys l)) := fun k h => by
      rw [weirkeeperref05_Right.j2, if_pos rfl]
      exact .inr ⟨rfl, no h⟩
    by_cases c1 : l[i].f1 < 1
    · rw [if_pos c1]
      exact bad k (fun h => by have := h.2.1; simp only at this; omega)
    by_cases c2 : l[i].f0 < a
    · rw [if_neg c1, if_pos c2]
      exact bad k (fun h => by have := h.1; simp only at this; omega)
    by_cases c3 : l[i].f0 > b
    · rw [if_neg c1, if_neg c2, if_pos c3]
      exact bad k (fun h => by have := h.2.2; have := h.2.1; simp only at *; omega)
    rw [if_neg c1, if_neg c2, if_neg c3, wrap64_in (by omega) (by omega)]
    by_cases c4 : l[i].f1 > b - l[i].f0
    · rw [decide_eq_true c4]
      exact bad k (fun h => by have := h.2.2; simp only at *; omega)
    rw [decide_eq_false c4, weirkeeperref05_Right.j2, if_neg (by simp)]
    have oki : OkX a b (l[i].f0, l[i].f1) := ⟨by simp only; omega, by simp only; omega, by simp only; omega⟩
    have hok : ∀ x ∈ l.take (i + 1), OkX a b (x.f0, x.f1) := fun x hx => by
      rw [take_snoc' _ _ hlt] at hx
      rcases List.mem_append.1 hx with hx | hx
      · exact h1 x hx
      · rw [List.mem_singleton.1 hx]; exact oki
    rcases refR_in a b l hn ha hb i hlt hok i 0 k (by omega) (by omega) with ⟨e1, e2⟩ | ⟨e1, m, hm, hmi, e2⟩
    · have := refR_out a b l hn ha hab hb d (i + 1) (k - i - 1) (by omega) (by omega) hok (by
        rw [take_snoc' _ _ hlt]
        unfold ys at h2 ⊢
        rw [List.map_append]
        refine List.pairwise_append.2 ⟨h2, List.pairwise_singleton _ _, fun x hx y hy => ?_⟩
        rw [List.mem_singleton.1 hy]
        obtain ⟨z, hz, rfl⟩ := List.mem_map.1 hx
        obtain ⟨m, hm, rfl⟩ := List.mem_take_iff_getElem.1 hz
        exact (e2 m (by omega) (Nat.zero_le _) (by omega)).symm)
      rw [← e1] at this
      exact this
    · refine .inr ⟨e1, fun hM => e2 ?_⟩
      have := hM.2.2.2.2
      unfold ys at this
      rw [List.pairwise_map, List.pairwise_iff_getElem] at this
      exact (this m i hm hlt hmi).symm
theorem refRight_eq (a b : Int) (l : List RE) (hn : l.length ≤ 30) (k : Nat) (hk : 3100 < k) :
    (weirkeeperref05_Right.f k a b l = some true ∧ MayX a b (ys l)) ∨ (weirkeeperref05_Right.f k a b l = some false ∧ ¬ MayX a b (ys l)) := by
  obtain ⟨k, rfl⟩ : ∃ m, k = m + 1 := ⟨k - 1, by omega⟩
  unfold weirkeeperref05_Right.f
  by_cases c1 : a < 0
  · rw [if_pos c1, weirkeeperref05_Right.j0, if_pos rfl]
    exact .inr ⟨rfl, fun h => by have := h.1; omega⟩
  by_cases c2 : a > b
  · rw [if_neg c1, if_pos c2, weirkeeperref05_Right.j0, if_pos rfl]
    exact .inr ⟨rfl, fun h => by have := h.2.1; omega⟩
  rw [if_neg c1, if_neg c2]
  by_cases c3 : b > 2147483647
  · rw [decide_eq_true c3, weirkeeperref05_Right.j0, if_pos rfl]
    exact .inr ⟨rfl, fun h => by have := h.2.2.1; omega⟩
  rw [decide_eq_false c3, weirkeeperref05_Right.j0, if_neg (by simp)]
  exact refR_out a b l (by omega) (by omega) (by omega) (by omega) l.length 0 k (by omega) (by omega) (fun x hx => by cases hx) List.Pairwise.nil
theorem refIn_l0 (a b : Int) (l : List RE) (hn : l.length ≤ 100) (hb : b ≤ 2147483647) (ha : 0 ≤ a) (hok : ∀ x ∈ l, OkX a b (x.f0, x.f1)) (t : Int) : ∀ (d i k : Nat), i + d = l.length → d < k →
    (weirkeeperref05_in.l0 k t l (i : Int) = some true ∧ CovX t (ys (l.drop i))) ∨ (weirkeeperref05_in.l0 k t l (i : Int) = some false ∧ ¬ CovX t (ys (l.drop i)))
  | 0, i, k, hi, hk => by
    obtain ⟨k, rfl⟩ : ∃ m, k = m + 1 := ⟨k - 1, by omega⟩
    rw [weirkeeperref05_in.l0, if_neg (by omega), List.drop_of_length_le (by omega)]
    exact .inr ⟨rfl, CovX_nil _⟩
  | d + 1, i, k, hi, hk => by
    obtain ⟨k, rfl⟩ : ∃ m, k = m + 1 := ⟨k - 1, by omega⟩
    have hlt : i < l.length := by omega
    obtain ⟨i1, i2, i3⟩ := hok l[i] (List.getElem_mem hlt)
    simp only at i1 i2 i3
    rw [weirkeeperref05_in.l0, if_pos (by omega), if_pos (by omega), rdY_at _ _ hlt, wrap64_in (n := l[i].f0 + l[i].f1) (by omega) (by omega), wrap64_in (n := (i : Int) + 1) (by omega) (by omega), show ((i : Int) + 1) = ((i + 1 : Nat) : Int) by omega, List.drop_eq_getElem_cons hlt]
    have e : ys (l[i] :: l.drop (i + 1)) = (l[i].f0, l[i].f1) :: ys (l.drop (i + 1)) := rfl
    rw [e, CovX_cons]
    have ih := refIn_l0 a b l hn hb ha hok t d (i + 1) k (by omega) (by omega)
    have step : ¬ InX t (l[i].f0, l[i].f1) → (weirkeeperref05_in.l0 k t l ((i + 1 : Nat) : Int) = some true ∧ (InX t (l[i].f0, l[i].f1) ∨ CovX t (ys (l.drop (i + 1))))) ∨ (weirkeeperref05_in.l0 k t l ((i + 1 : Nat) : Int) = some false ∧ ¬ (InX t (l[i].f0, l[i].f1) ∨ CovX t (ys (l.drop (i + 1))))) := fun h => by
      rcases ih with ⟨h1, h2⟩ | ⟨h1, h2⟩
      · exact .inl ⟨h1, .inr h2⟩
      · exact .inr ⟨h1, fun hc => hc.elim h h2⟩
    by_cases c1 : t ≥ l[i].f0
    · rw [if_pos c1]
      by_cases c2 : t < l[i].f0 + l[i].f1
      · rw [if_pos c2]
        exact .inl ⟨rfl, .inl ⟨by simp only; omega, by simp only; omega⟩⟩
      · rw [if_neg c2]
        exact step (fun h => by have := h.2; simp only at this; omega)
    · rw [if_neg c1]
      exact step (fun h => by have := h.1; simp only at this; omega)
theorem ys_snoc (l : List RE) (x : RE) : ys (l ++ [x]) = ys l ++ [(x.f0, x.f1)] := List.map_append
/-- sector by sector -/
theorem refF_l0 (a b : Int) (l : List RE) (hn : l.length ≤ 100) (hm : MayX a b (ys l)) : ∀ (d : Nat) (k : Nat) (t : Int) (out : List RE), t + d = b → a ≤ t → d + 102 < k → out.length + d ≤ 1000 → Sep a t (ys out) → (∀ s, CovX s (ys out) ↔ a ≤ s ∧ s < t ∧ ¬ CovX s (ys l)) →
    ∃ o, weirkeeperref05_Free.l0 k b l out t = some o ∧ Sep a b (ys o) ∧ (∀ s, CovX s (ys o) ↔ a ≤ s ∧ s < b ∧ ¬ CovX s (ys l)) ∧ o.length ≤ out.length + d
  | 0, k, t, out, ht, hat, hk, hl, hs, hc => by
    obtain ⟨k, rfl⟩ : ∃ m, k = m + 1 := ⟨k - 1, by omega⟩
    obtain rfl : t = b := by omega
    rw [weirkeeperref05_Free.l0, if_neg (by omega)]
    exact ⟨out, rfl, hs, hc, by omega⟩
  | d + 1, k, t, out, ht, hat, hk, hl, hs, hc => by
    obtain ⟨k, rfl⟩ : ∃ m, k = m + 1 := ⟨k - 1, by omega⟩
    have b4 := hm.2.2.1
    have b5 := hm.1
    rw [weirkeeperref05_Free.l0, if_pos (by omega), wrap64_in (n := t + 1) (by omega) (by omega)]
    have hin := refIn_l0 a b l hn b4 b5 (fun x hx => hm.2.2.2.1 _ (List.mem_map_of_mem hx)) t l.length 0 k (by omega) (by omega)
    rw [List.drop_zero] at hin
    have ein : weirkeeperref05_in.f k t l = weirkeeperref05_in.l0 k t l ((0 : Nat) : Int) := rfl
    rw [ein]
    rcases hin with ⟨h1, h2⟩ | ⟨h1, h2⟩
    · rw [h1, Option.bind_some, if_pos rfl]
      obtain ⟨o, e1, e2, e3, e4⟩ := refF_l0 a b l hn hm d k (t + 1) out (by omega) (by omega) (by omega) (by omega) (hs.upper (by omega)) (fun s => by
        rw [hc s]
        constructor
        · rintro ⟨q1, q2, q3⟩; exact ⟨q1, by omega, q3⟩
        · rintro ⟨q1, q2, q3⟩
          refine ⟨q1, ?_, q3⟩
          by_cases c : s = t
          · subst c; exact absurd h2 q3
          · omega)
      exact ⟨o, e1, e2, e3, by omega⟩
    · rw [h1, Option.bind_some, if_neg (by simp)]
      -- the new sector alone
      have new : (∀ x ∈ out, x.f0 + x.f1 ≠ t) → ∃ o, weirkeeperref05_Free.l0 k b l (out ++ [⟨t, 1⟩]) (t + 1) = some o ∧ Sep a b (ys o) ∧ (∀ s, CovX s (ys o) ↔ a ≤ s ∧ s < b ∧ ¬ CovX s (ys l)) ∧ o.length ≤ out.length + (d + 1) := fun hne => by
        obtain ⟨o, e1, e2, e3, e4⟩ := refF_l0 a b l hn hm d k (t + 1) (out ++ [⟨t, 1⟩]) (by omega) (by omega) (by omega) (by simp; omega) (by
          rw [ys_snoc]
          refine ⟨fun x hx => ?_, List.pairwise_append.2 ⟨hs.2, List.pairwise_singleton _ _, fun x hx y hy => ?_⟩⟩
          · rcases List.mem_append.1 hx with hx | hx
            · exact (hs.upper (by omega)).1 x hx
            · rw [List.mem_singleton.1 hx]; exact ⟨hat, by simp, by simp⟩
          · rw [List.mem_singleton.1 hy]
            obtain ⟨z, hz, rfl⟩ := List.mem_map.1 hx
            have := (hs.1 _ hx).2.2
            have := hne z hz
            simp only at *
            omega) (fun s => by
          rw [ys_snoc, CovX_append, CovX_one, hc s]
          constructor
          · rintro (⟨q1, q2, q3⟩ | q)
            · exact ⟨q1, by omega, q3⟩
            · have q1 := q.1; have q2 := q.2
              simp only at q1 q2
              obtain rfl : s = t := by omega
              exact ⟨hat, by omega, h2⟩
          · rintro ⟨q1, q2, q3⟩
            by_cases c : s = t
            · subst c; exact .inr ⟨by simp, by simp only; omega⟩
            · exact .inl ⟨q1, by omega, q3⟩)
        exact ⟨o, e1, e2, e3, by simp at e4; omega⟩
      by_cases c0 : (out.length : Int) > 0
      · obtain ⟨pre, x, rfl⟩ : ∃ pre x, out = pre ++ [x] := ⟨out.dropLast, out.getLast (by intro h; rw [h] at c0; simp at c0), (List.dropLast_concat_getLast _).symm⟩
        have el : (((pre ++ [x]).length : Nat) : Int) - 1 = (pre.length : Int) := by simp
        have rx : rd_T72 (pre ++ [x]) (pre.length : Int) = x := by rw [rdY_at _ _ (by simp)]; simp
        have hx := hs.1 (x.f0, x.f1) (by rw [ys_snoc]; simp)
        obtain ⟨x1, x2, x3⟩ := hx
        simp only at x1 x2 x3
        rw [if_pos c0, el, wrap64_in (by omega) (by simp at hl; omega), if_pos (by omega), if_pos (by simp; omega), rx, wrap64_in (n := x.f0 + x.f1) (by omega) (by omega)]
        by_cases c1 : x.f0 + x.f1 = t
        · rw [if_pos c1, wrap64_in (n := x.f1 + 1) (by omega) (by omega)]
          have es : (pre ++ [x]).set (pre.length : Int).toNat (⟨x.f0, x.f1 + 1⟩ : RE) = pre ++ [⟨x.f0, x.f1 + 1⟩] := by
            rw [Int.toNat_natCast, List.set_append_right _ _ (Nat.le_refl _)]
            simp
          rw [es]
          rw [ys_snoc] at hs hc
          obtain ⟨p1, p2, p3⟩ := List.pairwise_append.1 hs.2
          obtain ⟨o, e1, e2, e3, e4⟩ := refF_l0 a b l hn hm d k (t + 1) (pre ++ [⟨x.f0, x.f1 + 1⟩]) (by omega) (by omega) (by omega) (by simp at hl ⊢; omega) (by
            rw [ys_snoc]
            refine ⟨fun z hz => ?_, List.pairwise_append.2 ⟨p1, List.pairwise_singleton _ _, fun z hz y hy => ?_⟩⟩
            · rcases List.mem_append.1 hz with hz | hz
              · exact (hs.upper (by omega)).1 z (List.mem_append_left _ hz)
              · rw [List.mem_singleton.1 hz]; exact ⟨x1, by simp only; omega, by simp only; omega⟩
            · rw [List.mem_singleton.1 hy]
              exact p3 z hz (x.f0, x.f1) (List.mem_singleton.2 rfl)) (fun s => by
            have hcs := hc s
            rw [CovX_append, CovX_one] at hcs
            rw [ys_snoc, CovX_append, CovX_one]
            constructor
            · rintro (q | q)
              · obtain ⟨q1, q2, q3⟩ := hcs.1 (.inl q)
                exact ⟨q1, by omega, q3⟩
              · have q1 := q.1; have q2 := q.2
                simp only at q1 q2
                by_cases c : s = t
                · subst c; exact ⟨hat, by omega, h2⟩
                · obtain ⟨q1, q2, q3⟩ := hcs.1 (.inr ⟨q1, by simp only; omega⟩)
                  exact ⟨q1, by omega, q3⟩
            · rintro ⟨q1, q2, q3⟩
              by_cases c : s = t
              · subst c; exact .inr ⟨by simp only; omega, by simp only; omega⟩
              · rcases hcs.2 ⟨q1, by omega, q3⟩ with h | h
                · exact .inl h
                · have w1 := h.1; have w2 := h.2
                  simp only at w1 w2
                  exact .inr ⟨w1, by simp only; omega⟩)
          exact ⟨o, e1, e2, e3, by simp at e4 ⊢; omega⟩
        · rw [if_neg c1, if_pos (by simp at hl ⊢; omega)]
          refine new fun z hz he => ?_
          rcases List.mem_append.1 hz with hz | hz
          · rw [ys_snoc] at hs
            obtain ⟨p1, p2, p3⟩ := List.pairwise_append.1 hs.2
            have := p3 (z.f0, z.f1) (List.mem_map_of_mem hz) _ (List.mem_singleton.2 rfl)
            simp only at this
            omega
          · rw [List.mem_singleton.1 hz] at he
            exact c1 he
      · rw [if_neg c0, if_pos (by omega)]
        refine new fun z hz => ?_
        have : out = [] := List.length_eq_zero_iff.1 (by omega)
        rw [this] at hz
        cases hz
theorem refFree_eq {a b : Int} {l : List E} (hm : MayX a b (xs l)) (hab : b - a ≤ 100) (hn : l.length ≤ 30) (k : Nat) (hk : 3100 < k) : ∃ o, weirkeeperref05_Free.f k a b (l.map toR) = some o ∧ ys o = FR a b l := by
  have hm' : MayX a b (ys (l.map toR)) := by rw [ys_toR]; exact hm
  have b3 := hm.2.1
  obtain ⟨o, e1, e2, e3, e4⟩ := refF_l0 a b (l.map toR) (by simp; omega) hm' (b - a).toNat k a [] (by omega) (by omega) (by omega) (by simp; omega) ⟨fun x hx => (by cases hx), List.Pairwise.nil⟩ (fun s => by
    constructor
    · intro h; exact absurd h (CovX_nil _)
    · rintro ⟨q1, q2, q3⟩; omega)
  refine ⟨o, ?_, ?_⟩
  · unfold weirkeeperref05_Free.f
    rcases refRight_eq a b (l.map toR) (by simpa using hn) k hk with ⟨h1, _⟩ | ⟨_, h2⟩
    · rw [h1, Option.bind_some, if_pos rfl, e1]
    · exact absurd hm' h2
  · refine sep_unique e2 (free_sep (chain_may hm (sorts l))) fun s => ?_
    rw [e3, ys_toR]
    exact (free_in hm (sorts l) s).symm
theorem refFree_bad {a b : Int} {l : List E} (hm : ¬ MayX a b (xs l)) (hn : l.length ≤ 30) (k : Nat) (hk : 3100 < k) : weirkeeperref05_Free.f k a b (l.map toR) = some [] := by
  unfold weirkeeperref05_Free.f
  rcases refRight_eq a b (l.map toR) (by simpa using hn) k hk with ⟨h1, h2⟩ | ⟨h1, h2⟩
  · rw [ys_toR] at h2
    exact absurd h2 hm
  · rw [h1, Option.bind_some, if_neg (by simp)]
theorem refFit_l0 (n : Int) (o : List RE) (hn : o.length ≤ 1000) : ∀ (d i k : Nat), i + d = o.length → d < k → weirkeeperref05_Fit.l0 k n o (i : Int) = some (match (ys (o.drop i)).find? (fun x => decide (n ≤ x.2)) with | none => (0, 0, 5) | some x => (x.1, n, 0))
  | 0, i, k, hi, hk => by
    obtain ⟨k, rfl⟩ : ∃ m, k = m + 1 := ⟨k - 1, by omega⟩
    rw [weirkeeperref05_Fit.l0, if_neg (by omega), List.drop_of_length_le (by omega)]
    rfl
  | d + 1, i, k, hi, hk => by
    obtain ⟨k, rfl⟩ : ∃ m, k = m + 1 := ⟨k - 1, by omega⟩
    have hlt : i < o.length := by omega
    rw [weirkeeperref05_Fit.l0, if_pos (by omega), if_pos (by omega), rdY_at _ _ hlt, wrap64_in (by omega) (by omega), show ((i : Int) + 1) = ((i + 1 : Nat) : Int) by omega, List.drop_eq_getElem_cons hlt]
    have e : ys (o[i] :: o.drop (i + 1)) = (o[i].f0, o[i].f1) :: ys (o.drop (i + 1)) := rfl
    rw [e]
    by_cases c : o[i].f1 ≥ n
    · rw [if_pos c, List.find?_cons_of_pos (by simpa using c)]
    · rw [if_neg c, List.find?_cons_of_neg (by simpa using c), refFit_l0 n o hn d (i + 1) k (by omega) (by omega)]
theorem refFit_bad {a b n : Int} {l : List E} (h : ¬ MayX a b (xs l) ∨ n < 1 ∨ 2147483647 < n) (hn : l.length ≤ 30) (k : Nat) (hk : 3101 < k) : weirkeeperref05_Fit.f k n a b (l.map toR) = some (0, 0, 1) := by
  have jt : weirkeeperref05_Fit.j0 k n a b (l.map toR) true = some (0, 0, 1) := by
    obtain ⟨k, rfl⟩ : ∃ m, k = m + 1 := ⟨k - 1, by omega⟩
    rw [weirkeeperref05_Fit.j0, if_pos rfl]
  unfold weirkeeperref05_Fit.f
  rcases refRight_eq a b (l.map toR) (by simpa using hn) k (by omega) with ⟨h1, h2⟩ | ⟨h1, h2⟩
  · rw [ys_toR] at h2
    rw [h1, Option.bind_some, if_pos rfl]
    rcases h with h | h | h
    · exact absurd h2 h
    · rw [if_pos h, jt]
    · rw [if_neg (by omega), decide_eq_true (by omega), jt]
  · rw [h1, Option.bind_some, if_neg (by simp), jt]
theorem refFit_good {a b n : Int} {l : List E} (hm : MayX a b (xs l)) (hab : b - a ≤ 100) (h1 : 1 ≤ n) (h2 : n ≤ 2147483647) (hn : l.length ≤ 30) (k : Nat) (hk : 3101 < k) :
    weirkeeperref05_Fit.f k n a b (l.map toR) = some (match (FR a b l).find? (fun x => decide (n ≤ x.2)) with | none => (0, 0, 5) | some x => (x.1, n, 0)) := by
  obtain ⟨k, rfl⟩ : ∃ m, k = m + 1 := ⟨k - 1, by omega⟩
  obtain ⟨o, e1, e2⟩ := refFree_eq hm hab hn k (by omega)
  have hol : o.length ≤ l.length + 1 := by rw [← show (ys o).length = o.length from List.length_map _, e2]; exact FR_length _ _ _
  unfold weirkeeperref05_Fit.f
  rcases refRight_eq a b (l.map toR) (by simpa using hn) (k + 1) (by omega) with ⟨h1', _⟩ | ⟨_, h2'⟩
  · rw [h1', Option.bind_some, if_pos rfl, if_neg (by omega), decide_eq_false (by omega), weirkeeperref05_Fit.j0, if_neg (by simp), e1, Option.bind_some, show (0 : Int) = ((0 : Nat) : Int) from rfl, refFit_l0 n o (by omega) o.length 0 k (by omega) (by omega), List.drop_zero, e2]
    rfl
  · rw [ys_toR] at h2'
    exact absurd hm h2'
end Go.Proofs.Ythcohkgpbjcliaa.Pl
