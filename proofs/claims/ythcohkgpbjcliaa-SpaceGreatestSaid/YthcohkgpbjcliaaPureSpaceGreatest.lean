/- What fits is no greater than the greatest free extent, and that fits. -/
import Derived.Test.YthcohkgpbjcliaaFlaw05SpaceGreatest
import Derived.Test.YthcohkgpbjcliaaPlAwake05
namespace Go.Proofs.Ythcohkgpbjcliaa.PlSpaceGreatest
open Go.RowKit Go.Proofs.Ythcohkgpbjcliaa.F Go.Proofs.YthcohkgpbjcliaaW.PrintWords Go.Proofs.YthcohkgpbjcliaaW.PrintLast Go.Proofs.YthcohkgpbjcliaaW.PrintMore Go.Proofs.Ythcohkgpbjcliaa.Pl
set_option linter.unusedVariables false
set_option linter.unusedSimpArgs false
def most : Int → List X → Int
  | m, [] => m
  | m, x :: l => most (max m x.2) l
theorem most_ge : ∀ (l : List X) (m : Int), m ≤ most m l
  | [], m => Int.le_refl _
  | x :: l, m => by have := most_ge l (max m x.2); simp only [most]; omega
theorem most_all : ∀ (l : List X) (m : Int), ∀ x ∈ l, x.2 ≤ most m l
  | y :: l, m, x, hx => by
    simp only [most]
    rcases List.mem_cons.1 hx with rfl | hx
    · have := most_ge l (max m x.2); omega
    · exact most_all l _ x hx
theorem most_is : ∀ (l : List X) (m : Int), most m l = m ∨ ∃ x ∈ l, most m l = x.2
  | [], m => .inl rfl
  | y :: l, m => by
    simp only [most]
    rcases most_is l (max m y.2) with h | ⟨x, hx, h⟩
    · by_cases c : m ≤ y.2
      · exact .inr ⟨y, List.mem_cons_self, by rw [h]; omega⟩
      · exact .inl (by rw [h]; omega)
    · exact .inr ⟨x, List.mem_cons_of_mem _ hx, h⟩
theorem find_iff (n : Int) (l : List X) : (l.find? (fun x => decide (n ≤ x.2))) = none ↔ ∀ x ∈ l, x.2 < n := by
  rw [List.find?_eq_none]
  constructor
  · intro h x hx; have := h x hx; simp at this; exact this
  · intro h x hx; have := h x hx; simp; exact this
theorem loop (a0 a1 a2 : Int) (l : List E) (hm : MayX a1 a2 (xs l)) (hl : l.length ≤ 30) (n1 : 1 ≤ a0) (n2 : a0 ≤ 2147483647) (o : List E) (ho : xs o = FR a1 a2 l) : ∀ (d i k : Nat) (m : Int), i + d = o.length → d + 40 < k → 0 ≤ m → m ≤ 2147483647 → most m (xs (o.drop i)) = most 0 (xs o) →
    weirkeeperlaw05_SpaceGreatest.l0 k a0 a1 a2 l m o (o.length : Int) (i : Int) = some true
  | 0, i, k, m, hi, hk, h0, h2, he => by
    obtain ⟨k, rfl⟩ : ∃ j, k = j + 1 := ⟨k - 1, by omega⟩
    rw [List.drop_of_length_le (by omega)] at he
    have he : m = most 0 (FR a1 a2 l) := by rw [← ho, ← he]; rfl
    have hs := free_sep (chain_may hm (sorts l))
    rw [weirkeeperlaw05_SpaceGreatest.l0, if_neg (by omega), fit_good hm n1 n2 (by omega) k (by omega), Option.bind_some]
    by_cases c : m = 0
    · rw [if_pos c]
      have hnone : (FR a1 a2 l) = [] := by
        cases hf : FR a1 a2 l with
        | nil => rfl
        | cons x f =>
          have h1 := most_all (FR a1 a2 l) 0 x (by rw [hf]; exact List.mem_cons_self)
          have h3 := (hs.1 x (by rw [show freeL a1 (xs (sortE l)) a2 = FR a1 a2 l from rfl, hf]; exact List.mem_cons_self)).2.1
          omega
      rw [hnone]
      show (if (5 : Int) = 5 then _ else _) = _
      rw [if_pos rfl, awake5 k (by omega)]
      rfl
    · rw [if_neg c]
      obtain ⟨x, hx, hxe⟩ : ∃ x ∈ FR a1 a2 l, m = x.2 := by
        rcases most_is (FR a1 a2 l) 0 with h | ⟨x, hx, h⟩
        · omega
        · exact ⟨x, hx, by omega⟩
      rw [fit_good hm (by omega) h2 (by omega) k (by omega), Option.bind_some]
      cases hf2 : (FR a1 a2 l).find? (fun x => decide (m ≤ x.2)) with
      | none => have := (find_iff m _).1 hf2 x hx; omega
      | some y =>
        have hge := most_all (FR a1 a2 l) 0
        cases hf1 : (FR a1 a2 l).find? (fun x => decide (a0 ≤ x.2)) with
        | none =>
          have := (find_iff a0 _).1 hf1 x hx
          dsimp only
          rw [decide_eq_false (by omega), if_pos (by decide), if_pos rfl, if_pos rfl, awake5 k (by omega)]
          rfl
        | some z =>
          have hz := List.mem_of_find?_eq_some hf1
          have hz2 := List.find?_some hf1
          simp only [decide_eq_true_eq] at hz2
          have := hge z hz
          dsimp only
          rw [decide_eq_true (by omega), if_pos (by decide), if_pos rfl, if_pos rfl, awake5 k (by omega)]
          rfl
  | d + 1, i, k, m, hi, hk, h0, h2, he => by
    obtain ⟨k, rfl⟩ : ∃ j, k = j + 1 := ⟨k - 1, by omega⟩
    have hlt : i < o.length := by omega
    rw [List.drop_eq_getElem_cons hlt] at he
    have hb := (free_sep (chain_may hm (sorts l))).1 (o[i].f0, o[i].f1) (by
      rw [show freeL a1 (xs (sortE l)) a2 = FR a1 a2 l from rfl, ← ho]
      exact List.mem_map_of_mem (List.getElem_mem hlt))
    have hmx : mx m o[i].f1 = max m o[i].f1 := by unfold mx; omega
    obtain ⟨b1, b2, b3⟩ := hb
    simp only at b1 b2 b3
    have hol : o.length ≤ l.length + 1 := by rw [← xs_length, ho]; exact FR_length _ _ _
    have b4 := hm.2.2.1
    have b5 := hm.1
    rw [weirkeeperlaw05_SpaceGreatest.l0, if_pos (by omega), if_pos (by omega), if_pos (by omega), rdX_at _ _ hlt, hmx, wrap64_in (by omega) (by omega), show ((i : Int) + 1) = ((i + 1 : Nat) : Int) by omega]
    exact loop a0 a1 a2 l hm hl n1 n2 o ho d (i + 1) k _ (by omega) (by omega) (by omega) (by omega) he
theorem pure : ∀ (a0 : Int) (a1 : Int) (a2 : Int) (l3 : List F.S66), (Lit.int .i64 a0).wf = true → (Lit.int .i64 a1).wf = true → (Lit.int .i64 a2).wf = true → ((∀ yy ∈ l3, ((Lit.int .i64 yy.f0).wf = true ∧ (Lit.int .i64 yy.f1).wf = true)) ∧ l3.length ≤ maxLen) → ∃ k, F.weirkeeperlaw05_SpaceGreatest.f k a0 a1 a2 l3 = some true := by
  intro a0 a1 a2 l _ _ _ _
  refine ⟨200, ?_⟩
  have aw : ∀ k, 10 < k → weirkeeperlaw05_SpaceGreatest.j0 k a0 a1 a2 l true = some true := fun k hk => by
    obtain ⟨k, rfl⟩ : ∃ j, k = j + 1 := ⟨k - 1, by omega⟩
    rw [weirkeeperlaw05_SpaceGreatest.j0, if_pos rfl, awake5 k (by omega)]
    rfl
  unfold weirkeeperlaw05_SpaceGreatest.f
  by_cases c1 : (l.length : Int) > 30
  · rw [if_pos c1, aw _ (by omega)]
  by_cases c2 : a0 < 1
  · rw [if_neg c1, if_pos c2, aw _ (by omega)]
  by_cases c3 : a0 > 2147483647
  · rw [if_neg c1, if_neg c2, if_pos c3, aw _ (by omega)]
  rw [if_neg c1, if_neg c2, if_neg c3]
  by_cases hm : MayX a1 a2 (xs l)
  · rw [(right_true hm (by omega) 200 (by omega)).1, Option.bind_some]
    obtain ⟨o, e1, e2⟩ := free_true hm (by omega) 199 (by omega)
    have ho : o.length ≤ l.length + 1 := by rw [← xs_length, e2]; exact FR_length _ _ _
    show weirkeeperlaw05_SpaceGreatest.j0 (199 + 1) a0 a1 a2 l false = _
    rw [weirkeeperlaw05_SpaceGreatest.j0, if_neg (by simp), e1, Option.bind_some, show (0 : Int) = ((0 : Nat) : Int) from rfl]
    exact loop a0 a1 a2 l hm (by omega) (by omega) (by omega) o e2 o.length 0 199 _ (by omega) (by omega) (by decide) (by decide) rfl
  · rw [right_false hm (by omega) 200 (by omega), Option.bind_some]
    exact aw _ (by omega)
end Go.Proofs.Ythcohkgpbjcliaa.PlSpaceGreatest
