/- It does not matter in which order extents stand. -/
import Derived.Test.YthcohkgpbjcliaaFlaw05SpaceOrder
import Derived.Test.YthcohkgpbjcliaaPlSpaceR
namespace Go.Proofs.Ythcohkgpbjcliaa.PlSpaceOrder
open Go.RowKit Go.Proofs.Ythcohkgpbjcliaa.F Go.Proofs.YthcohkgpbjcliaaW.PrintWords Go.Proofs.YthcohkgpbjcliaaW.PrintLast Go.Proofs.YthcohkgpbjcliaaW.PrintMore Go.Proofs.Ythcohkgpbjcliaa.Pl
set_option linter.unusedVariables false
set_option linter.unusedSimpArgs false
/-- the index of the i-th -/
def ix (n c i : Nat) : Nat := (n - i + c) % n
theorem ix_lo {n c i : Nat} (hc : c < n) (h : i ≤ c) : ix n c i = c - i := by
  unfold ix
  rw [show n - i + c = (c - i) + n by omega, Nat.add_mod_right, Nat.mod_eq_of_lt (by omega)]
theorem ix_hi {n c i : Nat} (hc : c < n) (h : c < i) (hi : i < n) : ix n c i = n + c - i := by
  unfold ix
  rw [show n - i + c = n + c - i by omega, Nat.mod_eq_of_lt (by omega)]
theorem ix_mod {n c i : Nat} : ix n (c % n) i = ix n c i := by
  unfold ix
  rw [Nat.add_mod, Nat.mod_mod, ← Nat.add_mod]
def turned (l : List E) (c m : Nat) : List E := (List.range m).map fun i => l.getD (ix l.length c i) z66
theorem turned_succ (l : List E) (c m : Nat) : turned l c (m + 1) = turned l c m ++ [l.getD (ix l.length c m) z66] := by
  unfold turned
  rw [List.range_succ, List.map_append]
  rfl
theorem turned_perm (l : List E) (c : Nat) (hl : 0 < l.length) : (turned l c l.length).Perm l := by
  have e0 : turned l c l.length = turned l (c % l.length) l.length := by
    unfold turned
    refine List.map_congr_left fun i _ => ?_
    rw [ix_mod]
  have hc : c % l.length < l.length := Nat.mod_lt _ hl
  rw [e0]
  generalize c % l.length = c at hc
  have e : turned l c l.length = (l.take (c + 1)).reverse ++ (l.drop (c + 1)).reverse := by
    apply List.ext_getElem
    · simp [turned]; omega
    · intro i h1 h2
      have hi : i < l.length := by simpa [turned] using h1
      rw [List.getElem_append]
      have e1 : (turned l c l.length)[i] = l.getD (ix l.length c i) z66 := by simp [turned]
      rw [e1]
      split
      · rename_i h
        have h' : i ≤ c := by simp at h; omega
        rw [ix_lo hc h', List.getElem_reverse, List.getElem_take, List.getD_eq_getElem?_getD, List.getElem?_eq_getElem (by omega), Option.getD_some]
        congr 1
        simp
        omega
      · rename_i h
        have h' : c < i := by simp at h; omega
        rw [ix_hi hc h' hi, List.getElem_reverse, List.getElem_drop, List.getD_eq_getElem?_getD, List.getElem?_eq_getElem (by omega), Option.getD_some]
        congr 1
        simp
        omega
  rw [e]
  exact ((List.reverse_perm _).append (List.reverse_perm _)).trans (by rw [List.take_append_drop])
theorem pure : ∀ (a0 : Int) (a1 : Int) (a2 : Int) (l3 : List F.S66) (a4 : Int), (Lit.int .i64 a0).wf = true → (Lit.int .i64 a1).wf = true → (Lit.int .i64 a2).wf = true → ((∀ yy ∈ l3, ((Lit.int .i64 yy.f0).wf = true ∧ (Lit.int .i64 yy.f1).wf = true)) ∧ l3.length ≤ maxLen) → (Lit.int .u8 a4).wf = true → ∃ k, F.weirkeeperlaw05_SpaceOrder.f k a0 a1 a2 l3 a4 = some true := by
  intro n a b l by_ _ _ _ _ hby
  have hby := wf_u8 hby
  refine ⟨300, ?_⟩
  have aw : weirkeeperlaw05_SpaceOrder.j0 300 n a b l by_ true = some true := by
    rw [show (300 : Nat) = 299 + 1 from rfl, weirkeeperlaw05_SpaceOrder.j0, if_pos rfl, awake5 299 (by omega)]
    rfl
  unfold weirkeeperlaw05_SpaceOrder.f
  by_cases c1 : (l.length : Int) > 30
  · rw [if_pos c1, aw]
  rw [if_neg c1]
  by_cases c2 : l.length = 0
  · rw [show ((l.length : Int) == 0) = true by simp [c2], aw]
  rw [show ((l.length : Int) == 0) = false by rw [beq_eq_false_iff_ne]; omega, show (300 : Nat) = 299 + 1 from rfl, weirkeeperlaw05_SpaceOrder.j0, if_neg (by simp)]
  obtain ⟨c, hc⟩ : ∃ c : Nat, by_ = c := ⟨by_.toNat, (Int.toNat_of_nonneg hby.1).symm⟩
  subst hc
  have hp := turned_perm l c (by omega)
  -- behind the loop
  have fin : ∀ k, 200 < k → weirkeeperlaw05_SpaceOrder.l0 k n a b l (c : Int) (turned l c l.length) (l.length : Int) (l.length : Int) = some true := fun k hk => by
    obtain ⟨k, rfl⟩ : ∃ m, k = m + 1 := ⟨k - 1, by omega⟩
    have hlen : (turned l c l.length).length = l.length := hp.length_eq
    have hpx : (xs (turned l c l.length)).Perm (xs l) := hp.map _
    rw [weirkeeperlaw05_SpaceOrder.l0, if_neg (by omega)]
    by_cases hm : MayX a b (xs l)
    · have hm' : MayX a b (xs (turned l c l.length)) := (MayX_perm hpx).2 hm
      have hF : FR a b (turned l c l.length) = FR a b l := free_eq hm' hm (sorts _) (sorts l) (fun q => CovX_perm hpx q)
      obtain ⟨o, e1, e2⟩ := free_true hm (by omega) k (by omega)
      obtain ⟨o', e1', e2'⟩ := free_true hm' (by omega) k (by omega)
      have : o' = o := xs_inj (by rw [e2, e2', hF])
      subst this
      have hol : o'.length ≤ l.length + 1 := by rw [← xs_length, e2]; exact FR_length _ _ _
      have rest : ((space_Free.f k a b l).bind fun t782 => ((weirkeeperlaw05_refs.f k t782).bind fun t785 => ((space_Free.f k a b (turned l c l.length)).bind fun t788 => ((weirkeeperlaw05_refs.f k t788).bind fun t791 => ((weirkeeperref05_Same.f k t785 t791).bind fun t794 => (if t794 = true then ((space_Right.f k a b l).bind fun t795 => ((space_Right.f k a b (turned l c l.length)).bind fun t796 => (if (t795 == t796) = true then ((weirkeeperlaw05_awake.f k).bind fun t797 => (some t797)) else (some false)))) else (some false))))))) = some true := by
        rw [e1, Option.bind_some, refs_eq _ (by omega) k (by omega), Option.bind_some, e1', Option.bind_some, refs_eq _ (by omega) k (by omega), Option.bind_some, sameE_refl _ (by simp; omega) k (by simp; omega), Option.bind_some, if_pos rfl, (right_true hm (by omega) k (by omega)).1, Option.bind_some, (right_true hm' (by omega) k (by omega)).1, Option.bind_some, if_pos (by simp), awake5 k (by omega)]
        rfl
      by_cases hN : 1 ≤ n ∧ n ≤ 2147483647
      · rw [fit_good hm hN.1 hN.2 (by omega) k (by omega), Option.bind_some, fit_good hm' hN.1 hN.2 (by omega) k (by omega), Option.bind_some, hF, if_pos (by simp), if_pos rfl]
        exact rest
      · have hb : ¬ MayX a b (xs l) ∨ n < 1 ∨ 2147483647 < n := by omega
        have hb' : ¬ MayX a b (xs (turned l c l.length)) ∨ n < 1 ∨ 2147483647 < n := by omega
        rw [fit_bad hb (by omega) k (by omega), Option.bind_some, fit_bad hb' (by omega) k (by omega), Option.bind_some, if_pos (by simp), if_pos rfl]
        exact rest
    · have hm' : ¬ MayX a b (xs (turned l c l.length)) := fun h => hm ((MayX_perm hpx).1 h)
      rw [fit_bad (.inl hm) (by omega) k (by omega), Option.bind_some, fit_bad (.inl hm') (by omega) k (by omega), Option.bind_some, if_pos (by simp), if_pos rfl,
        free_false hm (by omega) k (by omega), Option.bind_some, refs_eq _ (by simp) k (by simp; omega), Option.bind_some, free_false hm' (by omega) k (by omega), Option.bind_some, refs_eq _ (by simp) k (by simp; omega), Option.bind_some, sameE_refl _ (by simp) k (by simp; omega), Option.bind_some, if_pos rfl, right_false hm (by omega) k (by omega), Option.bind_some, right_false hm' (by omega) k (by omega), Option.bind_some, if_pos (by simp), awake5 k (by omega)]
      rfl
  have loop : ∀ (d i k : Nat), i + d = l.length → d + 200 < k → weirkeeperlaw05_SpaceOrder.l0 k n a b l (c : Int) (turned l c i) (l.length : Int) (i : Int) = some true := by
    intro d
    induction d with
    | zero =>
      intro i k hi hk
      obtain rfl : i = l.length := by omega
      exact fin k (by omega)
    | succ d ih =>
      intro i k hi hk
      obtain ⟨k, rfl⟩ : ∃ m, k = m + 1 := ⟨k - 1, by omega⟩
      have hx : ix l.length c i < l.length := Nat.mod_lt _ (by omega)
      have e : Int.tmod (wrap64 ((wrap64 ((l.length : Int) - i)) + (wrap64 (c : Int)))) (l.length : Int) = (ix l.length c i : Nat) := by
        rw [wrap64_in (n := (l.length : Int) - i) (by omega) (by omega), wrap64_in (n := (c : Int)) (by omega) (by omega), wrap64_in (by omega) (by omega), Int.tmod_eq_emod_of_nonneg (by omega)]
        unfold ix
        rw [Int.natCast_emod]
        congr 1
        omega
      rw [weirkeeperlaw05_SpaceOrder.l0, if_pos (by omega), if_neg (by omega), e, if_pos (by omega), if_pos (by omega), if_pos (by simp [turned]; omega), wrap64_in (by omega) (by omega), show ((i : Int) + 1) = ((i + 1 : Nat) : Int) by omega]
      have ee : (⟨(rd_T66 l ((ix l.length c i : Nat) : Int)).f0, (rd_T66 l ((ix l.length c i : Nat) : Int)).f1⟩ : E) = l.getD (ix l.length c i) z66 := by
        rw [rdX_at _ _ hx, List.getD_eq_getElem?_getD, List.getElem?_eq_getElem hx]
        rfl
      rw [ee, ← turned_succ]
      exact ih (i + 1) k (by omega) (by omega)
  exact loop l.length 0 299 (by omega) (by omega)
end Go.Proofs.Ythcohkgpbjcliaa.PlSpaceOrder
