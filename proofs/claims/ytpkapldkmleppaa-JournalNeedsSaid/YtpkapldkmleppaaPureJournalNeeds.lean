/- Records take as many places as their texts need, one behind the other; they are refused just if there are not so many. -/
import Derived.Test.YtpkapldkmleppaaFlaw08JournalNeeds
import Derived.Test.YtpkapldkmleppaaPlJourD
import Derived.Test.YtpkapldkmleppaaPlSame04
namespace Go.Proofs.Ytpkapldkmleppaa.PlJournalNeeds
open Go.RowKit Go.Proofs.Ytpkapldkmleppaa.F Go.Proofs.YtpkapldkmleppaaW.PrintWords Go.Proofs.YtpkapldkmleppaaW.PrintLast Go.Proofs.YtpkapldkmleppaaW.PrintMore Go.Proofs.Ytpkapldkmleppaa.Pl
set_option linter.unusedVariables false
set_option linter.unusedSimpArgs false
def sumL : List (List UInt8) → Nat
  | [] => 0
  | t :: l => needL t.length + sumL l
theorem sumL_append : ∀ (a b : List (List UInt8)), sumL (a ++ b) = sumL a + sumL b
  | [], b => by simp [sumL]
  | t :: a, b => by rw [List.cons_append, sumL, sumL, sumL_append a b]; omega
theorem sumL_recs (g : Nat) : ∀ (l : List (List UInt8)) (a : Nat), (recsL g a l).length = sumL l
  | [], a => rfl
  | t :: l, a => by rw [recsL, List.length_append, recL_length _ g a t (Nat.le_refl _), sumL_recs g l, sumL]
theorem sumL_le : ∀ (l : List (List UInt8)), (∀ t ∈ l, t.length ≤ 300) → sumL l ≤ 13 * l.length
  | [], _ => Nat.le_refl _
  | t :: l, h => by
    have := sumL_le l (fun x hx => h x (List.mem_cons_of_mem _ hx))
    have ht := h t List.mem_cons_self
    rw [sumL, List.length_cons]
    unfold needL
    omega
theorem last (g a : Nat) (hg : 1 ≤ g ∧ g ≤ 2147483646) (ha : a ≤ 128) (l : List (List UInt8)) (hl : l.length ≤ 20) (hs : ∀ t ∈ l, t.length ≤ 300) (k : Nat) (hk : 4000 ≤ k) :
    ((journal_Append.f k (List.replicate 130 zero32) [] (g : Int) (a : Int) (l.map B)).bind fun bt685 => (if (wrap64 ((a : Int) + ((sumL l : Nat) : Int))) > 128 then (if bt685.2.2.2 = 6 then (if bt685.2.2.1 = (a : Int) then ((weirkeeperlaw04_Ref.f k bt685.1 bt685.2.1).bind fun bt694 => ((weirkeeperlaw04_Ref.f k (List.replicate 130 zero32) []).bind fun bt700 => ((weirkeeperref04_Same.f k bt694.1 bt694.2 bt700.1 bt700.2).bind fun t706 => (if t706 = true then ((weirkeeperlaw08_awake.f k).bind fun t707 => (some t707)) else (some false))))) else (some false)) else (some false)) else (if (0 : Int) = 0 then (if bt685.2.2.2 = 0 then (if bt685.2.2.1 = (wrap64 ((a : Int) + ((sumL l : Nat) : Int))) then (if (bt685.2.1.length : Int) = ((sumL l : Nat) : Int) then ((weirkeeperlaw08_awake.f k).bind fun t708 => (some t708)) else (some false)) else (some false)) else (some false)) else (some false)))) = some true := by
  have hsl := sumL_le l hs
  have hI := Img.new
  have a1 := hI.append (by omega) (by simp) g a (by omega) ha l (by omega) (fun t h => by have := hs t h; omega) k (by omega)
  have hR : ∀ k, weirkeeperlaw04_Ref.f k (List.replicate 130 zero32) [] = some (List.replicate 130 zero32, []) := fun k => if_pos (by simp)
  rw [sumL_recs] at a1
  rw [a1, wrap64_in (by omega) (by omega)]
  by_cases c : a + sumL l ≤ 128
  · rw [if_pos c, Option.bind_some, if_neg (by omega), if_pos rfl]
    simp only
    rw [if_pos trivial, if_pos (by omega), if_pos (by rw [List.nil_append, putW_length, List.length_map, sumL_recs]), awakeAt k (by omega)]
    rfl
  · rw [if_neg c, Option.bind_some, if_pos (by omega)]
    simp only
    rw [if_pos trivial, if_pos trivial, hR, Option.bind_some, Option.bind_some, same_eq _ _ _ _ (by simp) (by simp) k (by simp; omega), Option.bind_some, if_pos (by simp), awakeAt k (by omega)]
    rfl
theorem loop (g a : Nat) (hg : 1 ≤ g ∧ g ≤ 2147483646) (ha : a ≤ 128) (l : List (List UInt8)) (hl : l.length ≤ 20) : ∀ (rest D : List (List UInt8)) (k : Nat), D ++ rest = l → (∀ t ∈ D, t.length ≤ 300) → 5000 + rest.length ≤ k →
    weirkeeperlaw08_JournalNeeds.l0 k (l.map B) (g : Int) (a : Int) 0 ((sumL D : Nat) : Int) (l.map B) (l.length : Int) (D.length : Int) (List.replicate 130 zero32) [] = some true
  | [], D, k, hD, hs, hk => by
    obtain ⟨k, rfl⟩ : ∃ j, k = j + 1 := ⟨k - 1, by omega⟩
    rw [List.append_nil] at hD
    subst hD
    rw [weirkeeperlaw08_JournalNeeds.l0, if_neg (by omega)]
    exact last g a hg ha D hl hs k (by omega)
  | t :: rest, D, k, hD, hs, hk => by
    rw [List.length_cons] at hk
    obtain ⟨k, rfl⟩ : ∃ j, k = j + 1 := ⟨k - 1, by omega⟩
    have hml : l.length = D.length + (rest.length + 1) := by rw [← hD, List.length_append, List.length_cons]
    have hlt : D.length < l.length := by omega
    have hget : l[D.length] = t := by simp only [← hD, List.getElem_append_right (Nat.le_refl _), Nat.sub_self, List.getElem_cons_zero]
    have e4 : wrap64 ((D.length : Int) + 1) = (((D ++ [t]).length : Nat) : Int) := by rw [wrap64_in (by omega) (by omega), List.length_append, List.length_singleton]; omega
    rw [weirkeeperlaw08_JournalNeeds.l0, e4]
    clear e4
    rw [if_pos (by omega), if_pos (by omega), if_pos (by rw [List.length_map]; omega), rdOf_B l D.length hlt, hget, B_size]
    by_cases c : t.length ≤ 300
    · have hb := sumL_le D hs
      have e5 : wrap64 (((sumL D : Nat) : Int) + ((needL t.length : Nat) : Int)) = ((sumL (D ++ [t]) : Nat) : Int) := by
        rw [wrap64_in (by unfold needL; omega) (by unfold needL; omega), sumL_append, sumL, sumL]
        omega
      rw [if_neg (by omega), jneed_eq _ (by omega), Option.bind_some, e5]
      clear e5
      refine loop g a hg ha l hl rest (D ++ [t]) k (by rw [List.append_assoc]; exact hD) (fun x hx => ?_) (by omega)
      rcases List.mem_append.1 hx with hx | hx
      · exact hs x hx
      · rw [List.mem_singleton.1 hx]; exact c
    · rw [if_pos (by omega), awakeAt k (by omega)]
      rfl
theorem pure : ∀ (a0 : Int) (a1 : Int) (l2 : List ByteArray), (Lit.int .u32 a0).wf = true → (Lit.int .u8 a1).wf = true → ((∀ yy ∈ l2, yy.size ≤ maxLen) ∧ l2.length ≤ maxLen) → ∃ k, F.weirkeeperlaw08_JournalNeeds.f k a0 a1 l2 = some true := by
  intro a0 a1 l2 h0 h1 h2
  refine ⟨6000, ?_⟩
  unfold weirkeeperlaw08_JournalNeeds.f
  by_cases c : (l2.length : Int) > 20
  · rw [if_pos c, awakeAt _ (by omega)]
    rfl
  · rw [if_neg c, New_ok (by omega) (by omega), Option.bind_some]
    rw [strs_of l2] at c ⊢
    generalize (l2.map fun s => s.data.toList) = L at c ⊢
    rw [List.length_map] at c ⊢
    have hb : 0 ≤ a0 ∧ a0 < 4294967296 := wf_u32 h0
    have hb1 : 0 ≤ a1 ∧ a1 < 256 := wf_u8 h1
    have hg : ∃ g : Nat, wrap64 (1 + wrap64 (Int.tmod a0 2147483646)) = (g : Int) ∧ 1 ≤ g ∧ g ≤ 2147483646 := by
      rw [Int.tmod_eq_emod_of_nonneg hb.1]
      refine ⟨(1 + a0 % 2147483646).toNat, ?_, by omega, by omega⟩
      have h2 : wrap64 (a0 % 2147483646) = a0 % 2147483646 := wrap64_in (by omega) (by omega)
      rw [h2, wrap64_in (by omega) (by omega)]
      omega
    obtain ⟨g, hw, hg⟩ := hg
    have ha : ∃ a : Nat, Int.tmod (wrap64 a1) 129 = (a : Int) ∧ a ≤ 128 := by
      rw [wrap64_in (by omega) (by omega), Int.tmod_eq_emod_of_nonneg hb1.1]
      exact ⟨(a1 % 129).toNat, by omega, by omega⟩
    obtain ⟨a, hwa, ha⟩ := ha
    rw [hw, hwa]
    exact loop g a hg ha L (by omega) L [] 6000 rfl (by simp) (by omega)
end Go.Proofs.Ytpkapldkmleppaa.PlJournalNeeds
