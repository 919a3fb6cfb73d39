/- What is appended, part by part, where the records of a Gen end is told behind them, and ends where that is told; of other Gens nothing is told. -/
import Derived.Test.YtpkapldkmleppaaFlaw08JournalBack
import Derived.Test.YtpkapldkmleppaaPlJourD
namespace Go.Proofs.Ytpkapldkmleppaa.PlJournalBack
open Go.RowKit Go.Proofs.Ytpkapldkmleppaa.F Go.Proofs.YtpkapldkmleppaaW.PrintWords Go.Proofs.YtpkapldkmleppaaW.PrintLast Go.Proofs.YtpkapldkmleppaaW.PrintMore Go.Proofs.Ytpkapldkmleppaa.Pl
set_option linter.unusedVariables false
set_option linter.unusedSimpArgs false
abbrev I0 : List (List UInt8) := List.replicate 130 (List.replicate 32 0)
theorem told (g : Nat) (hg : 1 ≤ g ∧ g ≤ 2147483647) (D : List (List UInt8)) (hD : ∀ t ∈ D, t.length ≤ 1000) (hl : (recsL g 0 D).length ≤ 128) : parseR (g : Int) ((ovr 2 (recsL g 0 D) I0).drop 2) = (D, (recsL g 0 D).length) := by
  have h1 : (ovr 2 (recsL g 0 D) I0).length = 130 := by rw [ovr_length _ _ _ (by rw [List.length_replicate]; omega), List.length_replicate]
  unfold parseR
  rw [if_pos ⟨⟨by omega, by omega⟩, by rw [List.length_drop]; omega⟩, Int.toNat_natCast, ovr_drop _ _ _ (by rw [List.length_replicate]; omega)]
  exact parse_just g D _ hD (bad_head (bad_sub (fun s hs => List.mem_of_mem_drop hs) (bad_zeros g 130 (by omega) (by omega))))
theorem other (g : Nat) (hg : 1 ≤ g ∧ g ≤ 2147483646) (D : List (List UInt8)) (hl : (recsL g 0 D).length ≤ 128) : parseR ((g + 1 : Nat) : Int) ((ovr 2 (recsL g 0 D) I0).drop 2) = ([], 0) := by
  have h1 : (ovr 2 (recsL g 0 D) I0).length = 130 := by rw [ovr_length _ _ _ (by rw [List.length_replicate]; omega), List.length_replicate]
  unfold parseR
  rw [if_pos ⟨⟨by omega, by omega⟩, by rw [List.length_drop]; omega⟩, Int.toNat_natCast, ovr_drop _ _ _ (by rw [List.length_replicate]; omega)]
  exact parse_bad (g + 1) 0 [] 0 0 [] _ (bad_head (bad_append (bad_recs (g + 1) g D 0 (by omega) (by omega) (by omega)) (bad_sub (fun s hs => List.mem_of_mem_drop hs) (bad_zeros (g + 1) 130 (by omega) (by omega)))))
theorem loop (g : Nat) (hg : 1 ≤ g ∧ g ≤ 2147483646) (l : List (List UInt8)) (hl : l.length ≤ 20) : ∀ (rest D : List (List UInt8)) (k : Nat) (n : Nat) (S : List ByteArray) (W : List Wr),
    D ++ rest = l → (∀ t ∈ D, t.length ≤ 300) → 5000 + rest.length ≤ k → n ≤ 130 → S.length = 130 → n = (recsL g 0 D).length → n ≤ 128 → Img n S W (ovr 2 (recsL g 0 D) I0) →
    weirkeeperlaw08_JournalBack.l0 k (g : Int) (((recsL g 0 D).length : Nat) : Int) (D.map B) (l.map B) (l.length : Int) (D.length : Int) S W = some true
  | [], D, k, n, S, W, hD, hs, hk, hn, h130, hn2, hn3, hI => by
    obtain ⟨k, rfl⟩ : ∃ j, k = j + 1 := ⟨k - 1, by omega⟩
    rw [List.append_nil] at hD
    subst hD
    obtain ⟨hf, hI2⟩ := hI.flush (by omega)
    have ht := told g (by omega) D (fun t ht => by have := hs t ht; omega) (by omega)
    have e1 : wrap64 ((g : Int) + 1) = ((g + 1 : Nat) : Int) := by rw [wrap64_in (by omega) (by omega)]; omega
    have l130 : ((ovr 2 (recsL g 0 D) I0).map B).length = 130 := by rw [List.length_map, hI.len, h130]
    rw [weirkeeperlaw08_JournalBack.l0, if_neg (by clear e1; omega), hf, Option.bind_some, hI2.texts (by omega) l130 _ k (by clear e1; omega), Option.bind_some, e1, hI.texts (by clear e1; omega) h130 _ k (by clear e1; omega), Option.bind_some, ht, other g hg D (by clear e1; omega)]
    clear e1
    simp only
    rw [if_pos trivial, if_pos trivial, same01_eq D D (by omega) k (by omega), Option.bind_some, if_pos (decide_eq_true rfl), if_pos trivial, if_pos (by simp), if_pos (by simp), awakeAt k (by omega)]
    rfl
  | t :: rest, D, k, n, S, W, hD, hs, hk, hn, h130, hn2, hn3, hI => by
    rw [List.length_cons] at hk
    obtain ⟨k, rfl⟩ : ∃ j, k = j + 1 := ⟨k - 1, by omega⟩
    have hml : l.length = D.length + (rest.length + 1) := by rw [← hD, List.length_append, List.length_cons]
    have hlt : D.length < l.length := by omega
    have hget : l[D.length] = t := by simp only [← hD, List.getElem_append_right (Nat.le_refl _), Nat.sub_self, List.getElem_cons_zero]
    have e4 : wrap64 ((D.length : Int) + 1) = (((D ++ [t]).length : Nat) : Int) := by rw [wrap64_in (by omega) (by omega), List.length_append, List.length_singleton]; omega
    rw [weirkeeperlaw08_JournalBack.l0, if_pos (by clear e4; omega), if_pos (by clear e4; omega), if_pos (by clear e4; rw [List.length_map]; omega), rdOf_B l D.length hlt, hget, B_size]
    by_cases c : t.length ≤ 300
    · have hsn : recsL g 0 D ++ recL g (recsL g 0 D).length t = recsL g 0 (D ++ [t]) := by
        rw [recsL_append, Nat.zero_add, recsL, recsL, List.append_nil]
      have hrl := recL_length t.length g (recsL g 0 D).length t (Nat.le_refl _)
      have hr1 : recsL g (recsL g 0 D).length [t] = recL g (recsL g 0 D).length t := by rw [recsL, recsL, List.append_nil]
      have hap := hI.append (by clear e4; omega) h130 g (recsL g 0 D).length (by clear e4; omega) (by clear e4; omega) [t] (by simp) (fun x hx => by rw [List.mem_singleton.1 hx]; clear e4; omega) k (by clear e4; omega)
      rw [hr1, hrl, List.map_singleton] at hap
      rw [if_neg (by clear e4; omega), hap]
      by_cases c2 : (recsL g 0 D).length + needL t.length ≤ 128
      · have hs2 : ∀ x ∈ D ++ [t], x.length ≤ 300 := fun x hx => by
          rcases List.mem_append.1 hx with hx | hx
          · exact hs x hx
          · rw [List.mem_singleton.1 hx]; exact c
        have hp := hI.put (by clear e4; omega) (2 + (recsL g 0 D).length) (recL g (recsL g 0 D).length t) (by rw [hrl]; clear e4; omega) (recL_32 _ g _ t (Nat.le_refl _))
        have hov : ovr (2 + (recsL g 0 D).length) (recL g (recsL g 0 D).length t) (ovr 2 (recsL g 0 D) I0) = ovr 2 (recsL g 0 (D ++ [t])) I0 := by
          rw [ovr_ovr 2 _ _ _ (by rw [List.length_replicate, hrl]; clear e4; omega), hsn]
        have hln : (recsL g 0 (D ++ [t])).length = (recsL g 0 D).length + needL t.length := by rw [← hsn, List.length_append, hrl]
        have hI2 := hp.2
        rw [hov, hrl] at hI2
        have ht := told g (by clear e4; omega) (D ++ [t]) (fun x hx => by have := hs2 x hx; clear e4; omega) (by rw [hln]; exact c2)
        have hm : D.map B ++ [B t] = (D ++ [t]).map B := by rw [List.map_append]; rfl
        rw [if_pos c2, Option.bind_some]
        simp only
        rw [if_pos trivial, if_pos (by rw [List.length_map]; clear e4; omega), Option.bind_some, hI2.texts (by clear e4; omega) h130 _ k (by clear e4; omega), Option.bind_some, ht, hm]
        simp only
        rw [if_pos trivial, hln, if_pos rfl, same01_eq _ _ (by rw [List.length_append, List.length_singleton]; clear e4; omega) k (by rw [List.length_append, List.length_singleton]; clear e4; omega), Option.bind_some, if_pos (decide_eq_true rfl), e4, ← hln]
        exact loop g hg l hl rest (D ++ [t]) k (n + needL t.length) S _ (by rw [List.append_assoc]; exact hD) hs2 (by clear e4; omega) (by clear e4; omega) h130 (by rw [hln]; clear e4; omega) (by clear e4; omega) hI2
      · clear e4
        rw [if_neg c2, Option.bind_some]
        simp only
        rw [if_neg (by decide), if_pos trivial, if_pos trivial, jneed_eq _ (by omega), Option.bind_some, if_pos (by rw [wrap64_in (by omega) (by unfold needL; omega)]; omega), awakeAt k (by omega)]
        rfl
    · clear e4
      rw [if_pos (by omega), awakeAt k (by omega)]
      rfl
theorem pure : ∀ (a0 : Int) (l1 : List ByteArray), (Lit.int .u32 a0).wf = true → ((∀ yy ∈ l1, yy.size ≤ maxLen) ∧ l1.length ≤ maxLen) → ∃ k, F.weirkeeperlaw08_JournalBack.f k a0 l1 = some true := by
  intro a0 l1 h0 h1
  refine ⟨6000, ?_⟩
  unfold weirkeeperlaw08_JournalBack.f
  by_cases c : (l1.length : Int) > 20
  · rw [if_pos c, awakeAt _ (by omega)]
    rfl
  · rw [if_neg c, New_ok (by omega) (by omega), Option.bind_some]
    rw [strs_of l1] at c ⊢
    generalize (l1.map fun s => s.data.toList) = L at c ⊢
    rw [List.length_map] at c ⊢
    have hb : 0 ≤ a0 ∧ a0 < 4294967296 := wf_u32 h0
    have hg : ∃ g : Nat, wrap64 (1 + wrap64 (Int.tmod a0 2147483646)) = (g : Int) ∧ 1 ≤ g ∧ g ≤ 2147483646 := by
      rw [Int.tmod_eq_emod_of_nonneg hb.1]
      refine ⟨(1 + a0 % 2147483646).toNat, ?_, by omega, by omega⟩
      have h2 : wrap64 (a0 % 2147483646) = a0 % 2147483646 := wrap64_in (by omega) (by omega)
      rw [h2, wrap64_in (by omega) (by omega)]
      omega
    obtain ⟨g, hw, hg⟩ := hg
    rw [hw]
    have hI : Img 0 (List.replicate 130 zero32) [] (ovr 2 (recsL g 0 []) I0) := by
      rw [recsL, ovr_nil]
      exact Img.new
    have := loop g hg L (by omega) L [] 6000 0 (List.replicate 130 zero32) [] rfl (by simp) (by omega) (by omega) (by simp) (by simp [recsL]) (by omega) hI
    simpa [recsL] using this
end Go.Proofs.Ytpkapldkmleppaa.PlJournalBack
