/- Pieces in which records are told are those of just these records, one behind the other. -/
import Derived.Test.YtpkapldkmleppaaFlaw08JournalOnce
import Derived.Test.YtpkapldkmleppaaPlJourD
namespace Go.Proofs.Ytpkapldkmleppaa.PlJournalOnce
open Go.RowKit Go.Proofs.Ytpkapldkmleppaa.F Go.Proofs.YtpkapldkmleppaaW.PrintWords Go.Proofs.YtpkapldkmleppaaW.PrintLast Go.Proofs.YtpkapldkmleppaaW.PrintMore Go.Proofs.Ytpkapldkmleppaa.Pl
set_option linter.unusedVariables false
set_option linter.unusedSimpArgs false
theorem loop (g : Nat) (hg : 1 ≤ g ∧ g ≤ 2147483647) (L m : List (List UInt8)) (e : Nat) (hL : L.length ≤ 40) (he : e ≤ L.length) (hr : recsL g 0 m = L.take e) (hm : ∀ t ∈ m, t.length ≤ 1000) (hm4 : m.length ≤ 40) :
    ∀ (rest D : List (List UInt8)) (k : Nat), D ++ rest = m → 5000 + rest.length ≤ k → weirkeeperlaw08_JournalOnce.l1 k (g : Int) (L.map B) (e : Int) ((recsL g 0 D).map B) (m.map B) (m.length : Int) (D.length : Int) = some true
  | [], D, k, hD, hk => by
    obtain ⟨k, rfl⟩ : ∃ j, k = j + 1 := ⟨k - 1, by omega⟩
    rw [List.append_nil] at hD
    subst hD
    rw [weirkeeperlaw08_JournalOnce.l1, if_neg (by omega), if_pos (by omega), if_pos (by rw [List.length_map]; omega), Int.toNat_natCast, ← List.map_take, hr, same01_eq _ _ (by rw [List.length_take]; omega) k (by rw [List.length_take]; omega), Option.bind_some, decide_eq_true rfl, if_pos rfl, awakeAt k (by omega)]
    rfl
  | t :: rest, D, k, hD, hk => by
    rw [List.length_cons] at hk
    obtain ⟨k, rfl⟩ : ∃ j, k = j + 1 := ⟨k - 1, by omega⟩
    have hml : m.length = D.length + (rest.length + 1) := by rw [← hD, List.length_append, List.length_cons]
    have hlt : D.length < m.length := by omega
    have hget : m[D.length] = t := by simp only [← hD, List.getElem_append_right (Nat.le_refl _), Nat.sub_self, List.getElem_cons_zero]
    have ht := hm t (by rw [← hD]; exact List.mem_append_right _ List.mem_cons_self)
    have hrl := recL_length t.length g (recsL g 0 D).length t (Nat.le_refl _)
    have hall : recsL g 0 m = recsL g 0 D ++ recL g (recsL g 0 D).length t ++ recsL g ((recsL g 0 D).length + needL t.length) rest := by
      rw [← hD, recsL_append, Nat.zero_add, recsL, List.append_assoc]
    have hlen : (recsL g 0 D).length + needL t.length ≤ 40 := by
      have := congrArg List.length hall
      rw [hr, List.length_take, List.length_append, List.length_append, hrl] at this
      omega
    have hsn : recsL g 0 D ++ recL g (recsL g 0 D).length t = recsL g 0 (D ++ [t]) := by
      rw [recsL_append, Nat.zero_add, recsL, recsL, List.append_nil]
    have hp : piecesR (g : Int) (((recsL g 0 D).length : Nat) : Int) t = ((recL g (recsL g 0 D).length t).map B, 0) := by
      unfold piecesR
      rw [if_pos ⟨⟨by omega, by omega⟩, ⟨by omega, by omega⟩, ht⟩, if_pos (by omega), Int.toNat_natCast, Int.toNat_natCast]
    have e4 : wrap64 ((D.length : Int) + 1) = (((D ++ [t]).length : Nat) : Int) := by rw [wrap64_in (by omega) (by omega), List.length_append, List.length_singleton]; omega
    rw [weirkeeperlaw08_JournalOnce.l1, if_pos (by clear e4; omega), if_pos (by clear e4; omega), if_pos (by clear e4; rw [List.length_map]; omega), rdOf_B m D.length hlt, hget, List.length_map, pieces_eq _ _ t (by clear e4; omega) k (by clear e4; omega), Option.bind_some, hp, B_size, jneed_eq _ ht]
    simp only [Option.bind_some, if_true, List.length_map]
    rw [if_pos (by rw [hrl]), if_pos (by rw [hrl]; clear e4; omega), ← List.map_append, hsn, e4]
    exact loop g hg L m e hL he hr hm hm4 rest (D ++ [t]) k (by rw [List.append_assoc]; exact hD) (by clear e4; omega)
theorem pure : ∀ (a0 : Int) (l1 : List ByteArray), (Lit.int .i64 a0).wf = true → ((∀ yy ∈ l1, yy.size ≤ maxLen) ∧ l1.length ≤ maxLen) → ∃ k, F.weirkeeperlaw08_JournalOnce.f k a0 l1 = some true := by
  intro a0 l1 h0 h1
  refine ⟨6000, ?_⟩
  unfold weirkeeperlaw08_JournalOnce.f
  by_cases c : (l1.length : Int) > 40
  · rw [if_pos c, awakeAt _ (by omega)]
    rfl
  · rw [if_neg c]
    rw [strs_of l1] at c ⊢
    generalize (l1.map fun s => s.data.toList) = L at c ⊢
    rw [List.length_map] at c ⊢
    have hL : L.length ≤ 40 := by omega
    refine short_loop (g := fun k i => weirkeeperlaw08_JournalOnce.l0 k a0 (L.map B) (L.map B) (L.length : Int) i) L 40 5800 _ rfl (fun _ _ => rfl) (fun k hk => by rw [awakeAt k (by omega)]; rfl) ?_ (by omega) L.length 0 6000 (by omega) (by omega) (by simp)
    intro hs k hk
    obtain ⟨k, rfl⟩ : ∃ j, k = j + 1 := ⟨k - 1, by omega⟩
    rw [parse_eq a0 L (by omega) (fun s h => by have := hs s h; omega) (k + 1) (by omega), Option.bind_some]
    have key : ∃ e : Nat, (parseR a0 L).2 = e ∧ e ≤ L.length ∧ weirkeeperlaw08_JournalOnce.l1 k a0 (L.map B) (e : Int) ([] : List ByteArray) ((parseR a0 L).1.map B) (((parseR a0 L).1.map B).length : Int) 0 = some true := by
      unfold parseR
      by_cases hg : (1 ≤ a0 ∧ a0 ≤ 2147483647) ∧ L.length ≤ 128
      · rw [if_pos hg]
        obtain ⟨g, rfl⟩ := Int.eq_ofNat_of_zero_le (by omega : 0 ≤ a0)
        obtain ⟨m, e, hp, he, hr, hm⟩ := parse_sound g L [] [] 0 0 [] (by simp) (by simp [recsL]) (by simp) (by simp) (by simp) (by simp)
        simp only [List.length_nil, List.nil_append] at hp he hr
        rw [Int.toNat_natCast, hp]
        have hml : m.length ≤ e := by
          have h1 := congrArg List.length hr
          rw [List.length_take] at h1
          have h2 : ∀ (ms : List (List UInt8)) (a : Nat), ms.length ≤ (recsL g a ms).length := by
            intro ms
            induction ms with
            | nil => intro a; simp
            | cons t ms ih =>
              intro a
              have := ih (a + needL t.length)
              rw [recsL, List.length_append, recL_length _ g a t (Nat.le_refl _), List.length_cons]
              unfold needL at this ⊢
              omega
          have := h2 m 0
          omega
        refine ⟨e, rfl, he, ?_⟩
        have := loop g (by omega) L m e hL he hr.symm hm (by omega) m [] k rfl (by omega)
        rw [List.length_map]
        simpa [recsL] using this
      · rw [if_neg hg]
        refine ⟨0, rfl, Nat.zero_le _, ?_⟩
        obtain ⟨k, rfl⟩ : ∃ j, k = j + 1 := ⟨k - 1, by omega⟩
        have := same01_eq [] [] (by simp) k (by simp; omega)
        simp only [List.map_nil] at this
        rw [weirkeeperlaw08_JournalOnce.l1, List.map_nil, if_neg (by simp), if_pos (by omega), if_pos (by omega), Int.toNat_natCast, List.take_zero, this, Option.bind_some, awakeAt k (by omega)]
        rfl
    obtain ⟨e, h1, h2, h3⟩ := key
    rw [h1, if_neg (by omega), weirkeeperlaw08_JournalOnce.j1, List.length_map, if_neg (by rw [decide_eq_true_eq]; omega)]
    exact h3
end Go.Proofs.Ytpkapldkmleppaa.PlJournalOnce
