/- Any record's pieces, and the records that stand in any pieces, are what the document says, or refused. -/
import Derived.Test.YtpkapldkmleppaaFlaw08JournalParses
import Derived.Test.YtpkapldkmleppaaPlRef08B
import Derived.Test.YtpkapldkmleppaaPlSame01
import Derived.Test.YtpkapldkmleppaaPlAwake08
namespace Go.Proofs.Ytpkapldkmleppaa.PlJournalParses
open Go.RowKit Go.Proofs.Ytpkapldkmleppaa.F Go.Proofs.YtpkapldkmleppaaW.PrintWords Go.Proofs.YtpkapldkmleppaaW.PrintLast Go.Proofs.YtpkapldkmleppaaW.PrintMore Go.Proofs.Ytpkapldkmleppaa.Pl
set_option linter.unusedVariables false
set_option linter.unusedSimpArgs false
theorem awakeAt (k : Nat) (hk : 3000 ≤ k) : weirkeeperlaw08_awake.f k = some true := at_rounds weirkeeperlaw08_awake.mono hk awake8
theorem pure : ∀ (a0 : Int) (a1 : Int) (a2 : ByteArray) (l3 : List ByteArray), (Lit.int .i64 a0).wf = true → (Lit.int .i64 a1).wf = true → a2.size ≤ 140737488351232 → ((∀ yy ∈ l3, yy.size ≤ maxLen) ∧ l3.length ≤ maxLen) → ∃ k, F.weirkeeperlaw08_JournalParses.f k a0 a1 a2 l3 = some true := by
  intro a0 a1 a2 l3 h0 h1 h2 h3
  refine ⟨6000, ?_⟩
  have hj : ∀ (a2 : ByteArray) (l3 : List ByteArray), weirkeeperlaw08_JournalParses.j0 6000 a0 a1 a2 l3 true = some true := fun a2 l3 => by
    rw [weirkeeperlaw08_JournalParses.j0, if_pos rfl, awakeAt _ (by omega)]
    rfl
  unfold weirkeeperlaw08_JournalParses.f
  by_cases c1 : (a2.size : Int) > 1100
  · rw [if_pos c1, hj]
  · rw [if_neg c1]
    by_cases c2 : (l3.length : Int) > 40
    · rw [decide_eq_true c2, hj]
    · rw [decide_eq_false c2]
      rw [B_of a2] at c1 ⊢
      rw [strs_of l3] at c2 ⊢
      generalize (l3.map fun s => s.data.toList) = L at c2 ⊢
      generalize a2.data.toList = t at c1 ⊢
      rw [List.length_map] at c2
      rw [B_size] at c1
      rw [weirkeeperlaw08_JournalParses.j0, if_neg (by decide), List.length_map]
      refine short_loop (g := fun k i => weirkeeperlaw08_JournalParses.l0 k a0 a1 (B t) (L.map B) (L.map B) (L.length : Int) i) L 40 5800 _ rfl (fun _ _ => rfl) (fun k hk => by rw [awakeAt k (by omega)]; rfl) ?_ (by omega) L.length 0 5999 (by omega) (by omega) (by simp)
      intro hs k hk
      have hp1 : ∀ ms : List (List UInt8) × Nat, ms.1.length ≤ 128 → True := fun _ _ => trivial
      have hml : (parseR a0 L).1.length ≤ 1000 := by
        unfold parseR
        split
        · rename_i c
          obtain ⟨m, e, hp, he, hr, hm⟩ := parse_sound a0.toNat L [] [] 0 0 [] (by simp) (by simp [recsL]) (by simp) (by simp) (by simp) (by simp)
          simp only [List.length_nil, List.nil_append] at hp he hr
          rw [hp]
          have h2 : ∀ (ms : List (List UInt8)) (a : Nat), ms.length ≤ (recsL a0.toNat a ms).length := by
            intro ms
            induction ms with
            | nil => intro a; simp
            | cons t ms ih =>
              intro a
              have := ih (a + needL t.length)
              rw [recsL, List.length_append, recL_length _ _ a t (Nat.le_refl _), List.length_cons]
              unfold needL at this ⊢
              omega
          have h3 := h2 m 0
          rw [← hr, List.length_take] at h3
          show m.length ≤ 1000
          omega
        · simp
      have hpl : ∃ P : List (List UInt8), (piecesR a0 a1 t).1 = P.map B ∧ P.length ≤ 1000 := by
        unfold piecesR
        split
        · split
          · rename_i c1 c2
            refine ⟨_, rfl, ?_⟩
            rw [recL_length _ _ _ t (Nat.le_refl _)]
            unfold needL
            omega
          · exact ⟨[], rfl, by simp⟩
        · exact ⟨[], rfl, by simp⟩
      obtain ⟨P, hP, hPl⟩ := hpl
      have hns : ∃ n : Int, journal_Need.f (t.length : Int) = some n ∧ weirkeeperref08_Need.f k (t.length : Int) = some n := by
        rw [rneed_eq _ k (by omega)]
        unfold needR
        by_cases c : t.length ≤ 1000
        · rw [if_pos ⟨by omega, by omega⟩, Int.toNat_natCast, jneed_eq _ c]
          exact ⟨_, rfl, rfl⟩
        · rw [if_neg (by omega), jneed_bad _ (by omega)]
          exact ⟨_, rfl, rfl⟩
      obtain ⟨n, hn1, hn2⟩ := hns
      rw [pieces_eq _ _ t (by omega) k (by omega), Option.bind_some, rpieces_eq _ _ t (by omega) k (by omega), Option.bind_some, parse_eq a0 L (by omega) (fun s h => by have := hs s h; omega) k (by omega), Option.bind_some,
        rparse_eq a0 L (by omega) (fun s h => by have := hs s h; omega) k (by omega), Option.bind_some, hP, same01_eq P P (by omega) k (by omega), Option.bind_some, if_pos (decide_eq_true rfl), if_pos rfl, same01_eq _ _ (by omega) k (by omega), Option.bind_some, if_pos (decide_eq_true rfl), if_pos rfl, B_size, hn1, Option.bind_some, hn2, Option.bind_some, if_pos rfl, awakeAt k (by omega)]
      rfl
end Go.Proofs.Ytpkapldkmleppaa.PlJournalParses
