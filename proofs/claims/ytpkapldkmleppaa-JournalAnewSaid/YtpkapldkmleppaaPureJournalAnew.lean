/- A Gen that begins anew tells what is appended to it alone, though more of an earlier one stood there; the earlier one is cut off. -/
import Derived.Test.YtpkapldkmleppaaFlaw08JournalAnew
import Derived.Test.YtpkapldkmleppaaPlJourD
namespace Go.Proofs.Ytpkapldkmleppaa.PlJournalAnew
open Go.RowKit Go.Proofs.Ytpkapldkmleppaa.F Go.Proofs.YtpkapldkmleppaaW.PrintWords Go.Proofs.YtpkapldkmleppaaW.PrintLast Go.Proofs.YtpkapldkmleppaaW.PrintMore Go.Proofs.Ytpkapldkmleppaa.Pl
set_option linter.unusedVariables false
set_option linter.unusedSimpArgs false
abbrev I0 : List (List UInt8) := List.replicate 130 (List.replicate 32 0)
theorem head_recs (g a : Nat) (t : List UInt8) (l R : List (List UInt8)) : (recsL g a (t :: l) ++ R).head? = some (pieceL g a t) := by
  rw [recsL]
  by_cases c : t.length ≤ 24
  · rw [recL_short _ _ _ c]
    rfl
  · rw [recL_long _ _ _ c]
    rfl
theorem body (g : Nat) (hg : 1 ≤ g ∧ g ≤ 2147483645) (old l : List (List UInt8)) (ho : old.length ≤ 10) (hl : l.length ≤ 10) (hl0 : l.length ≠ 0) (hs : ∀ t ∈ old, t.length ≤ 300) (ht : ∀ t ∈ l, t.length ≤ 300) (x0 : Int) (hx : wrap64 (1 + wrap64 (Int.tmod x0 2147483645)) = (g : Int)) (k : Nat) (hk : 5000 ≤ k) :
    ((disk_New.f 130).bind fun bt554 => ((journal_Append.f k bt554.1 bt554.2.1 (wrap64 (1 + (wrap64 (Int.tmod x0 2147483645)))) 0 (old.map B)).bind fun bt562 => ((journal_Append.f k bt562.1 bt562.2.1 (wrap64 ((wrap64 (1 + (wrap64 (Int.tmod x0 2147483645)))) + 1)) 0 (l.map B)).bind fun bt570 => (if bt554.2.2 = 0 then (if bt562.2.2.2 = 0 then (weirkeeperlaw08_JournalAnew.j2 k (l.map B) (wrap64 (1 + (wrap64 (Int.tmod x0 2147483645)))) bt554.2.2 bt562.2.2.2 bt570.2.2.1 bt570.2.2.2 (bt570.2.2.2 != 0) bt570.1 bt570.2.1) else (weirkeeperlaw08_JournalAnew.j2 k (l.map B) (wrap64 (1 + (wrap64 (Int.tmod x0 2147483645)))) bt554.2.2 bt562.2.2.2 bt570.2.2.1 bt570.2.2.2 true bt570.1 bt570.2.1)) else (weirkeeperlaw08_JournalAnew.j2 k (l.map B) (wrap64 (1 + (wrap64 (Int.tmod x0 2147483645)))) bt554.2.2 bt562.2.2.2 bt570.2.2.1 bt570.2.2.2 true bt570.1 bt570.2.1))))) = some true := by
  have e1 : wrap64 ((g : Int) + 1) = ((g + 1 : Nat) : Int) := by rw [wrap64_in (by omega) (by omega)]; omega
  rw [hx, e1]
  clear e1 hx
  obtain ⟨k, rfl⟩ : ∃ j, k = j + 1 := ⟨k - 1, by omega⟩
  have hI := Img.new
  have a1 := hI.append (by omega) (by simp) g 0 (by omega) (by omega) old (by omega) (fun t h => by have := hs t h; omega) (k + 1) (by omega)
  rw [Nat.zero_add, show ((0 : Nat) : Int) = 0 from rfl] at a1
  rw [New_ok (by omega) (by omega), Option.bind_some]
  show ((journal_Append.f (k + 1) (List.replicate 130 zero32) [] (g : Int) 0 (old.map B)).bind _) = _
  rw [a1]
  by_cases c1 : (recsL g 0 old).length ≤ 128
  · rw [if_pos c1, Option.bind_some]
    simp only
    have hp1 := (hI.put (by omega) 2 (recsL g 0 old) (by rw [List.length_replicate]; omega) (recsL_32 g old 0)).2
    have h130 : (List.replicate 130 zero32).length = 130 := by simp
    have a2 := hp1.append (by omega) h130 (g + 1) 0 (by omega) (by omega) l (by omega) (fun t h => by have := ht t h; omega) (k + 1) (by omega)
    rw [Nat.zero_add, show ((0 : Nat) : Int) = 0 from rfl] at a2
    rw [show (2 + 0 : Nat) = 2 from rfl, List.nil_append] at *
    rw [a2]
    by_cases c2 : (recsL (g + 1) 0 l).length ≤ 128
    · rw [if_pos c2, Option.bind_some]
      simp only
      have hp2 := (hp1.put (by omega) 2 (recsL (g + 1) 0 l) (by rw [List.length_replicate]; omega) (recsL_32 (g + 1) l 0)).2
      have h0 : (ovr 2 (recsL g 0 old) I0).length = 130 := by rw [ovr_length _ _ _ (by rw [List.length_replicate]; omega), List.length_replicate]
      have h1 : (ovr 2 (recsL (g + 1) 0 l) (ovr 2 (recsL g 0 old) I0)).length = 130 := by rw [ovr_length _ _ _ (by omega), h0]
      have hbad : Bad (g + 1) ((ovr 2 (recsL g 0 old) I0).drop (2 + (recsL (g + 1) 0 l).length)) := by
        refine bad_sub (b := (ovr 2 (recsL g 0 old) I0)) (fun s hs => List.mem_of_mem_drop hs) ?_
        unfold ovr
        exact bad_append (bad_append (bad_sub (fun s hs => List.mem_of_mem_take hs) (bad_zeros (g + 1) 130 (by omega) (by omega))) (bad_recs (g + 1) g old 0 (by omega) (by omega) (by omega))) (bad_sub (fun s hs => List.mem_of_mem_drop hs) (bad_zeros (g + 1) 130 (by omega) (by omega)))
      have t1 : parseR ((g + 1 : Nat) : Int) ((ovr 2 (recsL (g + 1) 0 l) (ovr 2 (recsL g 0 old) I0)).drop 2) = (l, (recsL (g + 1) 0 l).length) := by
        unfold parseR
        rw [if_pos ⟨⟨by omega, by omega⟩, by rw [List.length_drop]; omega⟩, Int.toNat_natCast, ovr_drop _ _ _ (by omega)]
        exact parse_just (g + 1) l _ (fun t h => by have := ht t h; omega) (bad_head hbad)
      have t2 : parseR (g : Int) ((ovr 2 (recsL (g + 1) 0 l) (ovr 2 (recsL g 0 old) I0)).drop 2) = ([], 0) := by
        unfold parseR
        rw [if_pos ⟨⟨by omega, by omega⟩, by rw [List.length_drop]; omega⟩, Int.toNat_natCast, ovr_drop _ _ _ (by omega)]
        refine parse_bad g 0 [] 0 0 [] _ (fun s hs => ?_)
        obtain ⟨t, l', hl'⟩ : ∃ t l', l = t :: l' := by
          cases l with
          | nil => exact absurd rfl hl0
          | cons t l' => exact ⟨t, l', rfl⟩
        rw [hl', head_recs] at hs
        rw [← Option.some.inj hs]
        exact piece_bad g (g + 1) 0 0 t (by omega) (by omega) (by omega)
      have e1 : wrap64 ((g : Int) + 1) = ((g + 1 : Nat) : Int) := by rw [wrap64_in (by omega) (by omega)]; omega
      simp only [if_true, bne_self_eq_false]
      rw [weirkeeperlaw08_JournalAnew.j2, if_neg (by decide), e1]
      clear e1
      rw [hp2.texts (by omega) h130 _ k (by omega), Option.bind_some, hp2.texts (by omega) h130 _ k (by omega), Option.bind_some, t1, t2]
      simp only
      rw [if_pos trivial, if_pos trivial, same01_eq l l (by omega) k (by omega), Option.bind_some, if_pos (decide_eq_true rfl), if_pos (by simp), if_pos (by simp), awakeAt k (by omega)]
      rfl
    · rw [if_neg c2, Option.bind_some]
      simp only
      simp only [if_true]
      rw [weirkeeperlaw08_JournalAnew.j2, if_pos (by decide), if_pos rfl, if_neg (by decide), if_pos rfl, awakeAt k (by omega)]
      rfl
  · rw [if_neg c1, Option.bind_some]
    simp only
    have h130 : (List.replicate 130 zero32).length = 130 := by simp
    have a2 := hI.append (by omega) h130 (g + 1) 0 (by omega) (by omega) l (by omega) (fun t h => by have := ht t h; omega) (k + 1) (by omega)
    rw [show ((0 : Nat) : Int) = 0 from rfl] at a2
    rw [a2]
    have hj : ∀ S W a b, weirkeeperlaw08_JournalAnew.j2 (k + 1) (l.map B) (g : Int) 0 6 a b true S W = some true := fun S W a b => by
      rw [weirkeeperlaw08_JournalAnew.j2, if_pos rfl, if_pos rfl, if_pos rfl, awakeAt k (by omega)]
      rfl
    split <;> (rw [Option.bind_some]; simp only; rw [if_pos trivial, if_neg (by decide)]; exact hj _ _ _ _)
theorem pure : ∀ (a0 : Int) (l1 : List ByteArray) (l2 : List ByteArray), (Lit.int .u32 a0).wf = true → ((∀ yy ∈ l1, yy.size ≤ maxLen) ∧ l1.length ≤ maxLen) → ((∀ yy ∈ l2, yy.size ≤ maxLen) ∧ l2.length ≤ maxLen) → ∃ k, F.weirkeeperlaw08_JournalAnew.f k a0 l1 l2 = some true := by
  intro a0 l1 l2 h0 h1 h2
  refine ⟨6000, ?_⟩
  have hj : ∀ (l1 l2 : List ByteArray), weirkeeperlaw08_JournalAnew.j0 6000 a0 l1 l2 true = some true := fun l1 l2 => by
    rw [weirkeeperlaw08_JournalAnew.j0, if_pos rfl, awakeAt _ (by omega)]
    rfl
  unfold weirkeeperlaw08_JournalAnew.f
  by_cases c1 : (l1.length : Int) > 10
  · rw [if_pos c1, hj]
  · rw [if_neg c1]
    by_cases c2 : (l2.length : Int) > 10
    · rw [if_pos c2, hj]
    · rw [if_neg c2]
      by_cases c3 : (l2.length : Int) = 0
      · rw [show ((l2.length : Int) == 0) = true from beq_iff_eq.2 c3, hj]
      · rw [show ((l2.length : Int) == 0) = false from beq_eq_false_iff_ne.2 c3]
        rw [strs_of l1] at c1 ⊢
        rw [strs_of l2] at c2 c3 ⊢
        generalize (l1.map fun s => s.data.toList) = old at c1 ⊢
        generalize (l2.map fun s => s.data.toList) = l at c2 c3 ⊢
        rw [List.length_map] at c1 c2 c3
        have hb : 0 ≤ a0 ∧ a0 < 4294967296 := wf_u32 h0
        have hg : ∃ g : Nat, wrap64 (1 + wrap64 (Int.tmod a0 2147483645)) = (g : Int) ∧ 1 ≤ g ∧ g ≤ 2147483645 := by
          rw [Int.tmod_eq_emod_of_nonneg hb.1]
          refine ⟨(1 + a0 % 2147483645).toNat, ?_, by omega, by omega⟩
          have h2 : wrap64 (a0 % 2147483645) = a0 % 2147483645 := wrap64_in (by omega) (by omega)
          rw [h2, wrap64_in (by omega) (by omega)]
          omega
        obtain ⟨g, hw, hg⟩ := hg
        rw [weirkeeperlaw08_JournalAnew.j0, if_neg (by decide), Option.bind_some, if_pos (by simp; omega), Option.bind_some, List.nil_append, if_pos (by simp; omega), Option.bind_some, ← List.map_append, List.length_map]
        refine short_loop (g := fun k i => weirkeeperlaw08_JournalAnew.l0 k a0 (old.map B) (l.map B) ((old ++ l).map B) ((old ++ l).length : Int) i) (old ++ l) 300 5500 _ rfl (fun _ _ => rfl) (fun k hk => by rw [awakeAt k (by omega)]; rfl) ?_ (by simp; omega) (old ++ l).length 0 5999 (by omega) (by simp; omega) (by simp)
        intro hs k hk
        exact body g hg old l (by omega) (by omega) (by omega) (fun t h => hs t (List.mem_append_left _ h)) (fun t h => hs t (List.mem_append_right _ h)) a0 hw k (by omega)
end Go.Proofs.Ytpkapldkmleppaa.PlJournalAnew
