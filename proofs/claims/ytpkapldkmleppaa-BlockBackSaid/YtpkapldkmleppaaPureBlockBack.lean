/- What was written is read, behind a flush, too, whatever else is written beside it. -/
import Derived.Test.YtpkapldkmleppaaFlaw06BlockBack
import Derived.Test.YtpkapldkmleppaaPlBlock
import Derived.Test.YtpkapldkmleppaaPlSame04
import Derived.Test.YtpkapldkmleppaaPlSame01
import Derived.Test.YtpkapldkmleppaaPlAwake06
namespace Go.Proofs.Ytpkapldkmleppaa.PlBlockBack
open Go.RowKit Go.Proofs.Ytpkapldkmleppaa.F Go.Proofs.YtpkapldkmleppaaW.PrintWords Go.Proofs.YtpkapldkmleppaaW.PrintLast Go.Proofs.YtpkapldkmleppaaW.PrintMore Go.Proofs.Ytpkapldkmleppaa.Pl
set_option linter.unusedVariables false
set_option linter.unusedSimpArgs false
theorem pure : ∀ (l0_0 : List ByteArray) (l0_1 : List Wr) (a1 : Int) (a2 : ByteArray) (a3 : Int) (l4 : List ByteArray), (((∀ yy ∈ l0_0, yy.size ≤ maxLen) ∧ l0_0.length ≤ maxLen) ∧ l0_0.length * 16 ≤ 140737488351232) → (((∀ yy ∈ l0_1, ((Lit.int .i64 yy.f0).wf = true ∧ yy.f1.size ≤ maxLen)) ∧ l0_1.length ≤ maxLen) ∧ l0_1.length * 24 ≤ 140737488351232) → (Lit.int .i64 a1).wf = true → a2.size ≤ 140737488351232 → (Lit.int .i64 a3).wf = true → ((∀ yy ∈ l4, yy.size ≤ maxLen) ∧ l4.length ≤ maxLen) → ∃ k, F.weirkeeperlaw06_BlockBack.f k l0_0 l0_1 a1 a2 a3 l4 = some true := by
  intro S W a1 a2 a3 l4 hS hW h1 h2 h3 h4
  refine ⟨1000, ?_⟩
  have hj : ∀ a2 l4, weirkeeperlaw06_BlockBack.j0 1000 a1 a2 a3 l4 true S W = some true := fun a2 l4 => by
    rw [weirkeeperlaw06_BlockBack.j0, if_pos rfl, awake6At _ (by omega)]
    rfl
  have w1 := wf_i64 h1
  have w3 := wf_i64 h3
  have hR : ∀ k, weirkeeperlaw04_Ref.f k S W = some (S, refW W) := fun k => if_pos hW.2
  unfold weirkeeperlaw06_BlockBack.f
  rw [hR, Option.bind_some, small_eq, Option.bind_some]
  have hrl : (refW W).length = W.length := by rw [refW, List.length_map]
  rw [hrl]
  by_cases c0 : S.length ≤ 100 ∧ W.length ≤ 60
  · rw [if_pos (decide_eq_true c0)]
    by_cases c1 : (a2.size : Int) > 2000
    · rw [if_pos c1, hj]
    · rw [if_neg c1]
      by_cases c2 : (l4.length : Int) > 30
      · rw [decide_eq_true c2, hj]
      · rw [decide_eq_false c2]
        rw [B_of a2] at c1 ⊢
        generalize a2.data.toList = t at c1 ⊢
        rw [B_size] at c1
        have hf : disk_fit S W = true := fit_of (by omega) (by omega)
        have hnb : needB t.length ≤ 64 := by unfold needB; omega
        rw [weirkeeperlaw06_BlockBack.j0, if_neg (by decide)]
        by_cases c3 : disk_right S W = true ∧ t.length ≤ 65535 ∧ 0 ≤ a1 ∧ a1 + (needB t.length : Nat) ≤ (S.length : Nat)
        · obtain ⟨hr, _, ha, hle⟩ := c3
          obtain ⟨a, rfl⟩ := Int.eq_ofNat_of_zero_le ha
          have hI := Img.of hr
          obtain ⟨e1, i1⟩ := hI.write (by omega) a t (by omega) (by omega) 999 (by omega)
          obtain ⟨f1, i2⟩ := i1.flush (by omega)
          have hl := hI.len
          have hmid := ovr_mid a (secB t) ((applyW alw 0 W S).map (·.data.toList)) (by rw [secB_length]; omega)
          rw [secB_length] at hmid
          have hlen2 := i1.len
          rw [e1, Option.bind_some]
          simp only
          rw [if_pos trivial, B_size, bneed_eq _ (by omega), Option.bind_some, i1.bread (by omega) a _ (by omega) 999 (by omega), Option.bind_some, f1, Option.bind_some, i2.bread (by omega) a _ (by rw [List.length_map]; omega) 999 (by omega), Option.bind_some, hmid, readR_back t (by omega)]
          simp only [if_true]
          rw [weirkeeperlaw06_BlockBack.j1, if_neg (by decide)]
          have hj2 : ∀ (m : List ByteArray), weirkeeperlaw06_BlockBack.j2 998 (a : Int) (B t) a3 m ((needB t.length : Nat) : Int) true S (W ++ putW (a : Int) ((secB t).map B)) = some true := fun m => by
            rw [weirkeeperlaw06_BlockBack.j2, if_pos rfl, awake6At _ (by omega)]
            rfl
          by_cases d1 : a3 < 0
          · rw [if_pos d1, hj2]
          · rw [if_neg d1]
            by_cases d2 : a3 > 100
            · rw [if_pos d2, hj2]
            · rw [if_neg d2, wrap64_in (n := a3 + (l4.length : Int)) (by omega) (by omega), wrap64_in (by omega) (by omega)]
              obtain ⟨b, rfl⟩ := Int.eq_ofNat_of_zero_le (by omega : 0 ≤ a3)
              have key : (b + l4.length ≤ a ∨ a + needB t.length ≤ b) → weirkeeperlaw06_BlockBack.j2 998 (a : Int) (B t) (b : Int) l4 ((needB t.length : Nat) : Int) false S (W ++ putW (a : Int) ((secB t).map B)) = some true := fun hd => by
                rw [weirkeeperlaw06_BlockBack.j2, if_neg (by decide)]
                have hfin : ∀ (P : List Wr), (∃ (n : Nat) (J : List (List UInt8)), n ≤ 1000 ∧ Img n S P J ∧ (J.take (a + needB t.length)).drop a = secB t) →
                    ((block_Read.f 997 S P (a : Int) ((needB t.length : Nat) : Int)).bind fun bt259 => (if bt259.1.toList = (B t).toList then (if bt259.2 = 0 then ((weirkeeperlaw06_awake.f 997).bind fun t261 => (some t261)) else (some false)) else (some false))) = some true := fun P ⟨n, J, hn, hJ, hm⟩ => by
                  rw [hJ.bread (by omega) a _ (by omega) 997 (by omega), hm, readR_back t (by omega), Option.bind_some]
                  simp only [if_true]
                  rw [awake6At _ (by omega)]
                  rfl
                have hf2 : disk_fit S (W ++ putW (a : Int) ((secB t).map B)) = true := i1.fit (by omega)
                by_cases hb : (disk_right S (W ++ putW (a : Int) ((secB t).map B)) && thereB S.length (b : Int) (l4.length : Int) && !(l4.any fun s => s.size != 32)) = true
                · simp only [Bool.and_eq_true, Bool.not_eq_true'] at hb
                  obtain ⟨⟨_, ht⟩, hT⟩ := hb
                  rw [there_iff] at ht
                  have h32 : ∀ s ∈ l4.map (fun s => s.data.toList), s.length = 32 := fun s hs => by
                    obtain ⟨x, hx, rfl⟩ := List.mem_map.1 hs
                    rw [List.any_eq_false] at hT
                    have h5 := hT x hx
                    have h6 : x.size = 32 := by simpa using h5
                    show x.data.toList.length = 32
                    rw [Array.length_toList]
                    exact h6
                  have hp := i1.put (by omega) b (l4.map fun s => s.data.toList) (by rw [List.length_map]; omega) h32
                  rw [← strs_of l4, List.length_map] at hp
                  rw [hp.1, Option.bind_some]
                  refine hfin _ ⟨_, _, by omega, hp.2, ?_⟩
                  rw [ovr_far b _ _ (by rw [List.length_map]; omega) a _ (by omega) (by rw [List.length_map]; exact hd), hmid]
                · rw [Put_bad hf2 (Bool.eq_false_iff.2 hb), Option.bind_some]
                  exact hfin _ ⟨_, _, by omega, i1, hmid⟩
              by_cases d3 : (b : Int) + (l4.length : Int) > (a : Int)
              · rw [if_pos d3]
                by_cases d4 : (b : Int) < (a : Int) + ((needB t.length : Nat) : Int)
                · rw [decide_eq_true d4, hj2]
                · rw [decide_eq_false d4]
                  exact key (.inr (by omega))
              · rw [if_neg d3]
                exact key (.inl (by omega))
        · rw [write_bad hf a1 t (by omega) c3 999 (by omega), Option.bind_some]
          simp only
          rw [if_neg (by decide), hR, Option.bind_some, Option.bind_some, same_eq S S (refW W) (refW W) (by omega) (by omega) 999 (by omega), Option.bind_some, if_pos (by simp), awake6At _ (by omega)]
          rfl
  · rw [if_neg (by rw [decide_eq_false c0]; decide), hj]
end Go.Proofs.Ytpkapldkmleppaa.PlBlockBack
