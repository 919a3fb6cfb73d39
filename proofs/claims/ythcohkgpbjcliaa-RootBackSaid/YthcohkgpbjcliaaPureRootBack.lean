/- What was written is read where it belongs; the other sector stays. -/
import Derived.Test.YthcohkgpbjcliaaFlaw07RootBack
import Derived.Test.YthcohkgpbjcliaaPlRoot
import Derived.Test.YthcohkgpbjcliaaPlSame04
import Derived.Test.YthcohkgpbjcliaaPlAwake07
namespace Go.Proofs.Ythcohkgpbjcliaa.PlRootBack
open Go.RowKit Go.Proofs.Ythcohkgpbjcliaa.F Go.Proofs.YthcohkgpbjcliaaW.PrintWords Go.Proofs.YthcohkgpbjcliaaW.PrintLast Go.Proofs.YthcohkgpbjcliaaW.PrintMore Go.Proofs.Ythcohkgpbjcliaa.Pl
set_option linter.unusedVariables false
set_option linter.unusedSimpArgs false
/-- what is read of the place that is not written to -/
theorem other {n : Nat} {S : List ByteArray} {W : List Wr} {I : List (List UInt8)} (h : Img n S W I) (hn : n ≤ 1000) (g a m : Nat) (hg : g ≤ 2147483647) (ha : a ≤ 2147483647) (hm : m ≤ 2147483647) (hS : g % 2 + 1 ≤ S.length) {W2 : List Wr} (h2 : Img (n + 1) S W2 (ovr (g % 2) (secB (rootT g a m)) I)) :
    ∃ y : Int × Int × Int × Bool, root_Read.f S W2 ((1 - g % 2 : Nat) : Int) = some y ∧ root_Read.f S W ((1 - g % 2 : Nat) : Int) = some y := by
  have hl := h.len
  have hl2 := h2.len
  have hsl := secB_length (rootT g a m)
  rw [needB_root] at hsl
  by_cases c : 1 - g % 2 < S.length
  · refine ⟨_, h2.rread (by omega) (1 - g % 2) (by omega), ?_⟩
    rw [h.rread (by omega) (1 - g % 2) (by omega)]
    congr 2
    have hf := ovr_far (g % 2) (secB (rootT g a m)) I (by omega) (1 - g % 2) 1 (by omega) (by omega)
    have h3 := flatten_one (ovr (g % 2) (secB (rootT g a m)) I) (1 - g % 2) (by omega)
    have h4 := flatten_one I (1 - g % 2) (by omega)
    rw [← h3, ← h4, hf]
  · exact ⟨_, rread_bad (h2.fit (by omega)) _ (fun hh => c (by have := hh.2.2.2; omega)), rread_bad (h.fit (by omega)) _ (fun hh => c (by have := hh.2.2.2; omega))⟩
theorem mine {n : Nat} {S : List ByteArray} {W2 : List Wr} {I : List (List UInt8)} (hn : n ≤ 1000) (g a m : Nat) (hg : g ≤ 2147483647) (ha : a ≤ 2147483647) (hm : m ≤ 2147483647) (hI : I.length = S.length) (hS : g % 2 + 1 ≤ S.length) (h2 : Img n S W2 (ovr (g % 2) (secB (rootT g a m)) I)) :
    root_Read.f S W2 ((g % 2 : Nat) : Int) = some ((g : Int), (a : Int), (m : Int), true) := by
  have hl2 := h2.len
  have hsl := secB_length (rootT g a m)
  rw [needB_root] at hsl
  rw [h2.rread (by omega) (g % 2) (by omega)]
  have h3 := flatten_one (ovr (g % 2) (secB (rootT g a m)) I) (g % 2) (by omega)
  have h4 := ovr_mid (g % 2) (secB (rootT g a m)) I (by omega)
  rw [hsl] at h4
  rw [← h3, h4, rootS_back g a m hg ha hm]
theorem pure : ∀ (l0_0 : List ByteArray) (l0_1 : List Wr) (a1_0 : Int) (a1_1 : Int) (a1_2 : Int), (((∀ yy ∈ l0_0, yy.size ≤ maxLen) ∧ l0_0.length ≤ maxLen) ∧ l0_0.length * 16 ≤ 140737488351232) → (((∀ yy ∈ l0_1, ((Lit.int .i64 yy.f0).wf = true ∧ yy.f1.size ≤ maxLen)) ∧ l0_1.length ≤ maxLen) ∧ l0_1.length * 24 ≤ 140737488351232) → (Lit.int .i64 a1_0).wf = true → (Lit.int .i64 a1_1).wf = true → (Lit.int .i64 a1_2).wf = true → ∃ k, F.weirkeeperlaw07_RootBack.f k l0_0 l0_1 a1_0 a1_1 a1_2 = some true := by
  intro S W g a m hS hW h1 h2 h3
  refine ⟨1000, ?_⟩
  have hR : ∀ k, weirkeeperlaw04_Ref.f k S W = some (S, refW W) := fun k => if_pos hW.2
  unfold weirkeeperlaw07_RootBack.f
  rw [hR, Option.bind_some, small_eq, Option.bind_some]
  have hrl : (refW W).length = W.length := by rw [refW, List.length_map]
  rw [hrl]
  by_cases c0 : S.length ≤ 100 ∧ W.length ≤ 60
  · rw [if_pos (decide_eq_true c0)]
    have hf : disk_fit S W = true := fit_of (by omega) (by omega)
    by_cases c : disk_right S W = true ∧ (0 ≤ g ∧ g ≤ 2147483647) ∧ (0 ≤ a ∧ a ≤ 2147483647) ∧ (0 ≤ m ∧ m ≤ 2147483647) ∧ g % 2 + 1 ≤ (S.length : Nat)
    · obtain ⟨hr, ⟨g0, g1⟩, ⟨a0, a1⟩, ⟨m0, m1⟩, hle⟩ := c
      obtain ⟨g, rfl⟩ := Int.eq_ofNat_of_zero_le g0
      obtain ⟨a, rfl⟩ := Int.eq_ofNat_of_zero_le a0
      obtain ⟨m, rfl⟩ := Int.eq_ofNat_of_zero_le m0
      have hI := Img.of hr
      obtain ⟨hw, hI2⟩ := hI.rwrite (by omega) g a m (by omega) (by omega) (by omega) (by omega) 1000 (by omega)
      obtain ⟨y, hy1, hy2⟩ := other hI (by omega) g a m (by omega) (by omega) (by omega) (by omega) hI2
      have hx := mine (n := W.length + 1) (by omega) g a m (by omega) (by omega) (by omega) hI.len (by omega) hI2
      have e2 : wrap64 (1 - ((g % 2 : Nat) : Int)) = ((1 - g % 2 : Nat) : Int) := by rw [wrap64_in (by omega) (by omega)]; omega
      have hb : ∃ b : Int × Int × Int × Int, root_Best.f 1000 S (W ++ putW ((g % 2 : Nat) : Int) ((secB (rootT g a m)).map B)) = some b ∧ b.2.2.2 = 0 ∧ b.1 ≥ (g : Int) ∧ ((b.1 = (g : Int) ∧ b.2.1 = (a : Int) ∧ b.2.2.1 = (m : Int)) ∨ (b.1 = y.1 ∧ b.2.1 = y.2.1 ∧ b.2.2.1 = y.2.2.1)) := by
        obtain ⟨y0, y1, y2, y3⟩ := y
        rcases Nat.mod_two_eq_zero_or_one g with hg2 | hg2
        · rw [hg2] at hx hy1
          refine ⟨_, best_eq S _ _ _ (by rw [hg2]; exact hx) (by rw [hg2]; exact hy1) 1000 (by omega), ?_⟩
          unfold bestR
          cases y3 with
          | false => rw [if_pos ⟨rfl, .inl rfl⟩]; exact ⟨rfl, Int.le_refl _, .inl ⟨rfl, rfl, rfl⟩⟩
          | true =>
            by_cases d : (g : Int) > y0
            · rw [if_pos ⟨rfl, .inr d⟩]; exact ⟨rfl, Int.le_refl _, .inl ⟨rfl, rfl, rfl⟩⟩
            · rw [if_neg (fun h => h.2.elim (fun h => Bool.noConfusion h) d), if_pos rfl]; exact ⟨rfl, by show y0 ≥ _; omega, .inr ⟨rfl, rfl, rfl⟩⟩
        · rw [hg2] at hx hy1
          refine ⟨_, best_eq S _ _ _ (by rw [hg2]; exact hy1) (by rw [hg2]; exact hx) 1000 (by omega), ?_⟩
          unfold bestR
          by_cases d : y3 = true ∧ y0 > (g : Int)
          · rw [if_pos ⟨d.1, .inr d.2⟩]; exact ⟨rfl, by show y0 ≥ _; omega, .inr ⟨rfl, rfl, rfl⟩⟩
          · rw [if_neg (fun h => d ⟨h.1, h.2.elim (fun h => Bool.noConfusion h) id⟩), if_pos rfl]; exact ⟨rfl, Int.le_refl _, .inl ⟨rfl, rfl, rfl⟩⟩
      obtain ⟨b, hb1, hb2, hb3, hb4⟩ := hb
      rw [hw, Option.bind_some]
      simp only
      rw [if_pos trivial, tmod2, e2, hx, Option.bind_some, hy1, Option.bind_some, hy2, Option.bind_some, hb1, Option.bind_some, if_pos (by simp), if_pos rfl, if_pos (by simp), if_pos (by simp), if_pos hb2, if_pos hb3]
      by_cases d : (b.1 == (g : Int) && (b.2.1 == (a : Int) && (b.2.2.1 == (m : Int)))) = true
      · rw [if_pos d, awake7At _ (by omega)]
        rfl
      · rw [if_neg d]
        rcases hb4 with h | h
        · exact absurd (by simp [h.1, h.2.1, h.2.2]) d
        · rw [if_pos (by simp [h.1, h.2.1, h.2.2]), awake7At _ (by omega)]
          rfl
    · rw [rwrite_bad hf g a m c 1000 (by omega), Option.bind_some]
      simp only
      rw [if_neg (by decide), hR, Option.bind_some, Option.bind_some, same_eq S S (refW W) (refW W) (by omega) (by omega) 1000 (by omega), Option.bind_some, if_pos (by simp), awake7At _ (by omega)]
      rfl
  · rw [if_neg (by rw [decide_eq_false c0]; decide), awake7At _ (by omega)]
    rfl
end Go.Proofs.Ythcohkgpbjcliaa.PlRootBack
