/- While a root of the next Gen is written, and power goes, whatever of it lasts, the best one is that ahead, or it; once it is flushed, it. -/
import Derived.Test.YthcohkgpbjcliaaFlaw07RootSafe
import Derived.Test.YthcohkgpbjcliaaPlRoot
import Derived.Test.YthcohkgpbjcliaaPlAwake07
namespace Go.Proofs.Ythcohkgpbjcliaa.PlRootSafe
open Go.RowKit Go.Proofs.Ythcohkgpbjcliaa.F Go.Proofs.YthcohkgpbjcliaaW.PrintWords Go.Proofs.YthcohkgpbjcliaaW.PrintLast Go.Proofs.YthcohkgpbjcliaaW.PrintMore Go.Proofs.Ythcohkgpbjcliaa.Pl
set_option linter.unusedVariables false
set_option linter.unusedSimpArgs false
theorem wf_u32 {n : Int} (h : (Lit.int .u32 n).wf = true) : 0 ≤ n ∧ n < 4294967296 := by
  simp [Lit.wf, IntKind.min, IntKind.max, IntKind.signed, IntKind.bits] at h
  omega
abbrev Rt := Int × Int × Int × Bool
theorem getD_of {I : List (List UInt8)} {i : Nat} (h : i < I.length) : I.getD i [] = I[i] := by rw [List.getD_eq_getElem?_getD, List.getElem?_eq_getElem h]; rfl
/-- the best of two places -/
theorem best_at {i : Nat} {S : List ByteArray} {W : List Wr} {I : List (List UInt8)} (h : Img i S W I) (hi : i ≤ 1000) (h2 : 2 ≤ I.length) (p : Nat) (x y : Rt) (hx : rootS (I.getD (p % 2) []) ((p % 2 : Nat) : Int) = x) (hy : rootS (I.getD ((p + 1) % 2) []) (((p + 1) % 2 : Nat) : Int) = y)
    (hxt : x.2.2.2 = true) (hyt : y.2.2.2 = false ∨ x.1 > y.1) (k : Nat) (hk : 1 ≤ k) : root_Best.f k S W = some (x.1, x.2.1, x.2.2.1, 0) := by
  have l1 : p % 2 < I.length := by omega
  have l2 : (p + 1) % 2 < I.length := by omega
  have r1 := h.rread (by omega) _ l1
  have r2 := h.rread (by omega) _ l2
  rw [← getD_of l1, hx] at r1
  rw [← getD_of l2, hy] at r2
  rcases Nat.mod_two_eq_zero_or_one p with e | e
  · rw [show (p + 1) % 2 = 1 by omega] at r2
    rw [e] at r1
    rw [best_eq S W x y r1 r2 k hk, bestR, if_pos ⟨hxt, hyt⟩]
  · rw [show (p + 1) % 2 = 0 by omega] at r2
    rw [e] at r1
    rw [best_eq S W y x r2 r1 k hk, bestR]
    rw [if_neg (fun hh => by
      rcases hyt with hy | hy
      · rw [hy] at hh; exact absurd hh.1 (by decide)
      · rcases hh.2 with h2 | h2
        · rw [hxt] at h2; exact absurd h2 (by decide)
        · omega), if_pos hxt]
/-- what is there behind a root was written -/
theorem over (I : List (List UInt8)) (h2 : 2 ≤ I.length) (g a m : Nat) (hg : g ≤ 2147483647) (ha : a ≤ 2147483647) (hm : m ≤ 2147483647) :
    (ovr (g % 2) (secB (rootT g a m)) I).length = I.length ∧ rootS ((ovr (g % 2) (secB (rootT g a m)) I).getD (g % 2) []) ((g % 2 : Nat) : Int) = ((g : Int), (a : Int), (m : Int), true) ∧ (ovr (g % 2) (secB (rootT g a m)) I).getD ((g + 1) % 2) [] = I.getD ((g + 1) % 2) [] := by
  have hsl := secB_length (rootT g a m)
  rw [needB_root] at hsl
  have hl := ovr_length (g % 2) (secB (rootT g a m)) I (by omega)
  refine ⟨hl, ?_, ?_⟩
  · have l2 : g % 2 < (ovr (g % 2) (secB (rootT g a m)) I).length := by omega
    rw [getD_of l2]
    have h3 := flatten_one (ovr (g % 2) (secB (rootT g a m)) I) (g % 2) l2
    have h5 := ovr_mid (g % 2) (secB (rootT g a m)) I (by omega)
    rw [hsl] at h5
    rw [← h3, h5, rootS_back g a m hg ha hm]
  · have l2 : (g + 1) % 2 < (ovr (g % 2) (secB (rootT g a m)) I).length := by omega
    have l1 : (g + 1) % 2 < I.length := by omega
    have hf := ovr_far (g % 2) (secB (rootT g a m)) I (by omega) ((g + 1) % 2) 1 (by omega) (by omega)
    have h3 := flatten_one (ovr (g % 2) (secB (rootT g a m)) I) ((g + 1) % 2) l2
    have h5 := flatten_one I ((g + 1) % 2) l1
    rw [getD_of l2, ← h3, hf, h5, ← getD_of l1]
/-- a crash while one sector waits: all of it, or nothing -/
theorem crash_one (kept : Nat → Bool) (S : List ByteArray) (p : Nat) (s : ByteArray) : applyW kept 0 ([] ++ putW (p : Int) [s]) S = if kept 0 = true then applyW alw 0 ([] ++ putW (p : Int) [s]) S else S := by
  rw [List.nil_append, putW, putW, applyW, applyW, applyW, applyW]
  by_cases c : kept 0 = true
  · rw [if_pos c, if_pos c, if_pos rfl]
  · rw [if_neg c, if_neg c]
theorem facts (n g a b : Nat) (hn1 : 2 ≤ n) (hn2 : n ≤ 100) (hg : g < 2147483647) (ha : a < 65536) (hb : b < 65536) (k : Nat) (hk : 100 ≤ k) : ∃ (S0 : List ByteArray) (W1 : List Wr) (S2 : List ByteArray) (W2 : List Wr) (S4 : List ByteArray), disk_New.f (n : Int) = some (S0, [], 0) ∧ root_Write.f k S0 [] (g : Int) (a : Int) 1 = some (S0, W1, 0) ∧
    disk_Flush.f S0 W1 = some (S2, []) ∧ root_Write.f k S2 [] ((g + 1 : Nat) : Int) (b : Int) 2 = some (S2, W2, 0) ∧ disk_Flush.f S2 W2 = some (S4, []) ∧ root_Best.f k S4 [] = some (((g + 1 : Nat) : Int), (b : Int), 2, 0) ∧ root_Best.f k S2 W2 = some (((g + 1 : Nat) : Int), (b : Int), 2, 0) ∧ root_Best.f k S2 [] = some ((g : Int), (a : Int), 1, 0) ∧
    ∀ l : List Bool, disk_Crash.f S2 W2 l = some (if l.getD 0 false = true then S4 else S2, []) := by
  have hI := Img.newN n (by omega) (by omega)
  have hl0 : (List.replicate n (List.replicate 32 (0 : UInt8))).length = n := List.length_replicate
  have hs0 : (List.replicate n zero32).length = n := List.length_replicate
  obtain ⟨w1, i1⟩ := hI.rwrite (by omega) g a 1 (by omega) (by omega) (by omega) (by omega) k (by omega)
  obtain ⟨ol1, oh1, of1⟩ := over _ (by omega : 2 ≤ (List.replicate n (List.replicate 32 (0 : UInt8))).length) g a 1 (by omega) (by omega) (by omega)
  generalize hI1 : ovr (g % 2) (secB (rootT g a 1)) (List.replicate n (List.replicate 32 (0 : UInt8))) = I1 at *
  obtain ⟨f1, i2⟩ := i1.flush (by omega)
  have hs2 : (I1.map B).length = n := by rw [List.length_map]; omega
  obtain ⟨w2, i3⟩ := i2.rwrite (by omega) (g + 1) b 2 (by omega) (by omega) (by omega) (by omega) k (by omega)
  obtain ⟨ol2, oh2, of2⟩ := over I1 (by omega) (g + 1) b 2 (by omega) (by omega) (by omega)
  have hone := secB_one (g + 1) b 2
  obtain ⟨f2, i4⟩ := i3.flush (by omega)
  generalize hI2 : ovr ((g + 1) % 2) (secB (rootT (g + 1) b 2)) I1 = I2 at *
  rw [show (g + 1 + 1) % 2 = g % 2 by omega] at of2
  have hz : rootS (I1.getD ((g + 1) % 2) []) (((g + 1) % 2 : Nat) : Int) = (0, 0, 0, false) := by
    rw [of1, getD_of (by omega), List.getElem_replicate, rootS_zero]
  have hx : rootS (I2.getD ((g + 1 + 1) % 2) []) (((g + 1 + 1) % 2 : Nat) : Int) = ((g : Int), (a : Int), ((1 : Nat) : Int), true) := by
    rw [show (g + 1 + 1) % 2 = g % 2 by omega, of2, oh1]
  refine ⟨_, _, _, _, _, New_ok (by omega) (by omega), w1, f1, w2, f2, ?_, ?_, ?_, fun l => ?_⟩
  · exact best_at i4 (by omega) (by omega) (g + 1) _ _ oh2 hx rfl (.inr (by show ((g + 1 : Nat) : Int) > (g : Int); omega)) k (by omega)
  · exact best_at i3 (by omega) (by omega) (g + 1) _ _ oh2 hx rfl (.inr (by show ((g + 1 : Nat) : Int) > (g : Int); omega)) k (by omega)
  · exact best_at i2 (by omega) (by omega) g _ _ oh1 hz rfl (.inl rfl) k (by omega)
  · rw [Crash_eq (i3.fit (by omega)), lasting_right i3.right, hone, List.map_cons, List.map_nil, crash_one]
    have h6 := i3.img
    rw [hone, List.map_cons, List.map_nil] at h6
    rw [h6]
theorem pure : ∀ (a0 : Int) (a1 : Int) (a2 : Int) (a3 : Int) (l4 : List Bool), (Lit.int .u8 a0).wf = true → (Lit.int .u32 a1).wf = true → (Lit.int .u16 a2).wf = true → (Lit.int .u16 a3).wf = true → ((∀ yy ∈ l4, True) ∧ l4.length ≤ maxLen) → ∃ k, F.weirkeeperlaw07_RootSafe.f k a0 a1 a2 a3 l4 = some true := by
  intro a0 a1 a2 a3 l h0 h1 h2 h3 h4
  refine ⟨500, ?_⟩
  have b0 := wf_u8 h0
  have b1 := wf_u32 h1
  have b2 := wf_u16 h2
  have b3 := wf_u16 h3
  clear h0 h1 h2 h3 h4
  obtain ⟨a, rfl⟩ := Int.eq_ofNat_of_zero_le b2.1
  obtain ⟨b, rfl⟩ := Int.eq_ofNat_of_zero_le b3.1
  obtain ⟨q, rfl⟩ := Int.eq_ofNat_of_zero_le b0.1
  obtain ⟨y, rfl⟩ := Int.eq_ofNat_of_zero_le b1.1
  have e0 : wrap64 (2 + wrap64 (Int.tmod (q : Int) 90)) = ((2 + q % 90 : Nat) : Int) := by
    rw [Int.tmod_eq_emod_of_nonneg (by omega), wrap64_in (n := (q : Int) % 90) (by omega) (by omega), wrap64_in (by omega) (by omega)]
    omega
  have e1 : Int.tmod (wrap64 (y : Int)) 2147483647 = ((y % 2147483647 : Nat) : Int) := by
    clear e0
    rw [wrap64_in (by omega) (by omega), Int.tmod_eq_emod_of_nonneg (by omega)]
    omega
  have e2 : wrap64 (a : Int) = (a : Int) := by clear e0 e1; exact wrap64_in (by omega) (by omega)
  have e3 : wrap64 (b : Int) = (b : Int) := by clear e0 e1 e2; exact wrap64_in (by omega) (by omega)
  have hg : y % 2147483647 < 2147483647 := Nat.mod_lt _ (by decide)
  have hn : q % 90 < 90 := Nat.mod_lt _ (by decide)
  generalize y % 2147483647 = g at *
  generalize q % 90 = n at *
  have e4 : wrap64 ((g : Int) + 1) = ((g + 1 : Nat) : Int) := by clear e0 e1 e2 e3; rw [wrap64_in (by omega) (by omega)]; omega
  unfold weirkeeperlaw07_RootSafe.f
  rw [e0, e1, e2, e3, e4]
  clear e0 e1 e2 e3 e4
  by_cases c : (l.length : Int) > 10
  · rw [if_pos c, awake7At 500 (by omega)]
    rfl
  · rw [if_neg c]
    obtain ⟨S0, W1, S2, W2, S4, g1, g2, g3, g4, g5, g6, g7, g8, g9⟩ := facts (2 + n) g a b (by omega) (by omega) hg (by omega) (by omega) 500 (by omega)
    rw [g1, Option.bind_some]
    simp only
    rw [g2, Option.bind_some]
    simp only
    rw [g3, Option.bind_some]
    simp only
    rw [g4, Option.bind_some]
    simp only
    rw [g9, Option.bind_some]
    simp only
    have hne : (((g + 1 : Nat) : Int) == (g : Int)) = false := beq_eq_false_iff_ne.2 (by omega)
    by_cases d : l.getD 0 false = true
    · have hl : 0 < l.length := by
        cases l with
        | nil => exact absurd d (by decide)
        | cons x t => simp
      rw [if_pos d, g6, Option.bind_some, g5, Option.bind_some]
      simp only
      rw [g6, Option.bind_some, g7, Option.bind_some]
      simp only
      rw [if_pos, awake7At 500 (by omega)]
      · rfl
      · refine ⟨by trivial, by trivial, by trivial, by trivial, by trivial, by trivial, by simp, by simp, .inr (.inr (.inr (.inl ⟨by rw [hne]; rfl, by simp, by omega, d⟩)))⟩
    · rw [if_neg d, g8, Option.bind_some, g5, Option.bind_some]
      simp only
      rw [g6, Option.bind_some, g7, Option.bind_some]
      simp only
      rw [if_pos, awake7At 500 (by omega)]
      · rfl
      · refine ⟨by trivial, by trivial, by trivial, by trivial, by trivial, by trivial, by simp, by simp, ?_⟩
        by_cases z : (l.length : Int) = 0
        · exact .inl ⟨by simp, trivial, z, trivial⟩
        · exact .inr (.inl ⟨by simp, trivial, by omega, by have := d; rw [Bool.not_eq_true] at this; exact this⟩)
end Go.Proofs.Ythcohkgpbjcliaa.PlRootSafe
