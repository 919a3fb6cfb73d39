/- Of roots of Gens that go on, one behind the other, each flushed or not, the last one is the best, and the one ahead is still there, if any. -/
import Derived.Test.YthcohkgpbjcliaaFlaw07RootGoes
import Derived.Test.YthcohkgpbjcliaaPlRoot
import Derived.Test.YthcohkgpbjcliaaPlAwake07
namespace Go.Proofs.Ythcohkgpbjcliaa.PlRootGoes
open Go.RowKit Go.Proofs.Ythcohkgpbjcliaa.F Go.Proofs.YthcohkgpbjcliaaW.PrintWords Go.Proofs.YthcohkgpbjcliaaW.PrintLast Go.Proofs.YthcohkgpbjcliaaW.PrintMore Go.Proofs.Ythcohkgpbjcliaa.Pl
set_option linter.unusedVariables false
set_option linter.unusedSimpArgs false
abbrev Rt := Int × Int × Int × Bool
/-- what the two places tell: the last root, and the one ahead -/
structure Two (g i : Nat) (S : List ByteArray) (W : List Wr) (I : List (List UInt8)) (x y : Rt) : Prop where
  img : Img i S W I
  len : S.length = 4
  here : rootS (I.getD ((g + i + 1) % 2) []) (((g + i + 1) % 2 : Nat) : Int) = x
  there : rootS (I.getD ((g + i) % 2) []) (((g + i) % 2 : Nat) : Int) = y
theorem getD_of {I : List (List UInt8)} {i : Nat} (h : i < I.length) : I.getD i [] = I[i] := by rw [List.getD_eq_getElem?_getD, List.getElem?_eq_getElem h]; rfl
theorem Two.reads {g i : Nat} {S : List ByteArray} {W : List Wr} {I : List (List UInt8)} {x y : Rt} (h : Two g i S W I x y) (hi : i ≤ 1000) :
    root_Read.f S W (((g + i + 1) % 2 : Nat) : Int) = some x ∧ root_Read.f S W (((g + i) % 2 : Nat) : Int) = some y := by
  have hl := h.img.len
  have h4 := h.len
  have l1 : (g + i + 1) % 2 < I.length := by omega
  have l2 : (g + i) % 2 < I.length := by omega
  refine ⟨?_, ?_⟩
  · rw [h.img.rread (by omega) _ l1, ← getD_of l1, h.here]
  · rw [h.img.rread (by omega) _ l2, ← getD_of l2, h.there]
theorem Two.best {g i : Nat} {S : List ByteArray} {W : List Wr} {I : List (List UInt8)} {x y : Rt} (h : Two g i S W I x y) (hi : i ≤ 1000) (hx : x.2.2.2 = true) (hy : y.2.2.2 = false ∨ x.1 > y.1) (k : Nat) (hk : 1 ≤ k) : root_Best.f k S W = some (x.1, x.2.1, x.2.2.1, 0) := by
  obtain ⟨r1, r2⟩ := h.reads hi
  rcases Nat.mod_two_eq_zero_or_one (g + i) with e | e
  · rw [show (g + i + 1) % 2 = 1 by omega] at r1
    rw [e] at r2
    rw [best_eq S W y x r2 r1 k hk, bestR]
    rw [if_neg (fun hh => by
      rcases hy with hy | hy
      · rw [hy] at hh; exact absurd hh.1 (by decide)
      · rcases hh.2 with h2 | h2
        · rw [hx] at h2; exact absurd h2 (by decide)
        · omega), if_pos hx]
  · rw [show (g + i + 1) % 2 = 0 by omega] at r1
    rw [e] at r2
    rw [best_eq S W x y r1 r2 k hk, bestR, if_pos ⟨hx, hy⟩]
/-- one more root -/
theorem Two.next {g i : Nat} {S : List ByteArray} {W : List Wr} {I : List (List UInt8)} {x y : Rt} (h : Two g i S W I x y) (hi : i ≤ 100) (hg : g < 65536) (a : Nat) (ha : a < 65536) (k : Nat) (hk : 30 ≤ k) :
    ∃ W2 I2, root_Write.f k S W ((g + i : Nat) : Int) (a : Int) (i : Int) = some (S, W2, 0) ∧ Two g (i + 1) S W2 I2 (((g + i : Nat) : Int), (a : Int), (i : Int), true) x := by
  have hl := h.img.len
  have h4 := h.len
  obtain ⟨w1, i1⟩ := h.img.rwrite (by omega) (g + i) a i (by omega) (by omega) (by omega) (by omega) k hk
  have hsl := secB_length (rootT (g + i) a i)
  rw [needB_root] at hsl
  refine ⟨_, _, w1, i1, h4, ?_, ?_⟩
  · have hl1 := i1.len
    rw [show g + (i + 1) + 1 = g + i + 2 by omega, show (g + i + 2) % 2 = (g + i) % 2 by omega]
    have l2 : (g + i) % 2 < (ovr ((g + i) % 2) (secB (rootT (g + i) a i)) I).length := by omega
    rw [getD_of l2]
    have h3 := flatten_one (ovr ((g + i) % 2) (secB (rootT (g + i) a i)) I) ((g + i) % 2) l2
    have h5 := ovr_mid ((g + i) % 2) (secB (rootT (g + i) a i)) I (by omega)
    rw [hsl] at h5
    rw [← h3, h5, rootS_back (g + i) a i (by omega) (by omega) (by omega)]
  · rw [show g + (i + 1) = g + i + 1 by omega]
    have hl1 := i1.len
    have l2 : (g + i + 1) % 2 < (ovr ((g + i) % 2) (secB (rootT (g + i) a i)) I).length := by omega
    have l1 : (g + i + 1) % 2 < I.length := by omega
    have hf := ovr_far ((g + i) % 2) (secB (rootT (g + i) a i)) I (by omega) ((g + i + 1) % 2) 1 (by omega) (by omega)
    have h3 := flatten_one (ovr ((g + i) % 2) (secB (rootT (g + i) a i)) I) ((g + i + 1) % 2) l2
    have h5 := flatten_one I ((g + i + 1) % 2) l1
    rw [getD_of l2, ← h3, hf, h5, ← getD_of l1, h.here]
theorem Two.flush {g i : Nat} {S : List ByteArray} {W : List Wr} {I : List (List UInt8)} {x y : Rt} (h : Two g i S W I x y) (hi : i ≤ 1000) : disk_Flush.f S W = some (I.map B, []) ∧ Two g i (I.map B) [] I x y := by
  obtain ⟨f1, f2⟩ := h.img.flush (by omega)
  exact ⟨f1, ⟨Nat.zero_le _, f2.right, f2.img⟩, by rw [List.length_map, h.img.len, h.len], h.here, h.there⟩
theorem loop (g : Nat) (hg : g < 65536) (l : List Int) (hl : l.length ≤ 30) (hb : ∀ y ∈ l, 0 ≤ y ∧ y < 65536) (x2 : Int) : ∀ (rest : List Int) (i k : Nat) (S : List ByteArray) (W : List Wr) (I : List (List UInt8)) (x y : Rt), i + rest.length = l.length → l.drop i = rest → 200 + rest.length ≤ k → Two g i S W I x y →
    (i = 0 → x = (0, 0, 0, false) ∧ y = (0, 0, 0, false)) → (0 < i → x.1 = ((g + i - 1 : Nat) : Int) ∧ x.2.2.2 = true) → (i = 1 → y = (0, 0, 0, false)) → (1 < i → y.2.2.2 = true) → 0 < l.length →
    weirkeeperlaw07_RootGoes.l0 k (g : Int) l x2 0 l (l.length : Int) (i : Int) S W x.1 x.2.1 x.2.2.1 y.1 y.2.1 y.2.2.1 = some true
  | [], i, k, S, W, I, x, y, hi, hd, hk, hT, h0, h1, h2, h3, hpos => by
    obtain ⟨k, rfl⟩ : ∃ j, k = j + 1 := ⟨k - 1, by omega⟩
    rw [List.length_nil] at hi
    obtain ⟨r1, r2⟩ := hT.reads (by omega)
    obtain ⟨hx1, hx2⟩ := h1 (by omega)
    have e1 : Int.tmod (wrap64 (x.1 + 1)) 2 = (((g + i) % 2 : Nat) : Int) := by
      rw [hx1, wrap64_in (by omega) (by omega), show (((g + i - 1 : Nat) : Int) + 1) = ((g + i : Nat) : Int) by omega, tmod2]
    have hy : y.2.2.2 = decide ((l.length : Int) > 1) := by
      by_cases c : i = 1
      · rw [h2 c, decide_eq_false (by omega)]
      · rw [h3 (by omega), decide_eq_true (by omega)]
    rw [weirkeeperlaw07_RootGoes.l0, if_neg (by omega), e1, r2, Option.bind_some, if_pos rfl, if_pos (by rw [hy]; simp), if_pos (by simp), awake7At k (by omega)]
    rfl
  | n :: rest, i, k, S, W, I, x, y, hi, hd, hk, hT, h0, h1, h2, h3, hpos => by
    rw [List.length_cons] at hi hk
    obtain ⟨k, rfl⟩ : ∃ j, k = j + 1 := ⟨k - 1, by omega⟩
    have hlt : i < l.length := by omega
    have hn : l[i] = n := by
      have := List.drop_eq_getElem_cons hlt
      rw [hd] at this
      exact (List.cons.inj this).1.symm
    have hrd : rd l (i : Int) = n := by
      rw [← hn]
      simp [rd, hlt]
    obtain ⟨n0, n1⟩ := hb n (by rw [← hn]; exact List.getElem_mem hlt)
    obtain ⟨a, rfl⟩ := Int.eq_ofNat_of_zero_le n0
    obtain ⟨W2, I2, hw, hT2⟩ := hT.next (by omega) hg a (by omega) k (by omega)
    have e1 : wrap64 (wrap64 (g : Int) + (i : Int)) = ((g + i : Nat) : Int) := by
      rw [wrap64_in (n := (g : Int)) (by omega) (by omega), wrap64_in (by omega) (by omega)]
      omega
    have e2 : wrap64 (a : Int) = (a : Int) := by clear e1; exact wrap64_in (by omega) (by omega)
    have e3 : wrap64 ((i : Int) + 1) = ((i + 1 : Nat) : Int) := by clear e1 e2; rw [wrap64_in (by omega) (by omega)]; omega
    have hxy : x.2.2.2 = false ∨ ((g + i : Nat) : Int) > x.1 := by
      clear e1 e2 e3
      rcases Nat.eq_zero_or_pos i with c | c
      · rw [(h0 c).1]; exact .inl rfl
      · exact .inr (by rw [(h1 c).1]; omega)
    have hd2 : l.drop (i + 1) = rest := by
      have := List.drop_eq_getElem_cons hlt
      rw [hd] at this
      exact (List.cons.inj this).2.symm
    rw [weirkeeperlaw07_RootGoes.l0, hrd, e1, e2, e3]
    clear e1 e2 e3
    rw [if_pos (by omega), if_pos (by omega), if_pos (by omega), hw, Option.bind_some]
    simp only
    rw [if_pos trivial]
    have hnext : ∀ (S3 : List ByteArray) (W3 : List Wr), (∃ I3, Two g (i + 1) S3 W3 I3 (((g + i : Nat) : Int), (a : Int), (i : Int), true) x) → weirkeeperlaw07_RootGoes.l0 k (g : Int) l x2 0 l (l.length : Int) ((i + 1 : Nat) : Int) S3 W3 ((g + i : Nat) : Int) (a : Int) (i : Int) x.1 x.2.1 x.2.2.1 = some true := fun S3 W3 ⟨I3, h⟩ =>
      loop g hg l hl hb x2 rest (i + 1) k S3 W3 I3 (((g + i : Nat) : Int), (a : Int), (i : Int), true) x (by omega) hd2 (by omega) h (by omega) (fun _ => ⟨by show ((g + i : Nat) : Int) = _; omega, rfl⟩) (fun h => (h0 (by omega)).1) (fun h => (h1 (by omega)).2) hpos
    split
    · obtain ⟨f1, f2⟩ := hT2.flush (by omega)
      rw [f1, Option.bind_some]
      simp only
      rw [f2.best (by omega) rfl hxy k (by omega), Option.bind_some]
      simp only
      rw [if_pos trivial, if_neg (by simp)]
      exact hnext _ _ ⟨_, f2⟩
    · rw [hT2.best (by omega) rfl hxy k (by omega), Option.bind_some]
      simp only
      rw [if_pos trivial, if_neg (by simp)]
      exact hnext _ _ ⟨_, hT2⟩
theorem pure : ∀ (a0 : Int) (l1 : List Int) (a2 : Int), (Lit.int .u16 a0).wf = true → ((∀ yy ∈ l1, (Lit.int .u16 yy).wf = true) ∧ l1.length ≤ maxLen) → (Lit.int .u32 a2).wf = true → ∃ k, F.weirkeeperlaw07_RootGoes.f k a0 l1 a2 = some true := by
  intro a0 l a2 h0 h1 h2
  refine ⟨500, ?_⟩
  have hj : ∀ l, weirkeeperlaw07_RootGoes.j0 500 a0 l a2 true = some true := fun l => by
    rw [weirkeeperlaw07_RootGoes.j0, if_pos rfl, awake7At _ (by omega)]
    rfl
  have b0 := wf_u16 h0
  obtain ⟨g, rfl⟩ := Int.eq_ofNat_of_zero_le b0.1
  unfold weirkeeperlaw07_RootGoes.f
  by_cases c1 : (l.length : Int) > 30
  · rw [if_pos c1, hj]
  · rw [if_neg c1]
    by_cases c2 : (l.length : Int) = 0
    · rw [show ((l.length : Int) == 0) = true from beq_iff_eq.2 c2, hj]
    · rw [show ((l.length : Int) == 0) = false from beq_eq_false_iff_ne.2 c2, weirkeeperlaw07_RootGoes.j0, if_neg (by decide), New_ok (by omega) (by omega), Option.bind_some]
      have hI := Img.newN 4 (by omega) (by omega)
      have hz : ∀ i : Nat, i < 4 → rootS ((List.replicate 4 (List.replicate 32 (0 : UInt8))).getD i []) (i : Int) = (0, 0, 0, false) := fun i hi => by
        rw [getD_of (by rw [List.length_replicate]; exact hi), List.getElem_replicate, rootS_zero]
      exact loop g (by omega) l (by omega) (fun y hy => wf_u16 (h1.1 y hy)) a2 l 0 499 _ _ _ (0, 0, 0, false) (0, 0, 0, false) (by omega) rfl (by omega) ⟨hI, by simp, hz _ (by omega), hz _ (by omega)⟩ (fun _ => ⟨rfl, rfl⟩) (by omega) (by omega) (by omega) (by omega)
end Go.Proofs.Ythcohkgpbjcliaa.PlRootGoes
