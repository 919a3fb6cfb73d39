/- Numbers that are added, in any order, to what is no number are their sum. -/
import Derived.Test.YtgccimhdbphenaaFlaw09NoteAdds
import Derived.Test.YtgccimhdbphenaaPlAwake09
namespace Go.Proofs.Ytgccimhdbphenaa.PlNoteAdds
open Go.RowKit Go.Proofs.Ytgccimhdbphenaa.F Go.Proofs.YtgccimhdbphenaaW.PrintWords Go.Proofs.YtgccimhdbphenaaW.PrintLast Go.Proofs.YtgccimhdbphenaaW.PrintMore Go.Proofs.Ytgccimhdbphenaa.Pl
set_option linter.unusedVariables false
set_option linter.unusedSimpArgs false

/-- a sum -/
def S (f : Nat → Nat) : Nat → Nat
  | 0 => 0
  | n + 1 => S f n + f n
theorem S_congr (f g : Nat → Nat) (n : Nat) (h : ∀ i, i < n → f i = g i) : S f n = S g n := by
  induction n with
  | zero => rfl
  | succ n ih => rw [S, S, ih fun i hi => h i (by omega), h n (by omega)]
theorem S_head (f : Nat → Nat) (n : Nat) : S f (n + 1) = f 0 + S (fun i => f (i + 1)) n := by
  induction n with
  | zero => simp [S]
  | succ n ih =>
    rw [S, ih, S]
    omega
theorem S_rev (f : Nat → Nat) (n : Nat) : S (fun i => f (n - 1 - i)) n = S f n := by
  induction n generalizing f with
  | zero => rfl
  | succ n ih =>
    rw [S_head, S, ← ih f]
    have e : S (fun i => f (n + 1 - 1 - (i + 1))) n = S (fun i => f (n - 1 - i)) n := S_congr _ _ _ fun i hi => by congr 1; omega
    rw [e]
    have e0 : n + 1 - 1 - 0 = n := by omega
    rw [e0]
    omega
/-- each once, in the order in which the statement takes them -/
theorem S_turn (f : Nat → Nat) (n c : Nat) (hn : 0 < n) : S (fun i => f ((n - i + c) % n)) n = S f n := by
  induction c with
  | zero =>
    obtain ⟨m, rfl⟩ : ∃ m, n = m + 1 := ⟨n - 1, by omega⟩
    rw [S_head, ← S_rev f (m + 1), S]
    have e0 : (m + 1 - 0 + 0) % (m + 1) = 0 := by simp
    have e1 : m + 1 - 1 - m = 0 := by omega
    rw [e0, e1]
    have e : S (fun i => f ((m + 1 - (i + 1) + 0) % (m + 1))) m = S (fun i => f (m + 1 - 1 - i)) m := S_congr _ _ _ fun i hi => by
      congr 1
      rw [Nat.mod_eq_of_lt (by omega)]
      omega
    rw [e]
    omega
  | succ c ih =>
    obtain ⟨m, rfl⟩ : ∃ m, n = m + 1 := ⟨n - 1, by omega⟩
    rw [← ih, S_head, S]
    have e0 : (m + 1 - 0 + (c + 1)) % (m + 1) = (m + 1 - m + c) % (m + 1) := by
      rw [show m + 1 - 0 + (c + 1) = (m + 1 - m + c) + (m + 1) by omega, Nat.add_mod_right]
    have e : S (fun i => f ((m + 1 - (i + 1) + (c + 1)) % (m + 1))) m = S (fun i => f ((m + 1 - i + c) % (m + 1))) m := S_congr _ _ _ fun i hi => by
      rw [show m + 1 - (i + 1) + (c + 1) = m + 1 - i + c by omega]
    rw [e0, e]
    omega

/-- an Add -/
def N (g : Nat) : Note := ⟨3, B [], B [], (g : Int)⟩
def adds (g : Nat → Nat) (m : Nat) : List Note := (List.range m).map fun j => N (g j)
theorem adds_succ (g : Nat → Nat) (m : Nat) : adds g (m + 1) = adds g m ++ [N (g m)] := by simp [adds, List.range_succ]
theorem adds_length (g : Nat → Nat) (m : Nat) : (adds g m).length = m := by simp [adds]
theorem adds_fine (g : Nat → Nat) (m : Nat) (h : ∀ j, j < m → g j < 18446744073709551616) : ∀ n ∈ adds g m, nfine n := by
  intro n hn
  simp only [adds, List.mem_map, List.mem_range] at hn
  obtain ⟨j, hj, rfl⟩ := hn
  have := h j hj
  simp only [nfine, N]
  omega
theorem step_N (s : ByteArray × Bool) (g : Nat) : nstep s (N g) = (num8 ((number s.1 + g) % 18446744073709551616), true) := by
  simp [nstep, N]
theorem adds_number (s : ByteArray × Bool) (g : Nat → Nat) (m : Nat) : number ((adds g m).foldl nstep s).1 = (number s.1 + S g m) % 18446744073709551616 := by
  induction m with
  | zero =>
    have := number_lt s.1
    simp only [adds, S, List.range_zero, List.map_nil, List.foldl_nil]
    omega
  | succ m ih =>
    rw [adds_succ, List.foldl_append, List.foldl_cons, List.foldl_nil, step_N, ih, S]
    simp only [number_num8]
    omega
theorem adds_is (s : ByteArray × Bool) (g : Nat → Nat) (m : Nat) (hm : 0 < m) : (adds g m).foldl nstep s = (num8 ((number s.1 + S g m) % 18446744073709551616), true) := by
  obtain ⟨m, rfl⟩ : ∃ k, m = k + 1 := ⟨m - 1, by omega⟩
  rw [adds_succ, List.foldl_append, List.foldl_cons, List.foldl_nil, step_N, adds_number, S]
  congr 2
  omega

theorem loop (v : ByteArray) (has : Bool) (l : List Int) (hl : ∀ y ∈ l, 0 ≤ y ∧ y < 18446744073709551616) (h0 : 0 < l.length) (h60 : l.length ≤ 60) (by_ : Nat) (hby : by_ < 256) (K : Nat) (hK : ∀ k, K ≤ k → weirkeeperlaw09_awake.f k = some true)
    (g : Nat → Nat) (hg : ∀ (j : Nat) (h : j < l.length), l[j] = ((g j : Nat) : Int)) (s0 : Nat) (hs0 : s0 = number (if has = true then v else B [])) (d : Nat) : ∀ (k i : Nat), i + d = l.length → K + 100 + d ≤ k →
    weirkeeperlaw09_NoteAdds.l0 k v has l (by_ : Int) (adds g i) (adds (fun j => g ((l.length - j + by_) % l.length)) i) (((s0 + S g i) % 18446744073709551616 : Nat) : Int) l (l.length : Int) (i : Int) = some true := by
  have gl : ∀ j, j < l.length → g j < 18446744073709551616 := fun j hj => by
    have h1 := hl _ (List.getElem_mem hj)
    rw [hg j hj] at h1
    omega
  induction d with
  | zero =>
    intro k i hi hk
    obtain ⟨k, rfl⟩ : ∃ m, k = m + 1 := ⟨k - 1, by omega⟩
    have e : i = l.length := by omega
    subst e
    simp only [weirkeeperlaw09_NoteAdds.l0]
    have d1 := done_eq v has (adds g l.length) (adds_fine _ _ gl) (by rw [adds_length]; omega) k (by rw [adds_length]; omega)
    have d2 := done_eq v has (adds (fun j => g ((l.length - j + by_) % l.length)) l.length) (adds_fine _ _ fun j hj => gl _ (Nat.mod_lt _ h0)) (by rw [adds_length]; omega) k (by rw [adds_length]; omega)
    unfold done at d1 d2
    rw [adds_is _ _ _ h0] at d1 d2
    rw [S_turn g l.length by_ h0] at d2
    simp only [← hs0] at d1 d2
    have d3 := done_eq (num8 ((s0 + S g l.length) % 18446744073709551616)) true [⟨2, B [], B [], 0⟩] (by intro n hn; rw [List.mem_singleton] at hn; subst hn; exact ⟨by decide, by show (0 : Int) < 18446744073709551616; decide⟩) (by simp) k (by simp; omega)
    have v3 : done (num8 ((s0 + S g l.length) % 18446744073709551616)) true [⟨2, B [], B [], 0⟩] = (B [], false) := by simp [done, nstep]
    rw [v3] at d3
    rw [if_neg (by omega), d1, Option.bind_some, d2, Option.bind_some]
    change (note_Done.f k (num8 ((s0 + S g l.length) % 18446744073709551616)) true [⟨2, B [], B [], 0⟩]).bind _ = _
    rw [d3, Option.bind_some]
    simp only
    rw [if_pos trivial, if_pos trivial, if_pos trivial, num8_size, if_pos (by decide), number_eq _ k (by omega), Option.bind_some, number_num8, Nat.mod_mod, if_pos rfl, if_neg (by decide), hK k (by omega)]
    rfl
  | succ d ih =>
    intro k i hi hk
    obtain ⟨k, rfl⟩ : ∃ m, k = m + 1 := ⟨k - 1, by omega⟩
    have hlt : i < l.length := by omega
    have w4 : wrap64 ((i : Int) + 1) = ((i + 1 : Nat) : Int) := by rw [wrap64_in (by omega) (by omega)]; omega
    have ix : Int.tmod (wrap64 (wrap64 ((l.length : Int) - (i : Int)) + wrap64 (by_ : Int))) (l.length : Int) = (((l.length - i + by_) % l.length : Nat) : Int) := by
      rw [wrap64_in (n := (l.length : Int) - (i : Int)) (by omega) (by omega), wrap64_in (n := (by_ : Int)) (by omega) (by omega), wrap64_in (by omega) (by omega), Int.tmod_eq_emod_of_nonneg (by omega), Int.natCast_emod]
      congr 1
      omega
    have hm : (l.length - i + by_) % l.length < l.length := Nat.mod_lt _ h0
    have r1 : rd l (i : Int) = ((g i : Nat) : Int) := by
      rw [← hg i hlt]
      simp [rd, hlt]
    have r2 : rd l (((l.length - i + by_) % l.length : Nat) : Int) = ((g ((l.length - i + by_) % l.length) : Nat) : Int) := by
      rw [← hg _ hm]
      unfold rd
      rw [Int.toNat_natCast, List.getD_eq_getElem?_getD, List.getElem?_eq_getElem hm, Option.getD_some]
    have e1 : IntKind.u64.wrap ((((s0 + S g i) % 18446744073709551616 : Nat) : Int) + ((g i : Nat) : Int)) = (((s0 + S g (i + 1)) % 18446744073709551616 : Nat) : Int) := by
      rw [u64_wrap, S]
      omega
    have ft := ih k (i + 1) (by omega) (by omega)
    rw [adds_succ, adds_succ] at ft
    simp only [weirkeeperlaw09_NoteAdds.l0]
    rw [if_pos (by omega), if_pos (by omega), if_pos (by omega), if_pos (by rw [adds_length]; omega), if_neg (by omega), ix, if_pos (by omega), if_pos (by omega), if_pos (by rw [adds_length]; omega), r1, r2, e1, w4]
    exact ft

theorem pure : ∀ (a0 : ByteArray) (a1 : Bool) (l2 : List Int) (a3 : Int), a0.size ≤ 140737488351232 → ((∀ yy ∈ l2, (Lit.int .u64 yy).wf = true) ∧ l2.length ≤ maxLen) → (Lit.int .u8 a3).wf = true → ∃ k, F.weirkeeperlaw09_NoteAdds.f k a0 a1 l2 a3 = some true := by
  intro v has l b _ hl hb
  obtain ⟨K, hK⟩ := awake09_holds
  obtain ⟨b0, b1⟩ := wf_u8 hb
  obtain ⟨c, rfl⟩ := Int.eq_ofNat_of_zero_le b0
  have fl : ∀ y ∈ l, 0 ≤ y ∧ y < 18446744073709551616 := fun y hy => wf_u64 (hl.1 y hy)
  refine ⟨K + 300, ?_⟩
  have hj : ∀ x, weirkeeperlaw09_NoteAdds.j0 (K + 300) v has l (c : Int) true = x → x = some true := by
    intro x hx
    rw [← hx]
    simp only [weirkeeperlaw09_NoteAdds.j0]
    rw [if_pos trivial, hK (K + 299) (by omega)]
    rfl
  unfold weirkeeperlaw09_NoteAdds.f
  by_cases c1 : (v.size : Int) > 300
  · rw [if_pos c1]; exact hj _ rfl
  rw [if_neg c1]
  by_cases c2 : (l.length : Int) > 60
  · rw [if_pos c2]; exact hj _ rfl
  rw [if_neg c2]
  by_cases c3 : (l.length : Int) = 0
  · rw [show ((l.length : Int) == 0) = true from beq_iff_eq.2 c3]; exact hj _ rfl
  rw [show ((l.length : Int) == 0) = false from beq_eq_false_iff_ne.2 c3]
  clear hj
  simp only [weirkeeperlaw09_NoteAdds.j0, weirkeeperlaw09_NoteAdds.j1]
  rw [if_neg (by decide)]
  have hg : ∀ (j : Nat) (h : j < l.length), l[j] = (((fun j => (l[j]?.getD 0).toNat) j : Nat) : Int) := by
    intro j h
    have h1 := fl _ (List.getElem_mem h)
    simp only [List.getElem?_eq_getElem h, Option.getD_some]
    omega
  have lo := fun s0 hs => loop v has l fl (by omega) (by omega) c (by omega) K hK (fun j => (l[j]?.getD 0).toNat) hg s0 hs l.length (K + 298) 0 (by omega) (by omega)
  rw [show ((0 : Nat) : Int) = 0 from rfl] at lo
  cases has with
  | true =>
    rw [if_pos rfl, number_eq v _ (by omega), Option.bind_some]
    have h := lo (number v) rfl
    simpa [S, adds, Nat.mod_eq_of_lt (number_lt v)] using h
  | false =>
    rw [if_neg (by decide)]
    have h := lo 0 number_nil.symm
    simpa [S, adds] using h
end Go.Proofs.Ytgccimhdbphenaa.PlNoteAdds
