/- The bytes of a list are how many there are, and those of its things, one by one. -/
import Derived.Test.YthidkdlmpkeogaaFlaw13FlatJoins
import Derived.Test.YthidkdlmpkeogaaPlAwake13
namespace Go.Proofs.Ythidkdlmpkeogaa.PlFlatJoins
open Go.RowKit Go.Proofs.Ythidkdlmpkeogaa.F Go.Proofs.YthidkdlmpkeogaaW.PrintWords Go.Proofs.YthidkdlmpkeogaaW.PrintLast Go.Proofs.YthidkdlmpkeogaaW.PrintMore Go.Proofs.Ythidkdlmpkeogaa.Pl
set_option linter.unusedVariables false
set_option linter.unusedSimpArgs false

/-- the bytes of those that may be -/
def those {α : Type} (may : α → Bool) (enc : α → List UInt8) (l : List α) : List UInt8 := l.flatMap fun x => if may x = true then enc x else []

theorem those_all {α : Type} (may : α → Bool) (enc : α → List UInt8) (l : List α) (h : ∀ x ∈ l, may x = true) : those may enc l = l.flatMap enc := by
  induction l with
  | nil => rfl
  | cons x l ih =>
    unfold those at *
    rw [List.flatMap_cons, List.flatMap_cons, ih fun y hy => h y (List.mem_cons_of_mem _ hy), if_pos (h x (List.mem_cons_self ..))]
theorem those_len {α : Type} (may : α → Bool) (enc : α → List UInt8) (henc : ∀ x, may x = true → (enc x).length ≤ 200) (l : List α) : (those may enc l).length ≤ 200 * l.length := by
  induction l with
  | nil => simp [those]
  | cons x l ih =>
    unfold those at *
    rw [List.flatMap_cons, List.length_append, List.length_cons]
    have : (if may x = true then enc x else []).length ≤ 200 := by
      by_cases h : may x = true
      · rw [if_pos h]; exact henc x h
      · rw [if_neg h]; simp
    omega

theorem one_tail {α : Type} (may : α → Bool) (enc : α → List UInt8) (x : α) : 0 ≤ mn 2 ((listR may enc [x]).1.size : Int) ∧ mn 2 ((listR may enc [x]).1.size : Int) ≤ ((listR may enc [x]).1.size : Int) ∧
    (listR may enc [x]).1.extract (mn 2 ((listR may enc [x]).1.size : Int)).toNat (listR may enc [x]).1.size = B (if may x = true then enc x else []) := by
  have hb : (be [x].length 2).length = 2 := be_length _ _
  by_cases h : may x = true
  · have e : listR may enc [x] = (B (be [x].length 2 ++ enc x), 0) := by
      unfold listR
      rw [if_pos ⟨by simp, by intro y hy; rw [List.mem_singleton] at hy; subst hy; exact h⟩]
      simp
    have m : mn 2 ((B (be [x].length 2 ++ enc x)).size : Int) = 2 := by
      rw [B_size, List.length_append, hb]
      unfold mn
      split <;> omega
    rw [e, if_pos h]
    simp only [m]
    refine ⟨by decide, ?_, ?_⟩
    · rw [B_size, List.length_append, hb]; omega
    · rw [show (2 : Int).toNat = 2 from rfl, B_extract_all, List.drop_append_of_le_length (by omega), List.drop_of_length_le (by omega), List.nil_append]
  · have e : listR may enc [x] = (B [], 1) := if_neg fun hh => h (hh.2 x (List.mem_singleton.2 rfl))
    rw [e, if_neg h]
    exact ⟨by decide, by decide, rfl⟩

theorem jloop {α : Type} {may : α → Bool} {enc : α → List UInt8} {L : Nat → ByteArray → Int → Option Bool} {F : Nat → α → Option (ByteArray × Int)} {En : Nat → ByteArray → Option Bool} {rd : List α → Int → α} (l : List α)
    (step : ∀ k s i, L (k + 1) s i = if i < (l.length : Int) then (if 0 ≤ i then (if i < (l.length : Int) then ((F k (rd l i)).bind fun b => (if 0 ≤ mn 2 (b.1.size : Int) then (if mn 2 (b.1.size : Int) ≤ (b.1.size : Int) then
      (if s.size + (b.1.extract (mn 2 (b.1.size : Int)).toNat b.1.size).size ≤ 9223372036854775807 then L k (s ++ b.1.extract (mn 2 (b.1.size : Int)).toNat b.1.size) (wrap64 (i + 1)) else none) else none) else none)) else none) else none) else En k s)
    (hrd : ∀ (l : List α) (i : Nat) (h : i < l.length), rd l (i : Int) = l[i]) (hF : ∀ k x, x ∈ l → 20 ≤ k → F k x = some (listR may enc [x]))
    (henc : ∀ x, may x = true → (enc x).length ≤ 200) (hn : l.length ≤ 30) (C : Nat) (d : Nat) :
    ∀ (k i : Nat) (s : List UInt8), i + d = l.length → d + 21 + C ≤ k → s.length + 200 * d ≤ 1000000000 → ∃ k', C ≤ k' ∧ L k (B s) (i : Int) = En k' (B (s ++ those may enc (l.drop i))) := by
  induction d with
  | zero =>
    intro k i s hi hk hs
    obtain ⟨k, rfl⟩ : ∃ m, k = m + 1 := ⟨k - 1, by omega⟩
    refine ⟨k, by omega, ?_⟩
    rw [step, if_neg (by omega), List.drop_of_length_le (by omega)]
    simp [those]
  | succ d ih =>
    intro k i s hi hk hs
    obtain ⟨k, rfl⟩ : ∃ m, k = m + 1 := ⟨k - 1, by omega⟩
    have w4 : wrap64 ((i : Int) + 1) = ((i + 1 : Nat) : Int) := by rw [wrap64_in (by omega) (by omega)]; omega
    have hlt : i < l.length := by omega
    obtain ⟨t1, t2, t3⟩ := one_tail may enc l[i]
    have hE : (if may l[i] = true then enc l[i] else []).length ≤ 200 := by
      by_cases h : may l[i] = true
      · rw [if_pos h]; exact henc _ h
      · rw [if_neg h]; simp
    obtain ⟨k', h1, h2⟩ := ih k (i + 1) (s ++ if may l[i] = true then enc l[i] else []) (by omega) (by omega) (by rw [List.length_append]; omega)
    refine ⟨k', h1, ?_⟩
    rw [step, if_pos (by omega), if_pos (by omega), if_pos (by omega), hrd l i hlt, hF k _ (List.getElem_mem hlt) (by omega), Option.bind_some, if_pos t1, if_pos t2, t3, if_pos (by rw [B_size, B_size]; omega), B_append, w4, h2]
    congr 2
    rw [List.drop_eq_getElem_cons hlt]
    unfold those
    rw [List.flatMap_cons, List.append_assoc]

theorem two (n : Nat) (h : n ≤ 30) : strOfNums [0, (n : Int) % 256] = B (be n 2) := by
  have e : ([0, (n : Int) % 256] : List Int) = (be n 2).map fun b => (b.toNat : Int) := by
    have h1 : n / 256 ^ 1 % 256 = 0 := by omega
    have h2 : n / 256 ^ 0 % 256 = n := by simp; omega
    simp only [be, List.map_cons, List.map_nil, h1, h2, UInt8.toNat_ofNat']
    congr 2
  rw [e, strOfNums_map]

theorem told {α : Type} (may : α → Bool) (enc : α → List UInt8) (l : List α) (hn : l.length ≤ 30) : ∃ r : ByteArray × Int, listR may enc l = r ∧ (r.2 = 0 ∧ r.1 = B (be l.length 2) ++ B (those may enc l) ∨ r.2 = 1) := by
  refine ⟨_, rfl, ?_⟩
  unfold listR
  by_cases h : ∀ x ∈ l, may x = true
  · rw [if_pos ⟨by omega, h⟩, those_all may enc l h, B_append]
    exact Or.inl ⟨rfl, rfl⟩
  · rw [if_neg fun hh => h hh.2]
    exact Or.inr rfl

theorem pure : ∀ (l0 : List F.S48) (l1 : List F.S50) (l2 : List F.S42), ((∀ yy ∈ l0, ((Lit.int .i64 yy.f0).wf = true ∧ yy.f1.size ≤ maxLen ∧ yy.f2.size ≤ maxLen ∧ (Lit.int .u64 yy.f3).wf = true)) ∧ l0.length ≤ maxLen) → ((∀ yy ∈ l1, (yy.f0.size ≤ maxLen ∧ yy.f1.size ≤ maxLen)) ∧ l1.length ≤ maxLen) → ((∀ yy ∈ l2, ((Lit.int .i64 yy.f0).wf = true ∧ yy.f1.size ≤ maxLen ∧ True ∧ yy.f3.size ≤ maxLen ∧ True ∧ yy.f5.size ≤ maxLen)) ∧ l2.length ≤ maxLen) → ∃ k, F.weirkeeperlaw13_FlatJoins.f k l0 l1 l2 = some true := by
  intro n p c hn _ _
  obtain ⟨K, hK⟩ := awake13_holds
  have fn : ∀ x ∈ n, nfine x := fun x hx => wf_u64 (hn.1 x hx).2.2.2
  refine ⟨K + 1000, ?_⟩
  obtain ⟨b, hb, hb'⟩ := fit_some n p c (K + 1000) (by omega)
  unfold weirkeeperlaw13_FlatJoins.f
  rw [hb, Option.bind_some]
  cases b with
  | false => rw [if_neg (by decide), hK _ (by omega)]; rfl
  | true =>
    obtain ⟨n30, p30, c30⟩ := hb' rfl
    rw [if_pos rfl, notes_eq n fn _ (by omega), pairs_eq p _ (by omega), changes_eq c _ (by omega), Option.bind_some, Option.bind_some, Option.bind_some]
    obtain ⟨A, eA, hA⟩ := told nright encN n n30
    obtain ⟨D, eD, hD⟩ := told pright encP p p30
    obtain ⟨G, eG, hG⟩ := told cmay encC c c30
    rw [eA, eD, eG]
    have tn := those_len nright encN encN_le n
    have tp := those_len pright encP encP_le p
    have tc := those_len cmay encC encC_le c
    obtain ⟨k1, g1, j1⟩ := jloop (may := nright) (enc := encN) (L := fun k s i => weirkeeperlaw13_FlatJoins.l0 k n p c A.1 A.2 D.1 D.2 G.1 G.2 s (B []) (B []) n (n.length : Int) i) (F := fun k x => flat_Notes.f k [x])
      (En := fun k s => weirkeeperlaw13_FlatJoins.l1 k n p c A.1 A.2 D.1 D.2 G.1 G.2 s (B []) (B []) p (p.length : Int) 0) (rd := rd_T48) n (fun _ _ _ => rfl) rdT
      (fun k x hx hk => notes_eq [x] (by intro y hy; rw [List.mem_singleton] at hy; subst hy; exact fn _ hx) k (by simp; omega)) encN_le n30 (K + 200) n.length (K + 1000) 0 [] (by omega) (by omega) (by simp; omega)
    obtain ⟨k2, g2, j2⟩ := jloop (may := pright) (enc := encP) (L := fun k s i => weirkeeperlaw13_FlatJoins.l1 k n p c A.1 A.2 D.1 D.2 G.1 G.2 (B (those nright encN n)) s (B []) p (p.length : Int) i) (F := fun k x => flat_Pairs.f k [x])
      (En := fun k s => weirkeeperlaw13_FlatJoins.l2 k n p c A.1 A.2 D.1 D.2 G.1 G.2 (B (those nright encN n)) s (B []) c (c.length : Int) 0) (rd := rd_T50) p (fun _ _ _ => rfl) rdP
      (fun k x hx hk => pairs_eq [x] k (by simp; omega)) encP_le p30 (K + 100) p.length k1 0 [] (by omega) (by omega) (by simp; omega)
    obtain ⟨k3, g3, j3⟩ := jloop (may := cmay) (enc := encC) (L := fun k s i => weirkeeperlaw13_FlatJoins.l2 k n p c A.1 A.2 D.1 D.2 G.1 G.2 (B (those nright encN n)) (B (those pright encP p)) s c (c.length : Int) i) (F := fun k x => flat_Changes.f k [x])
      (En := fun k s => weirkeeperlaw13_FlatJoins.l2 (k + 1) n p c A.1 A.2 D.1 D.2 G.1 G.2 (B (those nright encN n)) (B (those pright encP p)) s c 0 0) (rd := rd_T42) c (fun _ _ _ => by simp only [weirkeeperlaw13_FlatJoins.l2]; rfl) rdC
      (fun k x hx hk => changes_eq [x] k (by simp; omega)) encC_le c30 K c.length k2 0 [] (by omega) (by omega) (by simp; omega)
    simp only [List.nil_append, List.drop_zero] at j1 j2 j3
    refine j1.trans (j2.trans (j3.trans ?_))
    clear j1 j2 j3
    simp only [weirkeeperlaw13_FlatJoins.l2, Option.bind_some, two n.length n30, two p.length p30, two c.length c30, hK k3 g3]
    rw [if_neg (by decide)]
    have s1 : (B (be n.length 2)).size + (B (those nright encN n)).size ≤ 9223372036854775807 := by rw [B_size, B_size, be_length]; omega
    have s2 : (B (be p.length 2)).size + (B (those pright encP p)).size ≤ 9223372036854775807 := by rw [B_size, B_size, be_length]; omega
    have s3 : (B (be c.length 2)).size + (B (those cmay encC c)).size ≤ 9223372036854775807 := by rw [B_size, B_size, be_length]; omega
    have one : ¬((1 : Int) = 0) := by decide
    rcases hA with ⟨a1, a2⟩ | a1 <;> rcases hD with ⟨d1, d2⟩ | d1 <;> rcases hG with ⟨q1, q2⟩ | q1 <;> simp only [*, if_true, if_false]
end Go.Proofs.Ythidkdlmpkeogaa.PlFlatJoins
