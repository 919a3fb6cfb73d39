/- What the document's answer for the records that stand in pieces comes to: what journal.Parse tells. -/
import Derived.Test.YtpkapldkmleppaaFref08x1
import Derived.Test.YtpkapldkmleppaaPlRef08A
import Derived.Test.YtpkapldkmleppaaPlJourB
namespace Go.Proofs.Ytpkapldkmleppaa.Pl
open Go.RowKit Go.Proofs.Ytpkapldkmleppaa.F Go.Proofs.YtpkapldkmleppaaW.PrintWords Go.Proofs.YtpkapldkmleppaaW.PrintLast Go.Proofs.YtpkapldkmleppaaW.PrintMore
set_option linter.unusedVariables false
set_option linter.unusedSimpArgs false
/-- the texts of sectors, and the record that begins at a place -/
def txts (l : List (List UInt8)) : List UInt8 := l.flatMap (·.drop 8)
theorem txts_append (a b : List (List UInt8)) : txts (a ++ b) = txts a ++ txts b := by simp [txts]
theorem txts_length : ∀ (l : List (List UInt8)), (∀ s ∈ l, s.length = 32) → (txts l).length = 24 * l.length
  | [], _ => rfl
  | s :: l, h => by
    have := txts_length l (fun x hx => h x (List.mem_cons_of_mem _ hx))
    have hs := h s List.mem_cons_self
    show (s.drop 8 ++ txts l).length = _
    rw [List.length_append, this, List.length_drop, List.length_cons]
    omega
def nextL (gen a : Nat) (l : List (List UInt8)) : Option (List UInt8) :=
  if (l.getD a []).length = 32 ∧ lenL (l.getD a []) ≤ 1000 ∧ a + needL (lenL (l.getD a [])) ≤ l.length ∧ (∀ s ∈ (l.drop a).take (needL (lenL (l.getD a []))), s.length = 32) ∧
      recL gen a ((txts ((l.drop a).take (needL (lenL (l.getD a []))))).take (lenL (l.getD a []))) = (l.drop a).take (needL (lenL (l.getD a [])))
    then some ((txts ((l.drop a).take (needL (lenL (l.getD a []))))).take (lenL (l.getD a []))) else none
def nextR (gen a : Nat) (l : List (List UInt8)) : ByteArray × Int := match nextL gen a l with
  | some t => (B t, ((a + needL t.length : Nat) : Int))
  | none => (B [], -1)
theorem next_l1 (a : Nat) (l p : List (List UInt8)) (T : List UInt8) (n : Nat) (hp : p.length = n) (hl : a + n ≤ l.length) (h128 : l.length ≤ 128) : ∀ (d i k : Nat), i + d = n → d < k →
    weirkeeperref08_next.l1 k (a : Int) (l.map B) (n : Int) (B T) (p.map B) (i : Int) = some (if p.drop i = ((l.drop a).take n).drop i then (B T, ((a + n : Nat) : Int)) else (B [], -1))
  | 0, i, k, hi, hk => by
    obtain ⟨k, rfl⟩ : ∃ j, k = j + 1 := ⟨k - 1, by omega⟩
    rw [weirkeeperref08_next.l1, if_neg (by omega), List.drop_of_length_le (by omega), List.drop_of_length_le (by rw [List.length_take]; omega), if_pos rfl, wrap64_in (by omega) (by omega)]
    rfl
  | d + 1, i, k, hi, hk => by
    obtain ⟨k, rfl⟩ : ∃ j, k = j + 1 := ⟨k - 1, by omega⟩
    have h1 : i < p.length := by omega
    have h2 : a + i < l.length := by omega
    have h3 : i < ((l.drop a).take n).length := by rw [List.length_take, List.length_drop]; omega
    have e1 : wrap64 ((a : Int) + (i : Int)) = ((a + i : Nat) : Int) := by rw [wrap64_in (by omega) (by omega)]; omega
    have e3 : wrap64 ((i : Int) + 1) = ((i + 1 : Nat) : Int) := by clear e1; rw [wrap64_in (by omega) (by omega)]; omega
    rw [weirkeeperref08_next.l1, e1, e3]
    clear e1 e3
    have hg : ((l.drop a).take n)[i] = l[a + i] := by rw [List.getElem_take, List.getElem_drop]
    rw [if_pos (by omega), if_pos (by omega), if_pos (by rw [List.length_map]; omega), if_pos (by omega), if_pos (by rw [List.length_map]; omega), rdOf_B p i h1, rdOf_B l (a + i) h2, B_toList, B_toList, List.drop_eq_getElem_cons h1, List.drop_eq_getElem_cons h3, hg]
    by_cases c : p[i] = l[a + i]
    · rw [if_pos c, next_l1 a l p T n hp hl h128 d (i + 1) k (by omega) (by omega)]
      simp only [List.cons.injEq, c, true_and]
    · rw [if_neg c]
      simp only [List.cons.injEq, c, false_and, if_false]
      rfl
theorem next_l0 (gen a : Nat) (hg : 1 ≤ gen ∧ gen ≤ 2147483647) (l : List (List UInt8)) (z n : Nat) (hn : n = needL z) (hz : z ≤ 1000) (hl : a + n ≤ l.length) (h128 : l.length ≤ 128) (hs : ∀ s ∈ l, s.length ≤ 9000000000000) : ∀ (d i k : Nat), i + d = n → (∀ s ∈ (l.drop a).take i, s.length = 32) → d + 2800 < k →
    weirkeeperref08_next.l0 k (gen : Int) (a : Int) (l.map B) (z : Int) (n : Int) (B (txts ((l.drop a).take i))) (i : Int) =
      some (if (∀ s ∈ (l.drop a).take n, s.length = 32) ∧ recL gen a ((txts ((l.drop a).take n)).take z) = (l.drop a).take n then (B ((txts ((l.drop a).take n)).take z), ((a + n : Nat) : Int)) else (B [], -1))
  | 0, i, k, hi, h32, hk => by
    obtain ⟨k, rfl⟩ : ∃ j, k = j + 1 := ⟨k - 1, by omega⟩
    obtain rfl : i = n := by omega
    have hb : needL z ≤ 42 ∧ z ≤ 24 * needL z := by unfold needL; omega
    have hlt : ((l.drop a).take i).length = i := by rw [List.length_take, List.length_drop]; omega
    have htl := txts_length _ h32
    have hT : ((txts ((l.drop a).take i)).take z).length = z := by rw [List.length_take]; omega
    have hp : piecesR (gen : Int) (a : Int) ((txts ((l.drop a).take i)).take z) = ((recL gen a ((txts ((l.drop a).take i)).take z)).map B, 0) := by
      unfold piecesR
      rw [if_pos ⟨⟨by omega, by omega⟩, ⟨by omega, by omega⟩, by omega⟩, hT, ← hn, if_pos (by omega), Int.toNat_natCast, Int.toNat_natCast]
    have hrl := recL_length _ gen a _ (Nat.le_of_eq hT)
    have := next_l1 a l (recL gen a ((txts ((l.drop a).take i)).take z)) ((txts ((l.drop a).take i)).take z) i (by rw [hrl, hT, ← hn]) hl h128 i 0 k (by omega) (by omega)
    rw [weirkeeperref08_next.l0, if_neg (by omega), if_pos (by omega), if_pos (by rw [B_size]; omega), Int.toNat_natCast, B_extract, List.drop_zero, rpieces_eq _ _ _ (by omega) k (by omega), Option.bind_some, hp]
    simp only [if_true]
    rw [show (0 : Int) = ((0 : Nat) : Int) from rfl, this, List.drop_zero, List.drop_zero]
    congr 1
    by_cases c : recL gen a ((txts ((l.drop a).take i)).take z) = (l.drop a).take i
    · rw [if_pos c, if_pos ⟨h32, c⟩]
    · rw [if_neg c, if_neg (fun h => c h.2)]
  | d + 1, i, k, hi, h32, hk => by
    obtain ⟨k, rfl⟩ : ∃ j, k = j + 1 := ⟨k - 1, by omega⟩
    have h2 : a + i < l.length := by omega
    have hb : needL z ≤ 42 := by unfold needL; omega
    have h3 : i < (l.drop a).length := by rw [List.length_drop]; omega
    have hge : (l.drop a)[i] = l[a + i] := List.getElem_drop ..
    have hsz := hs l[a + i] (List.getElem_mem h2)
    have htl := txts_length _ h32
    have hlt : ((l.drop a).take i).length ≤ i := List.length_take_le ..
    have e1 : wrap64 ((a : Int) + (i : Int)) = ((a + i : Nat) : Int) := by rw [wrap64_in (by omega) (by omega)]; omega
    have e3 : wrap64 ((i : Int) + 1) = ((i + 1 : Nat) : Int) := by clear e1; rw [wrap64_in (by omega) (by omega)]; omega
    rw [weirkeeperref08_next.l0, e1, e3]
    clear e1 e3
    rw [if_pos (by omega), if_pos (by omega), if_pos (by rw [List.length_map]; omega), rdOf_B l (a + i) h2, B_size]
    by_cases c : l[a + i].length = 32
    · have ht : (l.drop a).take (i + 1) = (l.drop a).take i ++ [l[a + i]] := by rw [List.take_succ_eq_append_getElem h3, hge]
      have ht2 : txts ((l.drop a).take (i + 1)) = txts ((l.drop a).take i) ++ l[a + i].drop 8 := by rw [ht, txts_append]; simp [txts]
      rw [if_pos (by omega), if_pos (by omega), B_ext, if_pos (by rw [B_size, B_size, List.length_drop]; omega), B_append, ← ht2]
      refine next_l0 gen a hg l z n hn hz hl h128 hs d (i + 1) k (by omega) (fun s h => ?_) (by omega)
      rw [ht] at h
      rcases List.mem_append.1 h with h | h
      · exact h32 s h
      · rw [List.mem_singleton.1 h]; exact c
    · rw [if_neg (by omega), if_neg]
      · rfl
      · intro h
        refine c (h.1 _ ?_)
        rw [← hge]
        have hi2 : i < ((l.drop a).take n).length := by rw [List.length_take]; omega
        have := List.getElem_mem hi2
        rw [List.getElem_take] at this
        exact this
theorem take2 (x : List UInt8) (h : x.length = 2) : takeR x 2 = (((val x : Nat) : Int), B [], 0) := by
  have e1 : x.take (2 : Int).toNat = x := List.take_of_length_le (by rw [h]; decide)
  have e2 : x.drop (2 : Int).toNat = [] := List.drop_of_length_le (by rw [h]; decide)
  unfold takeR
  rw [if_pos (by decide), if_neg (by rw [h]; decide), e1, e2]
theorem next_eq (gen a : Nat) (hg : 1 ≤ gen ∧ gen ≤ 2147483647) (l : List (List UInt8)) (ha : a ≤ l.length) (h128 : l.length ≤ 128) (hs : ∀ s ∈ l, s.length ≤ 9000000000000) (k : Nat) (hk : 2900 ≤ k) : weirkeeperref08_next.f k (gen : Int) (a : Int) (l.map B) = some (nextR gen a l) := by
  obtain ⟨k, rfl⟩ : ∃ j, k = j + 2 := ⟨k - 2, by omega⟩
  unfold weirkeeperref08_next.f nextR nextL
  rw [List.length_map]
  by_cases c : a < l.length
  · have hget : l.getD a [] = l[a] := by rw [List.getD_eq_getElem?_getD, List.getElem?_eq_getElem c]; rfl
    rw [if_neg (by omega), if_pos (by omega), if_pos (by omega), rdOf_B l a c, B_size, hget]
    by_cases c32 : l[a].length = 32
    · rw [show (((l[a].length : Nat) : Int) != 32) = false by rw [c32]; rfl, weirkeeperref08_next.j0, if_neg (by decide), if_pos (by omega), if_pos (by rw [List.length_map]; omega), if_pos (by decide), rdOf_B l a c, if_pos (by rw [B_size]; omega), B_extract]
      have hd : (l[a].take 8).drop 6 = (l[a].drop 6).take 2 := by rw [List.drop_take]
      have hdl : ((l[a].drop 6).take 2).length = 2 := by rw [List.length_take, List.length_drop]; omega
      have htk : takeR ((l[a].drop 6).take 2) 2 = (((lenL l[a] : Nat) : Int), B [], 0) := take2 _ hdl
      have hv : lenL l[a] < 65536 := by
        have := val_lt ((l[a].drop 6).take 2)
        rw [hdl] at this
        exact this
      rw [hd, rtake_eq _ 2 (k + 1) (by omega), htk, Option.bind_some]
      simp only
      rw [wrap64_in (by omega) (by omega), rneed_eq _ (k + 1) (by omega), Option.bind_some, needR, Int.toNat_natCast]
      by_cases c4 : lenL l[a] ≤ 1000
      · have hb : needL (lenL l[a]) ≤ 42 ∧ 1 ≤ needL (lenL l[a]) := by unfold needL; omega
        have e1 : wrap64 ((a : Int) + ((needL (lenL l[a]) : Nat) : Int)) = ((a + needL (lenL l[a]) : Nat) : Int) := by rw [wrap64_in (by omega) (by omega)]; omega
        rw [if_pos (show (0 : Int) ≤ ((lenL l[a] : Nat) : Int) ∧ ((lenL l[a] : Nat) : Int) ≤ 1000 by clear e1; omega), if_neg (by clear e1; omega), e1]
        clear e1
        rw [weirkeeperref08_next.j1, List.length_map]
        by_cases c5 : a + needL (lenL l[a]) ≤ l.length
        · have := next_l0 gen a hg l (lenL l[a]) (needL (lenL l[a])) rfl c4 c5 h128 hs (needL (lenL l[a])) 0 k (by omega) (by simp) (by omega)
          rw [List.take_zero] at this
          rw [if_neg (by rw [decide_eq_true_eq]; omega), show (⟨#[]⟩ : ByteArray) = B (txts []) from rfl, show (0 : Int) = ((0 : Nat) : Int) from rfl, this]
          congr 1
          by_cases c6 : (∀ s ∈ (l.drop a).take (needL (lenL l[a])), s.length = 32) ∧ recL gen a ((txts ((l.drop a).take (needL (lenL l[a])))).take (lenL l[a])) = (l.drop a).take (needL (lenL l[a]))
          · have hlen := txts_length _ c6.1
            have hT : ((txts ((l.drop a).take (needL (lenL l[a])))).take (lenL l[a])).length = lenL l[a] := by
              rw [List.length_take, hlen, List.length_take, List.length_drop]
              unfold needL at c5 ⊢
              omega
            rw [if_pos c6, if_pos ⟨c32, c4, c5, c6.1, c6.2⟩]
            simp only
            rw [hT]
          · rw [if_neg c6, if_neg (fun h => c6 h.2.2.2)]
        · rw [if_pos (by rw [decide_eq_true_eq]; omega), if_neg (fun h => c5 h.2.2.1)]
          rfl
      · rw [if_neg (show ¬ ((0 : Int) ≤ ((lenL l[a] : Nat) : Int) ∧ ((lenL l[a] : Nat) : Int) ≤ 1000) by omega), if_pos rfl, weirkeeperref08_next.j1, if_pos rfl, if_neg (fun h => c4 h.2.1)]
        rfl
    · rw [show (((l[a].length : Nat) : Int) != 32) = true by rw [bne_iff_ne]; omega, weirkeeperref08_next.j0, if_pos rfl, if_neg (fun h => c32 h.1)]
      rfl
  · have hget : l.getD a [] = [] := by rw [List.getD_eq_getElem?_getD, List.getElem?_eq_none (by omega)]; rfl
    rw [if_pos (by omega), weirkeeperref08_next.j0, if_pos rfl, hget, if_neg (fun h => absurd h.1 (by decide))]
    rfl
theorem parse_prefix (gen : Nat) : ∀ (l : List (List UInt8)) (i : Nat) (out : List (List UInt8)) (e left : Nat) (p : List UInt8), ∃ ms, (parseL gen i out e left p l).1 = out ++ ms
  | [], i, out, e, left, p => ⟨[], by rw [parseL, List.append_nil]⟩
  | s :: l, i, out, e, left, p => by
    rw [parseL]
    split
    · split
      · obtain ⟨ms, h⟩ := parse_prefix gen l (i + 1) (out ++ [p ++ txtL s]) (i + 1) 0 []
        exact ⟨(p ++ txtL s) :: ms, by rw [h, List.append_assoc]; rfl⟩
      · exact parse_prefix gen l (i + 1) out e _ _
    · exact ⟨[], (List.append_nil _).symm⟩
theorem txts_rec : ∀ (m gen a : Nat) (t : List UInt8), t.length ≤ m → (txts (recL gen a t)).take t.length = t
  | 0, gen, a, t, h => by
    obtain rfl := List.eq_nil_of_length_eq_zero (Nat.le_zero.1 h)
    rfl
  | m + 1, gen, a, t, h => by
    have hp : (pieceL gen a t).drop 8 = t.take 24 ++ List.replicate (24 - t.length) 0 := by
      rw [pieceL, List.append_assoc, List.drop_append_of_le_length (by rw [headL_length]; omega), List.drop_of_length_le (by rw [headL_length]; omega), List.nil_append]
    by_cases c : t.length ≤ 24
    · rw [recL_short _ _ _ c, txts, List.flatMap_cons, List.flatMap_nil, List.append_nil, hp, List.take_of_length_le (l := t) c, List.take_left]
    · have ih := txts_rec m gen (a + 1) (t.drop 24) (by rw [List.length_drop]; omega)
      rw [recL_long _ _ _ c, txts, List.flatMap_cons, hp, show 24 - t.length = 0 by omega, List.replicate_zero, List.append_nil]
      show (t.take 24 ++ txts (recL gen (a + 1) (t.drop 24))).take t.length = t
      have hl : (t.take 24).length = 24 := by rw [List.length_take]; omega
      rw [List.length_drop] at ih
      rw [List.take_append, hl, ih, List.take_of_length_le (by omega), List.take_append_drop]
theorem next_some (gen a : Nat) (t : List UInt8) (l rest : List (List UInt8)) (ht : t.length ≤ 1000) (h : l.drop a = recL gen a t ++ rest) (ha : a ≤ l.length) : nextL gen a l = some t := by
  have hrl := recL_length _ gen a t (Nat.le_refl _)
  have hb : 1 ≤ needL t.length := by unfold needL; omega
  have hlen : l.length = a + needL t.length + rest.length := by
    have := congrArg List.length h
    rw [List.length_drop, List.length_append, hrl] at this
    omega
  have hget : l.getD a [] = pieceL gen a t := by
    have h1 : (l.drop a)[0]? = some (pieceL gen a t) := by
      rw [h]
      by_cases c : t.length ≤ 24
      · rw [recL_short _ _ _ c]; rfl
      · rw [recL_long _ _ _ c]; rfl
    rw [List.getElem?_drop, Nat.add_zero] at h1
    rw [List.getD_eq_getElem?_getD, h1]
    rfl
  obtain ⟨k1, k2, k3⟩ := okL_piece gen a t ht
  have htk : (l.drop a).take (needL t.length) = recL gen a t := by rw [h, ← hrl, List.take_left]
  unfold nextL
  rw [hget, k2, htk, txts_rec _ gen a t (Nat.le_refl _), if_pos ⟨pieceL_length _ _ _, ht, by omega, recL_32 _ gen a t (Nat.le_refl _), rfl⟩]
theorem next_back (gen a : Nat) (t : List UInt8) (l : List (List UInt8)) (h : nextL gen a l = some t) : t.length ≤ 1000 ∧ a + needL t.length ≤ l.length ∧ l.drop a = recL gen a t ++ l.drop (a + needL t.length) := by
  unfold nextL at h
  split at h
  · rename_i c
    obtain ⟨c1, c2, c3, c4, c5⟩ := c
    have ht := Option.some.inj h
    rw [ht] at c5
    have hlen := txts_length _ c4
    have hT : t.length = lenL (l.getD a []) := by
      rw [← ht, List.length_take, hlen, List.length_take, List.length_drop]
      unfold needL at c3 ⊢
      omega
    rw [← hT] at c2 c3 c5
    exact ⟨c2, c3, by rw [c5, ← List.drop_drop, List.take_append_drop]⟩
  · cases h
theorem rparse_loop (gen : Nat) (hg : 1 ≤ gen ∧ gen ≤ 2147483647) (l : List (List UInt8)) (h128 : l.length ≤ 128) (hs : ∀ s ∈ l, s.length ≤ 9000000000000) : ∀ (d a k : Nat) (out : List (List UInt8)), l.length - a ≤ d → a ≤ l.length → out.length ≤ a → l.take a = recsL gen 0 out → (∀ t ∈ out, t.length ≤ 1000) → d + 3000 ≤ k →
    weirkeeperref08_Parse.l0 k (gen : Int) (l.map B) (out.map B) (a : Int) = some ((parseL gen a out a 0 [] (l.drop a)).1.map B, (((parseL gen a out a 0 [] (l.drop a)).2 : Nat) : Int)) := by
  intro d
  induction d with
  | zero =>
    intro a k out hd ha ho hta hto hk
    obtain ⟨k, rfl⟩ : ∃ j, k = j + 1 := ⟨k - 1, by omega⟩
    have hn : nextL gen a l = none := by
      cases h : nextL gen a l with
      | none => rfl
      | some t =>
        obtain ⟨h1, h2, h3⟩ := next_back gen a t l h
        have : 1 ≤ needL t.length := by unfold needL; omega
        omega
    rw [weirkeeperref08_Parse.l0, next_eq gen a hg l ha h128 hs k (by omega), Option.bind_some, nextR, hn]
    simp only
    rw [if_pos (by decide), List.drop_of_length_le (by omega), parseL]
  | succ d ih =>
    intro a k out hd ha ho hta hto hk
    obtain ⟨k, rfl⟩ : ∃ j, k = j + 1 := ⟨k - 1, by omega⟩
    rw [weirkeeperref08_Parse.l0, next_eq gen a hg l ha h128 hs k (by omega), Option.bind_some, nextR]
    cases hn : nextL gen a l with
    | some t =>
      obtain ⟨h1, h2, h3⟩ := next_back gen a t l hn
      have hb : 1 ≤ needL t.length := by unfold needL; omega
      have hlo : (recsL gen 0 out).length = a := by rw [← hta, List.length_take]; omega
      have hrl := recL_length _ gen a t (Nat.le_refl _)
      simp only
      rw [if_neg (by omega), if_pos (by rw [List.length_map]; omega), show out.map B ++ [B t] = (out ++ [t]).map B by rw [List.map_append]; rfl]
      rw [ih (a + needL t.length) k (out ++ [t]) (by omega) (by omega) (by rw [List.length_append, List.length_singleton]; omega) ?_ ?_ (by omega), h3, parse_rec gen _ t a out a 0 [] _ (Nat.le_refl _) h1 (.inl rfl), List.nil_append]
      · rw [recsL_append, hlo, Nat.zero_add, recsL, recsL, List.append_nil, List.take_add, hta, h3, ← hrl, List.take_left]
      · intro x hx
        rcases List.mem_append.1 hx with hx | hx
        · exact hto x hx
        · rw [List.mem_singleton.1 hx]; exact h1
    | none =>
      simp only
      rw [if_pos (by decide)]
      have hlt : (l.take a).length = a := by rw [List.length_take]; omega
      obtain ⟨out', e', hp, he, hr, hm⟩ := parse_sound gen (l.drop a) (l.take a) out a 0 [] (by omega) (by rw [List.take_of_length_le (by omega), hta]) hto (by simp) (by simp [hlt]) (by simp)
      rw [hlt] at hp
      rw [List.take_append_drop] at he hr
      obtain ⟨ms, hpre⟩ := parse_prefix gen (l.drop a) a out a 0 []
      rw [hp] at hpre
      simp only at hpre
      have hlo : (recsL gen 0 out).length = a := by rw [← hta, hlt]
      cases ms with
      | nil =>
        rw [List.append_nil] at hpre
        subst hpre
        have : e' = a := by
          have := congrArg List.length hr
          rw [List.length_take, hlo] at this
          omega
        rw [hp, this]
      | cons t ms =>
        exfalso
        have hall : recsL gen 0 out' = recsL gen 0 out ++ (recL gen a t ++ recsL gen (a + needL t.length) ms) := by rw [hpre, recsL_append, hlo, Nat.zero_add, recsL]
        rw [hall, ← hta] at hr
        have hrl := recL_length _ gen a t (Nat.le_refl _)
        have h5 : l.drop a = recL gen a t ++ (recsL gen (a + needL t.length) ms ++ l.drop e') := by
          have h6 : l = l.take a ++ (recL gen a t ++ recsL gen (a + needL t.length) ms) ++ l.drop e' := by rw [← hr, List.take_append_drop]
          have h7 := congrArg (List.drop a) h6
          rw [List.append_assoc, List.drop_append_of_le_length (by omega), show (l.take a).drop a = [] from List.drop_of_length_le (by omega), List.nil_append, List.append_assoc] at h7
          exact h7
        rw [next_some gen a t l _ (hm t (by rw [hpre]; exact List.mem_append_right _ List.mem_cons_self)) h5 ha] at hn
        cases hn
theorem rparse_eq (gen : Int) (l : List (List UInt8)) (hl : l.length ≤ 9000000000000) (hs : ∀ s ∈ l, s.length ≤ 9000000000000) (k : Nat) (hk : 3200 ≤ k) : weirkeeperref08_Parse.f k gen (l.map B) = some ((parseR gen l).1.map B, (((parseR gen l).2 : Nat) : Int)) := by
  obtain ⟨k, rfl⟩ : ∃ j, k = j + 1 := ⟨k - 1, by omega⟩
  unfold weirkeeperref08_Parse.f parseR
  rw [rmay_eq, Option.bind_some, List.length_map]
  by_cases c1 : 1 ≤ gen ∧ gen ≤ 2147483647
  · rw [decide_eq_true (show (1 ≤ gen ∧ gen ≤ 2147483647) ∧ (0 : Int) ≤ 0 ∧ (0 : Int) ≤ 128 from ⟨c1, by omega, by omega⟩), if_pos rfl, weirkeeperref08_Parse.j0]
    by_cases c2 : l.length ≤ 128
    · obtain ⟨g, rfl⟩ := Int.eq_ofNat_of_zero_le (by omega : 0 ≤ gen)
      have := rparse_loop g (by omega) l c2 hs l.length 0 k [] (by omega) (by omega) (by simp) (by simp [recsL]) (by simp) (by omega)
      rw [if_neg (by rw [decide_eq_false (by omega)]; decide), if_pos ⟨c1, c2⟩]
      exact this
    · rw [if_pos (decide_eq_true (by omega)), if_neg (fun h => c2 h.2)]
      rfl
  · rw [decide_eq_false (fun h => c1 h.1), if_neg (by decide), weirkeeperref08_Parse.j0, if_pos rfl, if_neg (fun h => c1 h.1)]
    rfl
end Go.Proofs.Ytpkapldkmleppaa.Pl
