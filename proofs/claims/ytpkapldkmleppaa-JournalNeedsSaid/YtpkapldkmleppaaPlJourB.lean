/- What journal.Parse comes to, in plain words. -/
import Derived.Test.YtpkapldkmleppaaFjournalx1
import Derived.Test.YtpkapldkmleppaaPlJourA
namespace Go.Proofs.Ytpkapldkmleppaa.Pl
open Go.RowKit Go.Proofs.Ytpkapldkmleppaa.F Go.Proofs.YtpkapldkmleppaaW.PrintWords Go.Proofs.YtpkapldkmleppaaW.PrintLast Go.Proofs.YtpkapldkmleppaaW.PrintMore
set_option linter.unusedVariables false
set_option linter.unusedSimpArgs false
set_option maxHeartbeats 2000000 in
theorem parse_loop (gen : Nat) (hg : gen < 4294967296) (l : List (List UInt8)) (hl : l.length ≤ 128) (hs : ∀ s ∈ l, s.length ≤ 9000000000000) : ∀ (rest D : List (List UInt8)) (out : List (List UInt8)) (e left : Nat) (p : List UInt8) (k : Nat),
    D ++ rest = l → left ≤ 1000 → p.length ≤ 24 * D.length → out.length ≤ D.length → 2 * rest.length + 25 ≤ k →
    journal_Parse.l0 k (gen : Int) (out.map B) (e : Int) (left : Int) (B p) (l.map B) (l.length : Int) (D.length : Int) = some ((parseL gen D.length out e left p rest).1.map B, (((parseL gen D.length out e left p rest).2 : Nat) : Int))
  | [], D, out, e, left, p, k, hD, h1, h2, h3, hk => by
    obtain ⟨k, rfl⟩ : ∃ j, k = j + 1 := ⟨k - 1, by omega⟩
    rw [List.append_nil] at hD
    subst hD
    rw [journal_Parse.l0, if_neg (by omega), parseL]
  | s :: rest, D, out, e, left, p, k, hD, h1, h2, h3, hk => by
    rw [List.length_cons] at hk
    obtain ⟨k, rfl⟩ : ∃ j, k = j + 2 := ⟨k - 2, by omega⟩
    have hll : l.length = D.length + (rest.length + 1) := by rw [← hD, List.length_append, List.length_cons]
    have hlt : D.length < l.length := by omega
    have hget : l[D.length] = s := by simp only [← hD, List.getElem_append_right (Nat.le_refl _), Nat.sub_self, List.getElem_cons_zero]
    have hsl := hs s (by rw [← hD]; exact List.mem_append_right _ List.mem_cons_self)
    rw [journal_Parse.l0, if_pos (by omega), if_pos (by omega), if_pos (by rw [List.length_map]; omega), rdOf_B l D.length hlt, hget, told_eq gen D.length s hg (by omega) hsl (k + 1) (by omega), Option.bind_some, parseL]
    by_cases c : okL gen D.length s
    · have c32 := c.1
      have hx : (txtL s).length = min (lenL s) 24 := by rw [txtL, List.length_take, List.length_drop]; omega
      have hl1000 := c.2.1
      rw [toldR, if_pos c32, decide_eq_true c]
      simp only
      rw [if_pos trivial]
      have hj : ∀ b : Bool, b = decide (0 < left ∧ lenL s ≠ left) → journal_Parse.j2 (k + 1) (gen : Int) (out.map B) (e : Int) (B p) (D.length : Int) (lenL s : Nat) (B (txtL s)) (l.map B) (l.length : Int) (D.length : Int) b =
          some ((if okL gen D.length s ∧ ¬ (0 < left ∧ lenL s ≠ left) then
      (if lenL s - (txtL s).length = 0 then parseL gen (D.length + 1) (out ++ [p ++ txtL s]) (D.length + 1) 0 [] rest else parseL gen (D.length + 1) out e (lenL s - (txtL s).length) (p ++ txtL s) rest)
    else (out, e)).1.map B, (((if okL gen D.length s ∧ ¬ (0 < left ∧ lenL s ≠ left) then
      (if lenL s - (txtL s).length = 0 then parseL gen (D.length + 1) (out ++ [p ++ txtL s]) (D.length + 1) 0 [] rest else parseL gen (D.length + 1) out e (lenL s - (txtL s).length) (p ++ txtL s) rest)
    else (out, e)).2 : Nat) : Int)) := fun b hb => by
        rw [journal_Parse.j2]
        by_cases d : 0 < left ∧ lenL s ≠ left
        · rw [if_pos (show b = true by rw [hb]; exact decide_eq_true d), if_neg (fun h : okL gen D.length s ∧ ¬ (0 < left ∧ lenL s ≠ left) => h.2 d)]
        · have hD1 : (D ++ [s]).length = D.length + 1 := by simp
          have hDa : (D ++ [s]) ++ rest = l := by rw [List.append_assoc]; exact hD
          have hpl : (p ++ txtL s).length ≤ 24 * (D ++ [s]).length := by rw [List.length_append, hD1]; omega
          have q1 : p.length + (txtL s).length ≤ 9223372036854775807 := by omega
          have q2 : (out.map B).length < 8796093022208 := by rw [List.length_map]; omega
          have q3 : (out ++ [p ++ txtL s]).length ≤ (D ++ [s]).length := by rw [hD1, List.length_append, List.length_singleton]; omega
          have q4 : 2 * rest.length + 25 ≤ k := by omega
          have q5 : out.length ≤ (D ++ [s]).length := by rw [hD1]; omega
          have q6 : lenL s - (txtL s).length ≤ 1000 := by omega
          have q7 : ((lenL s - (txtL s).length : Nat) : Int) = 0 ↔ lenL s - (txtL s).length = 0 := by omega
          have hw : wrap64 (((lenL s : Nat) : Int) - (((txtL s).length : Nat) : Int)) = ((lenL s - (txtL s).length : Nat) : Int) := by rw [wrap64_in (by omega) (by omega)]; omega
          have hw1 : wrap64 ((D.length : Int) + 1) = (((D ++ [s]).length : Nat) : Int) := by clear hw; rw [wrap64_in (by omega) (by omega), hD1]; omega
          rw [if_neg (show ¬ b = true by rw [hb, decide_eq_false d]; decide), if_pos (show okL gen D.length s ∧ ¬ (0 < left ∧ lenL s ≠ left) from ⟨c, d⟩), B_size, B_size, if_pos q1, hw, B_append]
          by_cases d2 : lenL s - (txtL s).length = 0
          · have hm : out.map B ++ [B (p ++ txtL s)] = (out ++ [p ++ txtL s]).map B := by rw [List.map_append]; rfl
            have := parse_loop gen hg l hl hs rest (D ++ [s]) (out ++ [p ++ txtL s]) (D ++ [s]).length 0 [] k hDa (Nat.zero_le _) (Nat.zero_le _) q3 q4
            rw [if_pos (q7.2 d2), if_pos q2, if_pos d2, hw1, d2, hm, ← hD1]
            exact this
          · have := parse_loop gen hg l hl hs rest (D ++ [s]) out e (lenL s - (txtL s).length) (p ++ txtL s) k hDa q6 hpl q5 q4
            rw [if_neg (fun h => d2 (q7.1 h)), if_neg d2, hw1, ← hD1]
            exact this
      by_cases d0 : 0 < left
      · rw [if_pos (by omega)]
        refine hj _ ?_
        by_cases d1 : lenL s = left
        · rw [d1, decide_eq_false (fun h => h.2 rfl)]
          simp
        · rw [decide_eq_true ⟨d0, d1⟩]
          simp only [bne_iff_ne, ne_eq, Int.ofNat_inj, d1, not_false_eq_true]
      · rw [if_neg (by omega)]
        exact hj _ (by rw [decide_eq_false (fun h => d0 h.1)])
    · have hf : (toldR gen D.length s).2.2 = false := by
        unfold toldR
        split
        · exact decide_eq_false c
        · rfl
      rw [hf, if_neg (by decide), journal_Parse.j2, if_pos rfl, if_neg (fun h : okL gen D.length s ∧ ¬ (0 < left ∧ lenL s ≠ left) => c h.1)]
/-- the records that stand in pieces -/
def parseR (gen : Int) (l : List (List UInt8)) : List (List UInt8) × Nat := if (1 ≤ gen ∧ gen ≤ 2147483647) ∧ l.length ≤ 128 then parseL gen.toNat 0 [] 0 0 [] l else ([], 0)
theorem parse_eq (gen : Int) (l : List (List UInt8)) (hl : l.length ≤ 9000000000000) (hs : ∀ s ∈ l, s.length ≤ 9000000000000) (k : Nat) (hk : 300 ≤ k) : journal_Parse.f k gen (l.map B) = some ((parseR gen l).1.map B, (((parseR gen l).2 : Nat) : Int)) := by
  obtain ⟨k, rfl⟩ : ∃ j, k = j + 1 := ⟨k - 1, by omega⟩
  unfold journal_Parse.f parseR
  rw [aging_eq, Option.bind_some, List.length_map]
  by_cases c1 : 1 ≤ gen ∧ gen ≤ 2147483647
  · rw [decide_eq_true c1, if_pos rfl, journal_Parse.j0]
    by_cases c2 : l.length ≤ 128
    · obtain ⟨g, rfl⟩ := Int.eq_ofNat_of_zero_le (by omega : 0 ≤ gen)
      have := parse_loop g (by omega) l c2 hs l [] [] 0 0 [] k rfl (by omega) (by simp) (by simp) (by omega)
      rw [if_neg (by rw [decide_eq_false (by omega)]; decide), if_pos ⟨c1, c2⟩, List.length_map]
      exact this
    · rw [if_pos (decide_eq_true (by omega)), if_neg (fun h => c2 h.2)]
      rfl
  · rw [decide_eq_false c1, if_neg (by decide), journal_Parse.j0, if_pos rfl, if_neg (fun h => c1 h.1)]
    rfl
end Go.Proofs.Ytpkapldkmleppaa.Pl
