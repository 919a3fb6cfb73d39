/- What journal.Texts and journal.Append come to on a disk of 130 sectors, in plain words. -/
import Derived.Test.YtpkapldkmleppaaFjournalx2
import Derived.Test.YtpkapldkmleppaaPlJourB
import Derived.Test.YtpkapldkmleppaaPlImg
namespace Go.Proofs.Ytpkapldkmleppaa.Pl
open Go.RowKit Go.Proofs.Ytpkapldkmleppaa.F Go.Proofs.YtpkapldkmleppaaW.PrintWords Go.Proofs.YtpkapldkmleppaaW.PrintLast Go.Proofs.YtpkapldkmleppaaW.PrintMore
set_option linter.unusedVariables false
set_option linter.unusedSimpArgs false
theorem Img.texts {n : Nat} {S : List ByteArray} {W : List Wr} {I : List (List UInt8)} (h : Img n S W I) (hn : n ≤ 100000) (h130 : S.length = 130) (gen : Int) (k : Nat) (hk : 300 ≤ k) :
    journal_Texts.f k S W gen = some ((parseR gen (I.drop 2)).1.map B, (((parseR gen (I.drop 2)).2 : Nat) : Int), 0) := by
  have hI : I.length = 130 := by rw [h.len, h130]
  have h32 := h.all32
  unfold journal_Texts.f
  rw [show (2 : Int) = ((2 : Nat) : Int) from rfl, show (128 : Int) = ((128 : Nat) : Int) from rfl, h.read hn 2 128 (by omega), Option.bind_some, if_pos rfl, List.take_of_length_le (by omega)]
  have hd : ∀ s ∈ I.drop 2, s.length = 32 := fun s hs => h32 s (List.mem_of_mem_drop hs)
  have hfl : (I.drop 2).flatten.length ≤ 4398046511104 := by
    have : ∀ L : List (List UInt8), (∀ s ∈ L, s.length = 32) → L.flatten.length = 32 * L.length := by
      intro L
      induction L with
      | nil => intro _; rfl
      | cons x r ih => intro hh; rw [List.flatten_cons, List.length_append, ih (fun s hs => hh s (List.mem_cons_of_mem _ hs)), hh x List.mem_cons_self, List.length_cons]; omega
    rw [this _ hd, List.length_drop]
    omega
  rw [cut_B _ hfl, Option.bind_some, cutL_flatten _ hd, parse_eq gen _ (by rw [List.length_drop]; omega) (fun s hs => by rw [hd s hs]; omega) k hk]
  rfl
theorem append_loop (gen at_ : Nat) (hg : 1 ≤ gen ∧ gen ≤ 2147483647) (S : List ByteArray) (W : List Wr) (l : List (List UInt8)) (hl : l.length ≤ 1000000) : ∀ (rest D : List (List UInt8)) (out : List (List UInt8)) (k : Nat),
    D ++ rest = l → (∀ t ∈ rest, t.length ≤ 1000) → at_ + out.length ≤ 128 → 1200 + rest.length ≤ k →
    journal_Append.l0 k (gen : Int) (at_ : Int) (out.map B) (l.map B) (l.length : Int) (D.length : Int) S W =
      if at_ + out.length + (recsL gen (at_ + out.length) rest).length ≤ 128 then journal_Append.l0 (k - rest.length) (gen : Int) (at_ : Int) ((out ++ recsL gen (at_ + out.length) rest).map B) (l.map B) (l.length : Int) (l.length : Int) S W else some (S, W, (at_ : Int), 6)
  | [], D, out, k, hD, h1, h2, hk => by
    rw [List.append_nil] at hD
    subst hD
    rw [recsL, if_pos (by simpa using h2), List.append_nil]
    rfl
  | t :: rest, D, out, k, hD, h1, h2, hk => by
    rw [List.length_cons] at hk
    obtain ⟨k, rfl⟩ : ∃ j, k = j + 1 := ⟨k - 1, by omega⟩
    have hll : l.length = D.length + (rest.length + 1) := by rw [← hD, List.length_append, List.length_cons]
    have hlt : D.length < l.length := by omega
    have hget : l[D.length] = t := by simp only [← hD, List.getElem_append_right (Nat.le_refl _), Nat.sub_self, List.getElem_cons_zero]
    have ht := h1 t List.mem_cons_self
    have hrl := recL_length t.length gen (at_ + out.length) t (Nat.le_refl _)
    have hlx : (recsL gen (at_ + out.length) (t :: rest)).length = needL t.length + (recsL gen (at_ + out.length + needL t.length) rest).length := by rw [recsL, List.length_append, hrl]
    have e0 : (D.length : Int) < (l.length : Int) := by omega
    have e1 : (0 : Int) ≤ (D.length : Int) := by omega
    have e2 : (D.length : Int) < ((l.map B).length : Int) := by rw [List.length_map]; exact e0
    have e3 : wrap64 ((at_ : Int) + ((out.map B).length : Int)) = ((at_ + out.length : Nat) : Int) := by rw [List.length_map, wrap64_in (by omega) (by omega)]; omega
    have e4 : wrap64 ((D.length : Int) + 1) = (((D ++ [t]).length : Nat) : Int) := by clear e3; rw [wrap64_in (by omega) (by omega), List.length_append, List.length_singleton]; omega
    have q1 : (1 ≤ ((gen : Nat) : Int) ∧ ((gen : Nat) : Int) ≤ 2147483647) ∧ (0 ≤ ((at_ + out.length : Nat) : Int) ∧ ((at_ + out.length : Nat) : Int) ≤ 128) ∧ t.length ≤ 1000 := by clear e3 e4; exact ⟨⟨by omega, by omega⟩, ⟨by omega, by omega⟩, ht⟩
    have q2 : (((at_ + out.length : Nat) : Int) + ((needL t.length : Nat) : Int) ≤ 128) ↔ at_ + out.length + needL t.length ≤ 128 := by clear e3 e4; omega
    have q3 : t.length ≤ 9000000000000 := by clear e3 e4; omega
    have q4 : 1100 ≤ k := by clear e3 e4; omega
    rw [journal_Append.l0, if_pos e0, if_pos e1, if_pos e2, e3, rdOf_B l D.length hlt, hget, pieces_eq _ _ t q3 k q4, Option.bind_some, piecesR, if_pos q1]
    by_cases c : at_ + out.length + needL t.length ≤ 128
    · rw [if_pos (q2.2 c), Int.toNat_natCast, Int.toNat_natCast]
      simp only
      have hm : out.map B ++ (recL gen (at_ + out.length) t).map B = (out ++ recL gen (at_ + out.length) t).map B := by rw [List.map_append]
      have hol : (out ++ recL gen (at_ + out.length) t).length = out.length + needL t.length := by rw [List.length_append, hrl]
      have q5 : (out.map B).length + ((recL gen (at_ + out.length) t).map B).length < 8796093022208 := by clear e3 e4; rw [List.length_map, List.length_map, hrl]; omega
      have := append_loop gen at_ hg S W l hl rest (D ++ [t]) (out ++ recL gen (at_ + out.length) t) k (by rw [List.append_assoc]; exact hD) (fun x hx => h1 x (List.mem_cons_of_mem _ hx)) (by clear e3 e4; rw [hol]; omega) (by clear e3 e4; omega)
      rw [if_pos trivial, if_pos q5, e4, hm, this, hol, ← Nat.add_assoc, hlx, recsL, List.append_assoc, Nat.add_assoc (at_ + out.length), List.length_cons, show k + 1 - (rest.length + 1) = k - rest.length by clear e3 e4; omega]
    · rw [if_neg (fun hh => c (q2.1 hh))]
      simp only
      rw [if_neg (show ¬ at_ + out.length + (recsL gen (at_ + out.length) (t :: rest)).length ≤ 128 by rw [hlx]; clear e3 e4; omega)]
      first | exact if_neg (fun h => h) | exact if_neg (by decide) | rfl
theorem Img.append {n : Nat} {S : List ByteArray} {W : List Wr} {I : List (List UInt8)} (h : Img n S W I) (hn : n ≤ 100000) (h130 : S.length = 130) (gen at_ : Nat) (hg : 1 ≤ gen ∧ gen ≤ 2147483647) (ha : at_ ≤ 128) (l : List (List UInt8)) (hl : l.length ≤ 1000) (ht : ∀ t ∈ l, t.length ≤ 1000) (k : Nat) (hk : 2500 ≤ k) :
    journal_Append.f k S W (gen : Int) (at_ : Int) (l.map B) =
      if at_ + (recsL gen at_ l).length ≤ 128 then some (S, W ++ putW ((2 + at_ : Nat) : Int) ((recsL gen at_ l).map B), ((at_ + (recsL gen at_ l).length : Nat) : Int), 0) else some (S, W, (at_ : Int), 6) := by
  obtain ⟨k, rfl⟩ : ∃ j, k = j + 1 := ⟨k - 1, by omega⟩
  unfold journal_Append.f
  rw [show (2 : Int) = ((2 : Nat) : Int) from rfl, show (128 : Int) = ((128 : Nat) : Int) from rfl, h.read hn 2 128 (by omega), Option.bind_some, if_pos rfl, aging_eq, Option.bind_some, decide_eq_true (by omega), if_pos rfl, placed_eq, Option.bind_some, decide_eq_true (by omega), journal_Append.j0, if_neg (by decide), List.length_map]
  have := append_loop gen at_ hg S W l (by omega) l [] [] k rfl ht (by simpa using ha) (by omega)
  simp only [List.map_nil, List.length_nil, Nat.add_zero, List.nil_append] at this
  rw [show (0 : Int) = ((0 : Nat) : Int) from rfl, this]
  by_cases c : at_ + (recsL gen at_ l).length ≤ 128
  · rw [if_pos c, if_pos c]
    obtain ⟨j, hj⟩ : ∃ j, k - l.length = j + 1 := ⟨k - l.length - 1, by omega⟩
    have e1 : wrap64 (((2 : Nat) : Int) + (at_ : Int)) = ((2 + at_ : Nat) : Int) := by rw [wrap64_in (by omega) (by omega)]; omega
    have e2 : wrap64 ((at_ : Int) + (((recsL gen at_ l).map B).length : Int)) = ((at_ + (recsL gen at_ l).length : Nat) : Int) := by clear e1; rw [List.length_map, wrap64_in (by omega) (by omega)]; omega
    have hp := h.put hn (2 + at_) (recsL gen at_ l) (by clear e1 e2; omega) (recsL_32 gen l at_)
    rw [hj, journal_Append.l0, if_neg (by clear e1 e2; omega), show (2 : Int) = ((2 : Nat) : Int) from rfl, e1, hp.1, Option.bind_some]
    simp only
    rw [if_pos trivial, e2]
    rfl
  · rw [if_neg c, if_neg c]
end Go.Proofs.Ytpkapldkmleppaa.Pl
