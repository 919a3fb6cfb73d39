/- What the reading functions of package flat come to: flags, pairs, changes, a range. -/
import Derived.Test.YthidkdlmpkeogaaFflatx3
import Derived.Test.YthidkdlmpkeogaaFflatx3
import Derived.Test.YthidkdlmpkeogaaFflatx3
import Derived.Test.YthidkdlmpkeogaaPlFlatR
namespace Go.Proofs.Ythidkdlmpkeogaa.Pl
open Go.RowKit Go.Proofs.Ythidkdlmpkeogaa.F Go.Proofs.YthidkdlmpkeogaaW.PrintWords Go.Proofs.YthidkdlmpkeogaaW.PrintLast Go.Proofs.YthidkdlmpkeogaaW.PrintMore
set_option linter.unusedVariables false
set_option linter.unusedSimpArgs false

theorem gflag (k : Nat) (s : List UInt8) (bad : Bool) (hk : 12 ≤ k) (hs : s.length ≤ 4611686018427387904) :
    flat_reader_flag.f k (B s) bad = some ((rflag s).1, B (rflag s).2.1, bad || (rflag s).2.2) := by
  unfold flat_reader_flag.f rflag
  rw [show (1 : Int) = ((1 : Nat) : Int) from rfl, gnum k s bad 1 hk (by decide) (by decide) hs, Option.bind_some]
  simp only
  have e1 : ((((rnum s 1).1 : Nat) : Int) == ((1 : Nat) : Int)) = ((rnum s 1).1 == 1) := by
    rw [Bool.eq_iff_iff, beq_iff_eq, beq_iff_eq]; omega
  have e2 : decide ((((rnum s 1).1 : Nat) : Int) > ((1 : Nat) : Int)) = decide ((rnum s 1).1 > 1) := by
    rw [Bool.eq_iff_iff, decide_eq_true_iff, decide_eq_true_iff]; omega
  rw [e1, e2]
  by_cases h : (bad || (rnum s 1).2.2) = true
  · rw [if_pos h]
    have : (bad || ((rnum s 1).2.2 || decide ((rnum s 1).1 > 1))) = true := by
      rw [← Bool.or_assoc, h]; rfl
    rw [this]
  · rw [if_neg h]
    have h' : (bad || (rnum s 1).2.2) = false := by simpa using h
    have : (bad || ((rnum s 1).2.2 || decide ((rnum s 1).1 > 1))) = decide ((rnum s 1).1 > 1) := by
      rw [← Bool.or_assoc, h']; rfl
    rw [this]
theorem getP (k : Nat) (s : List UInt8) (hk : 12 ≤ k) (hs : s.length ≤ 4611686018427387904) :
    flat_TakePairs_1.f k (B s) false = some ((gP s).1.f0, (gP s).1.f1, B (gP s).2.1, (gP s).2.2) := by
  have hb := rtext_le s
  unfold flat_TakePairs_1.f gP
  rw [gtext k _ _ hk (by omega), Option.bind_some]
  simp only
  rw [gtext k _ _ hk (by omega), Option.bind_some]
  simp only [Bool.false_or]
theorem getC (k : Nat) (s : List UInt8) (hk : 12 ≤ k) (hs : s.length ≤ 4611686018427387904) :
    flat_TakeChanges_1.f k (B s) false = some ((gC s).1.f0, (gC s).1.f1, (gC s).1.f2, (gC s).1.f3, (gC s).1.f4, (gC s).1.f5, B (gC s).2.1, (gC s).2.2) := by
  have ha := rnum_le s 4
  have hl := rnum_lt s 4
  have hb := rtext_le (rnum s 4).2.1
  have hc := rflag_le (rtext (rnum s 4).2.1).2.1
  have hd := rtext_le (rflag (rtext (rnum s 4).2.1).2.1).2.1
  have he := rflag_le (rtext (rflag (rtext (rnum s 4).2.1).2.1).2.1).2.1
  unfold flat_TakeChanges_1.f gC
  change (flat_reader_num.f k (B s) false ((4 : Nat) : Int)).bind _ = _
  rw [gnum k s false 4 hk (by decide) (by decide) hs, Option.bind_some]
  simp only
  rw [gtext k _ _ hk (by omega), Option.bind_some]
  simp only
  rw [gflag k _ _ hk (by omega), Option.bind_some]
  simp only
  rw [gtext k _ _ hk (by omega), Option.bind_some]
  simp only
  rw [gflag k _ _ hk (by omega), Option.bind_some]
  simp only
  rw [gtext k _ _ hk (by omega), Option.bind_some]
  simp only [Bool.false_or]
  rw [wrap64_in (by omega) (by omega)]
theorem takePairs_eq (s : List UInt8) (hs : s.length ≤ 4611686018427387904) (k : Nat) (hk : 70000 ≤ k) : flat_TakePairs.f k (B s) = some (takeLR gP pright s) :=
  glist (f := flat_TakePairs.f) (l0 := flat_TakePairs.l0) (getf := fun k s bad => (flat_TakePairs_1.f k s bad).bind fun q => some (⟨q.1, q.2.1⟩, q.2.2.1, q.2.2.2)) (mayf := fun k x => flat_pair.f k x.f0 x.f1) (g := gP) (may := pright)
    (cap := 4398046511104) (by decide) (fun _ _ => rfl) (fun k s bad out n i => by simp only [flat_TakePairs.l0, Option.bind_assoc, Option.bind_some]; rfl) (fun k s hk hs => by simp only [getP k s hk hs]; rfl) gP_le (fun k x h => pair_eq x k (by omega)) s hs k hk
theorem takeChanges_eq (s : List UInt8) (hs : s.length ≤ 4611686018427387904) (k : Nat) (hk : 70000 ≤ k) : flat_TakeChanges.f k (B s) = some (takeLR gC cmay s) :=
  glist (f := flat_TakeChanges.f) (l0 := flat_TakeChanges.l0) (getf := fun k s bad => (flat_TakeChanges_1.f k s bad).bind fun q => some (⟨q.1, q.2.1, q.2.2.1, q.2.2.2.1, q.2.2.2.2.1, q.2.2.2.2.2.1⟩, q.2.2.2.2.2.2.1, q.2.2.2.2.2.2.2)) (mayf := fun k x => flat_May.f k x.f0 x.f1 x.f2 x.f3 x.f4 x.f5) (g := gC) (may := cmay)
    (cap := 1954687338268) (by decide) (fun _ _ => rfl) (fun k s bad out n i => by simp only [flat_TakeChanges.l0, Option.bind_assoc, Option.bind_some]; rfl) (fun k s hk hs => by simp only [getC k s hk hs]; rfl) gC_le (fun k x h => may_eq x k (by omega)) s hs k hk
theorem takeRange_eq (s : List UInt8) (hs : s.length ≤ 4611686018427387904) (k : Nat) (hk : 12 ≤ k) : flat_TakeRange.f k (B s) = some (takeRangeR s) := by
  have ha := rtext_le s
  have hb := rtext_le (rtext s).2.1
  unfold flat_TakeRange.f takeRangeR takeRangeO
  rw [gtext k _ _ hk hs, Option.bind_some]
  simp only
  rw [gtext k _ _ hk (by omega), Option.bind_some]
  simp only
  rw [gflag k _ _ hk (by omega), Option.bind_some]
  simp only [Bool.false_or]
  by_cases h : ((rtext s).2.2 || (rtext (rtext s).2.1).2.2 || (rflag (rtext (rtext s).2.1).2.1).2.2) = true
  · rw [if_pos h, if_pos h]; rfl
  · rw [if_neg h, if_neg h, stretch_eq, Option.bind_some]
    by_cases h2 : rright (B (rtext s).1) (B (rtext (rtext s).2.1).1) (rflag (rtext (rtext s).2.1).2.1).1 = true
    · rw [if_pos h2, if_pos h2]
    · rw [if_neg h2, if_neg h2]; rfl
end Go.Proofs.Ythidkdlmpkeogaa.Pl
