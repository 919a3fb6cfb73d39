/- What the functions of the disk come to, in plain words on lists; no condition but those that each theorem names. -/
import Derived.Test.YthidkdlmpkeogaaBase
import Derived.Test.YthidkdlmpkeogaaFdiskD
import Derived.Test.YthidkdlmpkeogaaFdiskE
import Derived.Test.YthidkdlmpkeogaaFdiskD
namespace Go.Proofs.Ythidkdlmpkeogaa.Pl
open Go.RowKit Go.Proofs.Ythidkdlmpkeogaa.F Go.Proofs.YthidkdlmpkeogaaW.PrintWords Go.Proofs.YthidkdlmpkeogaaW.PrintLast Go.Proofs.YthidkdlmpkeogaaW.PrintMore
set_option linter.unusedVariables false
set_option linter.unusedSimpArgs false
abbrev Wr := F.S104
def datas (l : List ByteArray) : List UInt8 := (l.map (·.data.toList)).flatten
theorem joinB_eq (l : List ByteArray) : joinB l ⟨#[]⟩ = B (datas l) := by
  show (⟨(Lib.join (l.map (·.data.toList)) []).toArray⟩ : ByteArray) = _
  rw [joinB_nil]
  rfl
theorem datas_length (l : List ByteArray) (h : ∀ s ∈ l, s.size = 32) : (datas l).length = 32 * l.length := flatten_size l h
theorem datas_append (l m : List ByteArray) : datas (l ++ m) = datas l ++ datas m := by simp [datas]
theorem right_iff (S : List ByteArray) (W : List Wr) : disk_right S W = true ↔ 1 ≤ S.length ∧ S.length ≤ 512 ∧ (∀ s ∈ S, s.size = 32) ∧ ∀ x ∈ W, x.f1.size = 32 ∧ 0 ≤ x.f0 ∧ x.f0 < (S.length : Int) := by
  simp only [disk_right, Bool.and_eq_true, decide_eq_true_eq, Bool.not_eq_true', List.any_eq_false, wBad, Bool.or_eq_true, not_or, bne_iff_ne, ne_eq, Decidable.not_not]
  constructor
  · rintro ⟨⟨⟨a, b⟩, c⟩, d⟩
    refine ⟨a, b, c, fun x hx => ?_⟩
    obtain ⟨h1, h2⟩ := d x hx
    refine ⟨h1, ?_⟩
    simpa using h2
  · rintro ⟨a, b, c, d⟩
    refine ⟨⟨⟨a, b⟩, c⟩, fun x hx => ?_⟩
    obtain ⟨h1, h2, h3⟩ := d x hx
    refine ⟨h1, ?_⟩
    simp [h2, h3]
theorem there_iff (N : Nat) (a n : Int) : thereB N a n = true ↔ 0 ≤ n ∧ n ≤ N ∧ 0 ≤ a ∧ a ≤ N - n := by
  simp [thereB, and_assoc]
theorem fit_of {S : List ByteArray} {W : List Wr} (hS : S.length ≤ 100000) (hW : W.length ≤ 100000) : disk_fit S W = true := by
  simp [disk_fit]
  omega
theorem zero32_size : zero32.size = 32 := by decide
theorem zero32_data : zero32.data.toList = List.replicate 32 0 := rfl
theorem Right_eq (S : List ByteArray) (W : List Wr) : disk_Right.f S W = some (disk_right S W) := rfl
theorem Flush_eq {S : List ByteArray} {W : List Wr} (hf : disk_fit S W = true) : disk_Flush.f S W = some (lastingW (fun _ => true) S W) := if_pos hf
theorem Crash_eq {S : List ByteArray} {W : List Wr} (hf : disk_fit S W = true) (l : List Bool) : disk_Crash.f S W l = some (lastingW (fun i => l.getD i false) S W) := if_pos hf
theorem lasting_right {S : List ByteArray} {W : List Wr} (h : disk_right S W = true) (kept : Nat → Bool) : lastingW kept S W = (applyW kept 0 W S, []) := by simp [lastingW, h]
theorem Read_ok {S : List ByteArray} {W : List Wr} (hf : disk_fit S W = true) (h : disk_right S W = true) {a n : Int} (ht : thereB S.length a n = true) :
    disk_Read.f S W a n = some (B (datas (((applyW (fun _ => true) 0 W S).take (a + n).toNat).drop a.toNat)), 0) := by
  unfold disk_Read.f
  rw [if_pos hf, if_pos (by rw [h, ht]; rfl), readB, joinB_eq, lasting_right h]
theorem Read_bad {S : List ByteArray} {W : List Wr} (hf : disk_fit S W = true) {a n : Int} (h : (disk_right S W && thereB S.length a n) = false) : disk_Read.f S W a n = some (⟨#[]⟩, 1) := by
  unfold disk_Read.f
  rw [if_pos hf, h, if_neg (by decide)]
theorem Put_ok {S : List ByteArray} {W : List Wr} (hf : disk_fit S W = true) (h : disk_right S W = true) {a : Int} {T : List ByteArray} (ht : thereB S.length a (T.length : Int) = true) (hT : ∀ t ∈ T, t.size = 32) :
    disk_Put.f S W a T = some (S, W ++ putW a T, 0) := by
  unfold disk_Put.f
  have : (T.any fun s => s.size != 32) = false := by
    rw [List.any_eq_false]
    intro t ht
    simp [hT t ht]
  rw [if_pos hf, if_pos (by rw [h, ht, this]; rfl)]
theorem Put_bad {S : List ByteArray} {W : List Wr} (hf : disk_fit S W = true) {a : Int} {T : List ByteArray} (h : (disk_right S W && thereB S.length a (T.length : Int) && !(T.any fun s => s.size != 32)) = false) :
    disk_Put.f S W a T = some (S, W, 1) := by
  unfold disk_Put.f
  rw [if_pos hf, h, if_neg (by decide)]
theorem New_ok {n : Int} (h1 : 1 ≤ n) (h2 : n ≤ 512) : disk_New.f n = some (List.replicate n.toNat zero32, [], 0) := if_pos ⟨h1, h2⟩
theorem New_bad {n : Int} (h : ¬ (1 ≤ n ∧ n ≤ 512)) : disk_New.f n = some ([], [], 1) := if_neg h
theorem new_right {n : Nat} (h1 : 1 ≤ n) (h2 : n ≤ 512) : disk_right (List.replicate n zero32) [] = true := by
  rw [right_iff]
  refine ⟨by simpa using h1, by simpa using h2, fun s hs => by rw [(List.mem_replicate.1 hs).2]; exact zero32_size, fun x hx => by cases hx⟩
end Go.Proofs.Ythidkdlmpkeogaa.Pl
