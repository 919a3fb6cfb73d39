/- There is a new disk just of 1 to 512 sectors; what is read of it are bytes 0, nothing waits, and it is a disk. -/
import Derived.Test.YthidkdlmpkeogaaFlaw04DiskNew
import Derived.Test.YthidkdlmpkeogaaPlDisk
import Derived.Test.YthidkdlmpkeogaaPlAwake04
namespace Go.Proofs.Ythidkdlmpkeogaa.PlDiskNew
open Go.RowKit Go.Proofs.Ythidkdlmpkeogaa.F Go.Proofs.YthidkdlmpkeogaaW.PrintWords Go.Proofs.YthidkdlmpkeogaaW.PrintLast Go.Proofs.YthidkdlmpkeogaaW.PrintMore Go.Proofs.Ythidkdlmpkeogaa.Pl
set_option linter.unusedVariables false
set_option linter.unusedSimpArgs false

theorem zeros (m : Nat) (i : Int) (h : i.toNat < m) : bt (B (List.replicate m 0)) i = 0 := by
  rw [bt_B _ _ (by simpa using h)]
  simp
theorem new_datas (n : Nat) : datas (List.replicate n zero32) = List.replicate (n * 32) 0 := by
  rw [datas, List.map_replicate, zero32_data, List.flatten_replicate_replicate]
theorem loop (n : Nat) (h1 : 1 ≤ n) (h2 : n ≤ 512) : ∀ (d i : Nat) (k : Nat), i + d = n * 32 → d < k →
    weirkeeperlaw04_DiskNew.l0 k (n : Int) 0 (B (List.replicate (n * 32) 0)) 0 ((B (List.replicate (n * 32) 0)).size : Int) (i : Int) (List.replicate n zero32) [] = some true
  | 0, i, k, hi, hk => by
    obtain ⟨k, rfl⟩ : ∃ m, k = m + 1 := ⟨k - 1, by omega⟩
    have hs : (B (List.replicate (n * 32) (0 : UInt8))).size = n * 32 := by rw [B_size, List.length_replicate]
    rw [weirkeeperlaw04_DiskNew.l0, if_neg (by rw [hs]; omega), if_pos rfl, if_pos rfl, if_pos (by rw [hs]; unfold wrap64; omega), if_pos (show (((([] : List Wr).length : Nat) : Int) = 0) from rfl), Right_eq, new_right h1 h2, Option.bind_some, if_pos rfl, awake_eq]
    rfl
  | d + 1, i, k, hi, hk => by
    obtain ⟨k, rfl⟩ : ∃ m, k = m + 1 := ⟨k - 1, by omega⟩
    have hs : (B (List.replicate (n * 32) (0 : UInt8))).size = n * 32 := by rw [B_size, List.length_replicate]
    rw [weirkeeperlaw04_DiskNew.l0, if_pos (by rw [hs]; omega), if_pos (by omega), if_pos (by rw [hs]; omega), if_pos (zeros _ _ (by omega)), wrap64_in (by omega) (by omega)]
    exact loop n h1 h2 d (i + 1) k (by omega) (by omega)
theorem pure : ∀ (a0 : Int), (Lit.int .i64 a0).wf = true → ∃ k, F.weirkeeperlaw04_DiskNew.f k a0 = some true := by
  intro n hn
  have hn2 := wf_i64 hn
  by_cases c : 1 ≤ n ∧ n ≤ 512
  · obtain ⟨m, rfl⟩ := Int.eq_ofNat_of_zero_le (by omega : 0 ≤ n)
    refine ⟨m * 32 + 3, ?_⟩
    have hr := new_right (n := m) (by omega) (by omega)
    unfold weirkeeperlaw04_DiskNew.f
    rw [New_ok c.1 c.2, Option.bind_some, if_neg (by omega), Int.toNat_natCast, weirkeeperlaw04_DiskNew.j0, if_neg (by rw [decide_eq_false (by omega)]; decide),
      Read_ok (fit_of (by simp; omega) (by simp)) hr (by rw [there_iff]; simp), Option.bind_some]
    have : ((applyW (fun _ => true) 0 [] (List.replicate m zero32)).take (0 + (m : Int)).toNat).drop (0 : Int).toNat = List.replicate m zero32 := by
      rw [applyW, Int.zero_add, Int.toNat_natCast, List.take_of_length_le (by simp)]
      rfl
    rw [this, new_datas]
    exact loop m (by omega) (by omega) (m * 32) 0 _ (by omega) (by omega)
  · refine ⟨3, ?_⟩
    unfold weirkeeperlaw04_DiskNew.f
    rw [New_bad c, Option.bind_some]
    by_cases c1 : n < 1
    · rw [if_pos c1, weirkeeperlaw04_DiskNew.j0, if_pos rfl]
      simp [awake_eq]
    · rw [if_neg c1, weirkeeperlaw04_DiskNew.j0, if_pos (decide_eq_true (by omega))]
      simp [awake_eq]
end Go.Proofs.Ythidkdlmpkeogaa.PlDiskNew
