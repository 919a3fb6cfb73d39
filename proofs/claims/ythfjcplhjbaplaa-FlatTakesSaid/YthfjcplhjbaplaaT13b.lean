/- The fixed answer of the chapter is true: run at known values. -/
import Derived.Test.YthfjcplhjbaplaaT13
set_option linter.all false
namespace Go.Ab
open Go.Proofs
theorem isT_ok {o : Option (AV × List Blk × Nat)} (h : isT o = true) : ∃ n, o = some (.v (.bool true), [], n) := by
  unfold isT at h
  split at h
  · subst h; exact ⟨_, rfl⟩
  · cases h
theorem envOk : EnvOk Try.prog env where
  mixed := mixed
  fn g fn c hf hb hn := by
    have h := List.all_eq_true.1 okAll g (List.mem_range.2 (Array.getElem?_eq_some_iff.1 hf).1)
    unfold okG at h
    rw [hf] at h
    simp only [hb, Bool.or_eq_true, Bool.and_eq_true, beq_iff_eq] at h
    rcases h with h | ⟨⟨h1, h2⟩, h3⟩
    · omega
    · exact ⟨h1, h2, h3⟩
  orc g args r h := by cases h
theorem aw : isT (callE Try.prog env (evC Try.prog env 300) 4 [] [] 0) = true := by kernel_rfl
theorem awake13 : APure Try.prog 4 [] (.v (.bool true)) := by
  obtain ⟨n, h⟩ := isT_ok aw
  exact run_pure envOk rfl rfl h
end Go.Ab
