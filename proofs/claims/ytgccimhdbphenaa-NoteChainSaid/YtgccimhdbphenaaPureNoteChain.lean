/- Notes that are put together, one by one, do to any value what they do one behind the other. -/
import Derived.Test.YtgccimhdbphenaaFlaw09NoteChain
import Derived.Test.YtgccimhdbphenaaPlAwake09
namespace Go.Proofs.Ytgccimhdbphenaa.PlNoteChain
open Go.RowKit Go.Proofs.Ytgccimhdbphenaa.F Go.Proofs.YtgccimhdbphenaaW.PrintWords Go.Proofs.YtgccimhdbphenaaW.PrintLast Go.Proofs.YtgccimhdbphenaaW.PrintMore Go.Proofs.Ytgccimhdbphenaa.Pl
set_option linter.unusedVariables false
set_option linter.unusedSimpArgs false


theorem chain (v : ByteArray) (has : Bool) (ms : List Note) : ∀ (a : Note), nfine a → (∀ n ∈ ms, nfine n) → done v has [ms.foldl both a] = done v has (a :: ms) ∧ nfine (ms.foldl both a) := by
  induction ms with
  | nil => intro a ha _; exact ⟨rfl, ha⟩
  | cons b ms ih =>
    intro a ha hm
    have hb := hm b (List.mem_cons_self ..)
    obtain ⟨h1, h2⟩ := ih (both a b) (both_fine a b ha hb) (fun n hn => hm n (List.mem_cons_of_mem _ hn))
    refine ⟨?_, h2⟩
    rw [List.foldl_cons, h1]
    simp only [done, List.foldl_cons, step_both _ a b ha hb]

theorem chain_key (ms : List Note) : ∀ (a : Note), (ms.foldl both a).f1 = ((a :: ms)[ms.length]'(by simp)).f1 := by
  induction ms with
  | nil => intro a; rfl
  | cons b ms ih =>
    intro a
    rw [List.foldl_cons, ih (both a b)]
    cases ms with
    | nil => simp [both_key]
    | cons c ms => simp

theorem body (v : ByteArray) (has : Bool) (a : Note) (ms : List Note) (fa : nfine a) (fm : ∀ n ∈ ms, nfine n) (hn : ms.length ≤ 60) (K : Nat) (hK : ∀ k, K ≤ k → weirkeeperlaw09_awake.f k = some true) (d : Nat) :
    ∀ (k i : Nat), i + d = ms.length → K + 100 + d ≤ k →
    weirkeeperlaw09_NoteChain.l0 k v has (a :: ms) ms (ms.length : Int) (i : Int) ((ms.take i).foldl both a).f0 ((ms.take i).foldl both a).f1 ((ms.take i).foldl both a).f2 ((ms.take i).foldl both a).f3 = some true := by
  induction d with
  | zero =>
    intro k i hi hk
    obtain ⟨k, rfl⟩ : ∃ m, k = m + 1 := ⟨k - 1, by omega⟩
    have e : i = ms.length := by omega
    subst e
    rw [List.take_length]
    obtain ⟨h1, h2⟩ := chain v has ms a fa fm
    have hk := chain_key ms a
    generalize ms.foldl both a = z at *
    simp only [weirkeeperlaw09_NoteChain.l0]
    have d1 := done_eq v has (a :: ms) (by intro n hn; rcases List.mem_cons.1 hn with rfl | hn; exact fa; exact fm n hn) (by simp; omega) k (by simp; omega)
    have d2 := done_eq v has [z] (by intro n hn; rw [List.mem_singleton] at hn; subst hn; exact h2) (by simp) k (by simp; omega)
    have w : wrap64 (((a :: ms).length : Int) - 1) = (ms.length : Int) := by rw [List.length_cons, wrap64_in (by omega) (by omega)]; omega
    have E : (⟨z.f0, z.f1, z.f2, z.f3⟩ : Note) = z := rfl
    rw [if_neg (by omega), d1, Option.bind_some, E, d2, Option.bind_some, h1, if_pos rfl, if_pos (by simp), w, if_pos (by omega), if_pos (by rw [List.length_cons]; omega), rdT (a :: ms) ms.length (by simp), if_pos (by rw [hk]), hK k (by omega)]
    rfl
  | succ d ih =>
    intro k i hi hk
    obtain ⟨k, rfl⟩ : ∃ m, k = m + 1 := ⟨k - 1, by omega⟩
    have hlt : i < ms.length := by omega
    have w4 : wrap64 ((i : Int) + 1) = ((i + 1 : Nat) : Int) := by rw [wrap64_in (by omega) (by omega)]; omega
    have ft := ih k (i + 1) (by omega) (by omega)
    rw [List.take_succ_eq_append_getElem hlt, List.foldl_append, List.foldl_cons, List.foldl_nil] at ft
    have fb := fm _ (List.getElem_mem hlt)
    simp only [weirkeeperlaw09_NoteChain.l0]
    rw [if_pos (by omega), if_pos (by omega), if_pos (by omega), rdT ms i hlt, both_eq _ _ fb k (by omega), Option.bind_some, w4]
    exact ft

theorem pure : ∀ (a0 : ByteArray) (a1 : Bool) (l2 : List F.S55), a0.size ≤ 140737488351232 → ((∀ yy ∈ l2, ((Lit.int .i64 yy.f0).wf = true ∧ yy.f1.size ≤ maxLen ∧ yy.f2.size ≤ maxLen ∧ (Lit.int .u64 yy.f3).wf = true)) ∧ l2.length ≤ maxLen) → ∃ k, F.weirkeeperlaw09_NoteChain.f k a0 a1 l2 = some true := by
  intro v has l _ hl
  obtain ⟨K, hK⟩ := awake09_holds
  refine ⟨K + 300, ?_⟩
  have fl : ∀ n ∈ l, nfine n := fun n hn => wf_u64 (hl.1 n hn).2.2.2
  unfold weirkeeperlaw09_NoteChain.f
  simp only [weirkeeperlaw09_NoteChain.j0, hK (K + 299) (by omega)]
  by_cases c1 : (v.size : Int) > 300
  · rw [if_pos c1]; rfl
  rw [if_neg c1]
  by_cases c2 : (l.length : Int) > 60
  · rw [if_pos c2]; rfl
  rw [if_neg c2]
  by_cases c3 : (l.length : Int) = 0
  · rw [if_pos c3]; rfl
  rw [if_neg c3]
  obtain ⟨s, hs⟩ := short_some l (by omega) (K + 300) (by omega)
  rw [hs, Option.bind_some]
  cases s with
  | false => rfl
  | true =>
    match l, fl, c2, c3 with
    | [], _, _, c3 => exact absurd rfl c3
    | a :: ms, fl, c2, c3 =>
      rw [List.length_cons] at c2
      have r0 : rd_T55 (a :: ms) 0 = a := rdT (a :: ms) 0 (by simp)
      rw [if_neg (by decide), if_pos (by rw [List.length_cons]; omega), if_pos (by rw [List.length_cons]; omega), Option.bind_some, r0, List.drop_one, List.tail_cons]
      exact body v has a ms (fl a (List.mem_cons_self ..)) (fun n hn => fl n (List.mem_cons_of_mem _ hn)) (by omega) K hK ms.length (K + 299) 0 (by omega) (by omega)
end Go.Proofs.Ytgccimhdbphenaa.PlNoteChain
