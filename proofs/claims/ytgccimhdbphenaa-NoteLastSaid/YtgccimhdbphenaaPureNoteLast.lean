/- Behind a Put, or a Del, nothing that came ahead matters. -/
import Derived.Test.YtgccimhdbphenaaFlaw09NoteLast
import Derived.Test.YtgccimhdbphenaaPlAwake09
namespace Go.Proofs.Ytgccimhdbphenaa.PlNoteLast
open Go.RowKit Go.Proofs.Ytgccimhdbphenaa.F Go.Proofs.YtgccimhdbphenaaW.PrintWords Go.Proofs.YtgccimhdbphenaaW.PrintLast Go.Proofs.YtgccimhdbphenaaW.PrintMore Go.Proofs.Ytgccimhdbphenaa.Pl
set_option linter.unusedVariables false
set_option linter.unusedSimpArgs false


theorem last (v o : ByteArray) (has is : Bool) (l m : List Note) (n : Note) (h : n.f0 = 1 ∨ n.f0 = 2) : done v has (l ++ [n] ++ m) = done o is ([n] ++ m) := by
  rw [done_append, done_append, done_append]
  have e : ∀ s t, nstep s n = nstep t n := by
    intro s t
    unfold nstep
    rcases h with h | h <;> simp [h]
  simp only [List.foldl_cons, List.foldl_nil, done]
  rw [e]

theorem pure : ∀ (a0 : ByteArray) (a1 : ByteArray) (a2 : Bool) (a3 : Bool) (l4 : List F.S55) (l5 : List F.S55) (a6_0 : Int) (a6_1 : ByteArray) (a6_2 : ByteArray) (a6_3 : Int), a0.size ≤ 140737488351232 → a1.size ≤ 140737488351232 → ((∀ yy ∈ l4, ((Lit.int .i64 yy.f0).wf = true ∧ yy.f1.size ≤ maxLen ∧ yy.f2.size ≤ maxLen ∧ (Lit.int .u64 yy.f3).wf = true)) ∧ l4.length ≤ maxLen) → ((∀ yy ∈ l5, ((Lit.int .i64 yy.f0).wf = true ∧ yy.f1.size ≤ maxLen ∧ yy.f2.size ≤ maxLen ∧ (Lit.int .u64 yy.f3).wf = true)) ∧ l5.length ≤ maxLen) → (Lit.int .i64 a6_0).wf = true → a6_1.size ≤ maxLen → a6_2.size ≤ maxLen → (Lit.int .u64 a6_3).wf = true → ∃ k, F.weirkeeperlaw09_NoteLast.f k a0 a1 a2 a3 l4 l5 a6_0 a6_1 a6_2 a6_3 = some true := by
  intro v o has is l m n0 n1 n2 n3 _ _ hl hm _ _ _ h3
  obtain ⟨K, hK⟩ := awake09_holds
  refine ⟨K + 200, ?_⟩
  have fl : ∀ n ∈ l, nfine n := fun n hn => wf_u64 (hl.1 n hn).2.2.2
  have fm : ∀ n ∈ m, nfine n := fun n hn => wf_u64 (hm.1 n hn).2.2.2
  unfold weirkeeperlaw09_NoteLast.f
  simp only [weirkeeperlaw09_NoteLast.j0, hK (K + 199) (by omega)]
  obtain ⟨s3, h3s⟩ := short_some [⟨n0, n1, n2, n3⟩] (by simp) (K + 200) (by simp)
  rw [h3s]
  have fn : nfine ⟨n0, n1, n2, n3⟩ := wf_u64 h3
  generalize en : (⟨n0, n1, n2, n3⟩ : Note) = n at *
  have e0 : n0 = n.f0 := by subst en; rfl
  by_cases c1 : (v.size : Int) > 300
  · rw [if_pos c1]; rfl
  rw [if_neg c1]
  by_cases c2 : (o.size : Int) > 300
  · rw [if_pos c2]; rfl
  rw [if_neg c2]
  by_cases c3 : (l.length : Int) > 60
  · rw [if_pos c3]; rfl
  rw [if_neg c3]
  by_cases c4 : (m.length : Int) > 60
  · rw [if_pos c4]; rfl
  rw [if_neg c4]
  obtain ⟨s1, h1s⟩ := short_some l (by omega) (K + 200) (by omega)
  obtain ⟨s2, h2s⟩ := short_some m (by omega) (K + 200) (by omega)
  rw [h1s, h2s, Option.bind_some, Option.bind_some, Option.bind_some]
  have main : ∀ b, (b = false → n.f0 = 1 ∨ n.f0 = 2) → (if b = true then (some true).bind fun t410 => some t410 else
      (some (([] : List Note))).bind fun y411 => (if y411.length + l.length < 2932031007402 then ((some (y411 ++ l)).bind fun y414 => ((some [n]).bind fun y417 => (if y414.length + y417.length < 2932031007402 then ((some (y414 ++ y417)).bind fun y420 => (if y420.length + m.length < 2932031007402 then ((note_Done.f (K + 199) v has (y420 ++ m)).bind fun bt426 => ((some [n]).bind fun y428 => (if y428.length + m.length < 2932031007402 then ((note_Done.f (K + 199) o is (y428 ++ m)).bind fun bt434 => (if bt426.1.toList = bt434.1.toList then (if (bt426.2 == bt434.2) = true then ((some true).bind fun t436 => (some t436)) else (some false)) else (some false))) else (none)))) else (none))) else (none)))) else (none))) = some true := by
    intro b hb
    cases b with
    | true => rfl
    | false =>
      have hn := hb rfl
      have q1 : ([] : List Note).length + l.length < 2932031007402 := by simp; omega
      have q2 : (([] : List Note) ++ l).length + [n].length < 2932031007402 := by simp; omega
      have q3 : (([] : List Note) ++ l ++ [n]).length + m.length < 2932031007402 := by simp; omega
      have q4 : [n].length + m.length < 2932031007402 := by simp; omega
      have f1 : ∀ x ∈ [] ++ l ++ [n] ++ m, nfine x := by
        intro x hx
        simp only [List.nil_append, List.append_assoc, List.mem_append, List.mem_singleton] at hx
        rcases hx with hx | rfl | hx
        · exact fl x hx
        · exact fn
        · exact fm x hx
      have f2 : ∀ x ∈ [n] ++ m, nfine x := by
        intro x hx
        simp only [List.mem_append, List.mem_singleton] at hx
        rcases hx with rfl | hx
        · exact fn
        · exact fm x hx
      have d1 := done_eq v has ([] ++ l ++ [n] ++ m) f1 (by simp; omega) (K + 199) (by simp; omega)
      have d2 := done_eq o is ([n] ++ m) f2 (by simp; omega) (K + 199) (by simp; omega)
      rw [if_neg (by decide), Option.bind_some, if_pos q1, Option.bind_some, Option.bind_some, if_pos q2, Option.bind_some, if_pos q3, d1, Option.bind_some, Option.bind_some, if_pos q4, d2, Option.bind_some, List.nil_append, last v o has is l m n hn]
      simp
  cases s1 with
  | false => rfl
  | true =>
    cases s2 with
    | false => rfl
    | true =>
      cases s3 with
      | false => rfl
      | true =>
        rw [if_pos rfl, if_pos rfl, if_pos rfl]
        by_cases k1 : n0 = 1
        · rw [if_pos k1]
          exact main false (fun _ => Or.inl (by rw [← e0]; exact k1))
        · rw [if_neg k1]
          refine main (n0 != 2) (fun h => Or.inr ?_)
          rw [← e0]
          simpa using h
end Go.Proofs.Ytgccimhdbphenaa.PlNoteLast
