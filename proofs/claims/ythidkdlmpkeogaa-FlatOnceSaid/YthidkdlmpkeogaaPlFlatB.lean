/- What is read is what was written: plain laws of notes, pairs, changes and ranges as bytes. -/
import Derived.Test.YthidkdlmpkeogaaPlFlatR
namespace Go.Proofs.Ythidkdlmpkeogaa.Pl
open Go.RowKit Go.Proofs.Ythidkdlmpkeogaa.F Go.Proofs.YthidkdlmpkeogaaW.PrintWords Go.Proofs.YthidkdlmpkeogaaW.PrintLast Go.Proofs.YthidkdlmpkeogaaW.PrintMore
set_option linter.unusedVariables false
set_option linter.unusedSimpArgs false

theorem gN_more (s q : List UInt8) (h : (gN s).2.2 = false) : gN (s ++ q) = ((gN s).1, (gN s).2.1 ++ q, false) := by
  simp only [gN, Bool.or_eq_false_iff] at h ⊢
  obtain ⟨⟨⟨h1, h2⟩, h3⟩, h4⟩ := h
  rw [rnum_more s q 1 h1]
  simp only
  rw [rtext_more _ q h2]
  simp only
  rw [rtext_more _ q h3]
  simp only
  rw [rnum_more _ q 8 h4]
  simp only [Bool.or_self]
theorem gP_more (s q : List UInt8) (h : (gP s).2.2 = false) : gP (s ++ q) = ((gP s).1, (gP s).2.1 ++ q, false) := by
  simp only [gP, Bool.or_eq_false_iff] at h ⊢
  obtain ⟨h1, h2⟩ := h
  rw [rtext_more _ q h1]
  simp only
  rw [rtext_more _ q h2]
  rfl
theorem gC_more (s q : List UInt8) (h : (gC s).2.2 = false) : gC (s ++ q) = ((gC s).1, (gC s).2.1 ++ q, false) := by
  simp only [gC, Bool.or_eq_false_iff] at h ⊢
  obtain ⟨⟨⟨⟨⟨h1, h2⟩, h3⟩, h4⟩, h5⟩, h6⟩ := h
  rw [rnum_more s q 4 h1]
  simp only
  rw [rtext_more _ q h2]
  simp only
  rw [rflag_more _ q h3]
  simp only
  rw [rtext_more _ q h4]
  simp only
  rw [rflag_more _ q h5]
  simp only
  rw [rtext_more _ q h6]
  simp only [Bool.or_self]

theorem gN_of (n : Note) (q : List UInt8) (hf : nfine n) (h : nright n = true) : gN (encN n ++ q) = (n, q, false) := by
  obtain ⟨h0, h1, h2, h3⟩ := nright_kind n h
  obtain ⟨f0, f1⟩ := hf
  have e3 : n.f3 = ((n.f3.toNat : Nat) : Int) := by omega
  simp only [gN, encN, List.append_assoc]
  rw [rnum_of n.f0.toNat 1 (by omega)]
  simp only
  rw [rtext_of (bl n.f1) _ (by rw [bl_length]; omega)]
  simp only
  rw [rtext_of (bl n.f2) _ (by rw [bl_length]; omega)]
  simp only
  rw [rnum_of n.f3.toNat 8 (by show _ < 18446744073709551616; omega)]
  simp only [bl_B, Bool.or_false]
  rw [← h0, ← e3]
theorem gP_of (p : Pair) (q : List UInt8) (h : pright p = true) : gP (encP p ++ q) = (p, q, false) := by
  unfold pright at h
  rw [decide_eq_true_iff] at h
  simp only [gP, encP, List.append_assoc]
  rw [rtext_of (bl p.f0) _ (by rw [bl_length]; omega)]
  simp only
  rw [rtext_of (bl p.f1) _ (by rw [bl_length]; omega)]
  simp only [bl_B, Bool.or_false]
theorem gC_of (c : Change) (q : List UInt8) (h : cmay c = true) : gC (encC c ++ q) = (c, q, false) := by
  unfold cmay at h
  rw [decide_eq_true_iff] at h
  obtain ⟨⟨s1, s3, s5⟩, ⟨n1, n2⟩, -⟩ := h
  have e0 : ((c.f0.toNat : Nat) : Int) = c.f0 := by omega
  simp only [gC, encC, List.append_assoc]
  rw [rnum_of c.f0.toNat 4 (by show _ < 4294967296; omega)]
  simp only
  rw [rtext_of (bl c.f1) _ (by rw [bl_length]; omega)]
  simp only
  rw [rflag_of]
  simp only
  rw [rtext_of (bl c.f3) _ (by rw [bl_length]; omega)]
  simp only
  rw [rflag_of]
  simp only
  rw [rtext_of (bl c.f5) _ (by rw [bl_length]; omega)]
  simp only [bl_B, Bool.or_false]
  rw [e0]

theorem bl_of (l : List UInt8) : bl (B l) = l := B_data l
theorem gN_back (s : List UInt8) (h : (gN s).2.2 = false) : encN (gN s).1 ++ (gN s).2.1 = s := by
  simp only [gN, Bool.or_eq_false_iff] at h ⊢
  obtain ⟨⟨⟨h1, h2⟩, h3⟩, h4⟩ := h
  simp only [encN, Int.toNat_natCast, bl_of, List.append_assoc]
  rw [rnum_back _ 8 h4, rtext_back _ h3, rtext_back _ h2, rnum_back _ 1 h1]
theorem gP_back (s : List UInt8) (h : (gP s).2.2 = false) : encP (gP s).1 ++ (gP s).2.1 = s := by
  simp only [gP, Bool.or_eq_false_iff] at h ⊢
  obtain ⟨h1, h2⟩ := h
  simp only [encP, bl_of, List.append_assoc]
  rw [rtext_back _ h2, rtext_back _ h1]
theorem gC_back (s : List UInt8) (h : (gC s).2.2 = false) : encC (gC s).1 ++ (gC s).2.1 = s := by
  simp only [gC, Bool.or_eq_false_iff] at h ⊢
  obtain ⟨⟨⟨⟨⟨h1, h2⟩, h3⟩, h4⟩, h5⟩, h6⟩ := h
  simp only [encC, Int.toNat_natCast, bl_of, List.append_assoc]
  rw [rtext_back _ h6, rflag_back _ h5, rtext_back _ h4, rflag_back _ h3, rtext_back _ h2, rnum_back _ 4 h1]
theorem gN_fine (s : List UInt8) : nfine (gN s).1 := by
  have h := rnum_lt (rtext (rtext (rnum s 1).2.1).2.1).2.1 8
  simp only [gN, nfine]
  change _ < 18446744073709551616 at h
  omega

section
variable {α : Type} {g : List UInt8 → α × List UInt8 × Bool} {may : α → Bool} {enc : α → List UInt8} {Pr : α → Prop}

theorem takeN_more (hmore : ∀ s q, (g s).2.2 = false → g (s ++ q) = ((g s).1, (g s).2.1 ++ q, false)) (q : List UInt8) : ∀ (n : Nat) (s : List UInt8) (r : List α × List UInt8), takeN g may n s = some r → takeN g may n (s ++ q) = some (r.1, r.2 ++ q) := by
  intro n
  induction n with
  | zero => intro s r h; simp only [takeN, Option.some.injEq] at h ⊢; subst h; rfl
  | succ n ih =>
    intro s r h
    rw [takeN] at h
    cases hb : (g s).2.2 with
    | true => rw [hb, if_pos rfl] at h; exact absurd h (by simp)
    | false =>
      rw [hb] at h
      simp only [Bool.false_eq_true, if_false] at h
      cases hm : may (g s).1 with
      | false => rw [hm] at h; simp at h
      | true =>
        rw [hm] at h
        simp only [if_true, Option.map_eq_some_iff] at h
        obtain ⟨r', hr, rfl⟩ := h
        rw [takeN, hmore s q hb]
        simp only [Bool.false_eq_true, if_false, hm, if_true]
        rw [ih _ _ hr]
        rfl

theorem takeN_of (hof : ∀ x q, Pr x → may x = true → g (enc x ++ q) = (x, q, false)) (q : List UInt8) : ∀ (l : List α), (∀ x ∈ l, Pr x) → (∀ x ∈ l, may x = true) → takeN g may l.length (l.flatMap enc ++ q) = some (l, q) := by
  intro l
  induction l with
  | nil => intro _ _; simp [takeN]
  | cons x l ih =>
    intro hp hm
    have h1 := hof x (l.flatMap enc ++ q) (hp x (List.mem_cons_self ..)) (hm x (List.mem_cons_self ..))
    rw [List.length_cons, takeN, List.flatMap_cons, List.append_assoc, h1]
    simp only [Bool.false_eq_true, if_false, hm x (List.mem_cons_self ..), if_true]
    rw [ih (fun y hy => hp y (List.mem_cons_of_mem _ hy)) (fun y hy => hm y (List.mem_cons_of_mem _ hy))]
    rfl

theorem takeN_back (hback : ∀ s, (g s).2.2 = false → enc (g s).1 ++ (g s).2.1 = s) (hpr : ∀ s, Pr (g s).1) : ∀ (n : Nat) (s : List UInt8) (r : List α × List UInt8), takeN g may n s = some r →
    r.1.length = n ∧ (∀ x ∈ r.1, may x = true) ∧ (∀ x ∈ r.1, Pr x) ∧ r.1.flatMap enc ++ r.2 = s := by
  intro n
  induction n with
  | zero => intro s r h; simp only [takeN, Option.some.injEq] at h; subst h; simp
  | succ n ih =>
    intro s r h
    rw [takeN] at h
    cases hb : (g s).2.2 with
    | true => rw [hb, if_pos rfl] at h; exact absurd h (by simp)
    | false =>
      rw [hb] at h
      simp only [Bool.false_eq_true, if_false] at h
      cases hm : may (g s).1 with
      | false => rw [hm] at h; simp at h
      | true =>
        rw [hm] at h
        simp only [if_true, Option.map_eq_some_iff] at h
        obtain ⟨r', hr, rfl⟩ := h
        obtain ⟨i1, i2, i3, i4⟩ := ih _ _ hr
        refine ⟨by simp [i1], ?_, ?_, ?_⟩
        · intro x hx
          rcases List.mem_cons.1 hx with rfl | hx
          · exact hm
          · exact i2 x hx
        · intro x hx
          rcases List.mem_cons.1 hx with rfl | hx
          · exact hpr s
          · exact i3 x hx
        · rw [List.flatMap_cons, List.append_assoc, i4, hback s hb]

theorem takeL_of (hof : ∀ x q, Pr x → may x = true → g (enc x ++ q) = (x, q, false)) (l : List α) (q : List UInt8) (hp : ∀ x ∈ l, Pr x) (hm : ∀ x ∈ l, may x = true) (hn : l.length ≤ 65535) :
    takeL g may (be l.length 2 ++ l.flatMap enc ++ q) = some (l, q) := by
  have h2 : (be l.length 2).length = 2 := be_length _ _
  have e1 : (be l.length 2 ++ l.flatMap enc ++ q).take 2 = be l.length 2 := by
    rw [List.append_assoc, List.take_append_of_le_length (by omega), List.take_of_length_le (by omega)]
  have e2 : (be l.length 2 ++ l.flatMap enc ++ q).drop 2 = l.flatMap enc ++ q := by
    rw [List.append_assoc, List.drop_append_of_le_length (by omega), List.drop_of_length_le (by omega), List.nil_append]
  have e3 : val (be l.length 2) = l.length := by rw [val_be]; omega
  unfold takeL
  rw [e1, e2, e3, if_neg (by simp only [List.length_append]; omega)]
  exact takeN_of hof q l hp hm

theorem takeL_more (hmore : ∀ s q, (g s).2.2 = false → g (s ++ q) = ((g s).1, (g s).2.1 ++ q, false)) (s q : List UInt8) (r : List α × List UInt8) (h : takeL g may s = some r) : takeL g may (s ++ q) = some (r.1, r.2 ++ q) := by
  unfold takeL at *
  by_cases c : s.length < 2
  · rw [if_pos c] at h; exact absurd h (by simp)
  · rw [if_neg c] at h
    rw [if_neg (by rw [List.length_append]; omega), List.take_append_of_le_length (by omega), List.drop_append_of_le_length (by omega)]
    exact takeN_more hmore q _ _ _ h

theorem takeL_back (hback : ∀ s, (g s).2.2 = false → enc (g s).1 ++ (g s).2.1 = s) (hpr : ∀ s, Pr (g s).1) (s : List UInt8) (r : List α × List UInt8) (h : takeL g may s = some r) :
    r.1.length ≤ 65535 ∧ (∀ x ∈ r.1, may x = true) ∧ (∀ x ∈ r.1, Pr x) ∧ be r.1.length 2 ++ r.1.flatMap enc ++ r.2 = s := by
  unfold takeL at h
  by_cases c : s.length < 2
  · rw [if_pos c] at h; exact absurd h (by simp)
  · rw [if_neg c] at h
    obtain ⟨i1, i2, i3, i4⟩ := takeN_back hback hpr _ _ _ h
    have hv := val_lt (s.take 2)
    have h2 : (s.take 2).length = 2 := by simp; omega
    rw [h2] at hv
    have hv2 : val (s.take 2) < 65536 := hv
    refine ⟨by omega, i2, i3, ?_⟩
    rw [i1, be_val 2 (s.take 2) h2, List.append_assoc, i4, List.take_append_drop]

theorem takeL_cut (hof : ∀ x q, Pr x → may x = true → g (enc x ++ q) = (x, q, false)) (hmore : ∀ s q, (g s).2.2 = false → g (s ++ q) = ((g s).1, (g s).2.1 ++ q, false))
    (l : List α) (hp : ∀ x ∈ l, Pr x) (hm : ∀ x ∈ l, may x = true) (hn : l.length ≤ 65535) (i : Nat) (hi : i < (be l.length 2 ++ l.flatMap enc).length) :
    takeL g may ((be l.length 2 ++ l.flatMap enc).take i) = none := by
  cases h : takeL g may ((be l.length 2 ++ l.flatMap enc).take i) with
  | none => rfl
  | some r =>
    have h1 := takeL_more hmore _ ((be l.length 2 ++ l.flatMap enc).drop i) r h
    rw [List.take_append_drop] at h1
    have h2 := takeL_of hof l [] hp hm hn
    rw [List.append_nil, h1] at h2
    have h3 := congrArg Prod.snd (Option.some.inj h2)
    simp only at h3
    have h4 := congrArg List.length h3
    rw [List.length_append, List.length_drop] at h4
    simp only [List.length_nil] at h4
    omega
end

theorem takeRange_of (lo hi : ByteArray) (op : Bool) (q : List UInt8) (h : rright lo hi op = true) : takeRangeO (encR lo hi op ++ q) = some ((lo, hi, op), q) := by
  have h' := h
  unfold rright at h
  rw [decide_eq_true_iff] at h
  simp only [takeRangeO, encR, List.append_assoc]
  rw [rtext_of (bl lo) _ (by rw [bl_length]; omega)]
  simp only
  rw [rtext_of (bl hi) _ (by rw [bl_length]; omega)]
  simp only
  rw [rflag_of]
  simp only [bl_B, Bool.or_false, Bool.false_eq_true, if_false, h', if_true]
theorem takeRange_more (s q : List UInt8) (r : (ByteArray × ByteArray × Bool) × List UInt8) (h : takeRangeO s = some r) : takeRangeO (s ++ q) = some (r.1, r.2 ++ q) := by
  simp only [takeRangeO] at h ⊢
  cases hb : ((rtext s).2.2 || (rtext (rtext s).2.1).2.2 || (rflag (rtext (rtext s).2.1).2.1).2.2) with
  | true => rw [hb, if_pos rfl] at h; exact absurd h (by simp)
  | false =>
    rw [hb] at h
    simp only [Bool.or_eq_false_iff] at hb
    obtain ⟨⟨h1, h2⟩, h3⟩ := hb
    rw [rtext_more _ q h1]
    simp only
    rw [rtext_more _ q h2]
    simp only
    rw [rflag_more _ q h3]
    simp only [Bool.or_false, Bool.false_eq_true, if_false] at h ⊢
    split at h
    · rename_i c
      rw [if_pos c]
      rw [← Option.some.inj h]
    · exact absurd h (by simp)
theorem takeRange_back (s : List UInt8) (r : (ByteArray × ByteArray × Bool) × List UInt8) (h : takeRangeO s = some r) : rright r.1.1 r.1.2.1 r.1.2.2 = true ∧ encR r.1.1 r.1.2.1 r.1.2.2 ++ r.2 = s := by
  simp only [takeRangeO] at h
  cases hb : ((rtext s).2.2 || (rtext (rtext s).2.1).2.2 || (rflag (rtext (rtext s).2.1).2.1).2.2) with
  | true => rw [hb, if_pos rfl] at h; exact absurd h (by simp)
  | false =>
    rw [hb] at h
    simp only [Bool.or_eq_false_iff] at hb
    obtain ⟨⟨h1, h2⟩, h3⟩ := hb
    simp only [Bool.false_eq_true, if_false] at h
    split at h
    · rename_i c
      rw [← Option.some.inj h]
      refine ⟨c, ?_⟩
      simp only [encR, bl_of, List.append_assoc]
      rw [rflag_back _ h3, rtext_back _ h2, rtext_back _ h1]
    · exact absurd h (by simp)
theorem takeRange_cut (lo hi : ByteArray) (op : Bool) (h : rright lo hi op = true) (i : Nat) (hi' : i < (encR lo hi op).length) : takeRangeO ((encR lo hi op).take i) = none := by
  cases hh : takeRangeO ((encR lo hi op).take i) with
  | none => rfl
  | some r =>
    have h1 := takeRange_more _ ((encR lo hi op).drop i) r hh
    rw [List.take_append_drop] at h1
    have h2 := takeRange_of lo hi op [] h
    rw [List.append_nil, h1] at h2
    have h3 := congrArg Prod.snd (Option.some.inj h2)
    simp only at h3
    have h4 := congrArg List.length h3
    rw [List.length_append, List.length_drop] at h4
    simp only [List.length_nil] at h4
    omega
end Go.Proofs.Ythidkdlmpkeogaa.Pl
