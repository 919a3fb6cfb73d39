import Derived.Test.YthcohkgpbjcliaaBase
namespace Go.Proofs.Ythcohkgpbjcliaa.Pl
open Go.RowKit Go.Proofs.YthcohkgpbjcliaaW.PrintWords Go.Proofs.YthcohkgpbjcliaaW.PrintMore

/-- what pack.Num answers -/
def numR (n : Nat) (size : Int) : ByteArray × Int := if 1 ≤ size ∧ size ≤ 8 ∧ n < 256 ^ size.toNat then (B (be n size.toNat), 0) else (B [], 1)
/-- what pack.Take answers -/
def takeR (l : List UInt8) (size : Int) : Int × ByteArray × Int :=
  if 1 ≤ size ∧ size ≤ 8 then (if l.length < size.toNat then (0, B [], 2) else ((val (l.take size.toNat) : Nat), B (l.drop size.toNat), 0)) else (0, B [], 1)
/-- what pack.Text answers -/
def textR (l : List UInt8) : ByteArray × Int := if l.length ≤ 65535 then (B (be l.length 2 ++ l), 0) else (B [], 1)
/-- what pack.TakeText answers -/
def takeTextR (l : List UInt8) : ByteArray × ByteArray × Int :=
  if l.length < 2 ∨ l.length < 2 + val (l.take 2) then (B [], B [], 2) else (B ((l.drop 2).take (val (l.take 2))), B ((l.drop 2).drop (val (l.take 2))), 0)
/-- the bytes of texts -/
def textsB (ls : List (List UInt8)) : List UInt8 := ls.flatMap fun l => be l.length 2 ++ l
/-- what pack.Texts answers -/
def textsR (ls : List (List UInt8)) : ByteArray × Int := if ∀ l ∈ ls, l.length ≤ 65535 then (B (textsB ls), 0) else (B [], 1)
/-- the texts that bytes are -/
def partsO : Nat → List UInt8 → Option (List (List UInt8))
  | 0, _ => some []
  | f + 1, l => if l = [] then some [] else if l.length < 2 ∨ l.length < 2 + val (l.take 2) then none else
      (partsO f ((l.drop 2).drop (val (l.take 2)))).map fun r => (l.drop 2).take (val (l.take 2)) :: r
/-- what pack.Parts answers -/
def partsR (l : List UInt8) : List ByteArray × Int := match partsO l.length l with
  | some r => (r.map B, 0)
  | none => ([], 2)

theorem textsB_nil : textsB [] = [] := rfl
theorem textsB_cons (l : List UInt8) (ls : List (List UInt8)) : textsB (l :: ls) = be l.length 2 ++ l ++ textsB ls := by simp [textsB]
theorem textsB_append (a b : List (List UInt8)) : textsB (a ++ b) = textsB a ++ textsB b := by simp [textsB]

theorem takeText_of (t s : List UInt8) (h : t.length ≤ 65535) : takeTextR (be t.length 2 ++ t ++ s) = (B t, B s, 0) := by
  have h2 : (be t.length 2).length = 2 := be_length _ _
  have e1 : (be t.length 2 ++ t ++ s).take 2 = be t.length 2 := by
    rw [List.append_assoc, List.take_append_of_le_length (by omega), List.take_of_length_le (by omega)]
  have e2 : (be t.length 2 ++ t ++ s).drop 2 = t ++ s := by
    rw [List.append_assoc, List.drop_append_of_le_length (by omega), List.drop_of_length_le (by omega), List.nil_append]
  have e3 : val (be t.length 2) = t.length := by rw [val_be]; omega
  have e4 : ((be t.length 2 ++ t ++ s).length) = 2 + t.length + s.length := by simp [be_length]; omega
  unfold takeTextR
  rw [e1, e2, e3, e4, if_neg (by omega)]
  simp

theorem partsO_more : ∀ (f g : Nat) (l : List UInt8), l.length ≤ f → l.length ≤ g → partsO f l = partsO g l := by
  intro f
  induction f with
  | zero =>
    intro g l hf _
    have e : l = [] := List.eq_nil_of_length_eq_zero (by omega)
    subst e
    cases g <;> simp [partsO]
  | succ f ih =>
    intro g l hf hg
    cases g with
    | zero =>
      have e : l = [] := List.eq_nil_of_length_eq_zero (by omega)
      subst e
      simp [partsO]
    | succ g =>
      unfold partsO
      by_cases e : l = []
      · rw [if_pos e, if_pos e]
      · rw [if_neg e, if_neg e]
        by_cases h : l.length < 2 ∨ l.length < 2 + val (l.take 2)
        · rw [if_pos h, if_pos h]
        · rw [if_neg h, if_neg h, ih g _ (by simp; omega) (by simp; omega)]

theorem partsO_cons (t s : List UInt8) (h : t.length ≤ 65535) (f : Nat) (hf : t.length + s.length + 2 ≤ f) : partsO f (be t.length 2 ++ t ++ s) = (partsO s.length s).map (t :: ·) := by
  obtain ⟨f, rfl⟩ : ∃ m, f = m + 1 := ⟨f - 1, by omega⟩
  have h2 : (be t.length 2).length = 2 := be_length _ _
  have e1 : (be t.length 2 ++ t ++ s).take 2 = be t.length 2 := by
    rw [List.append_assoc, List.take_append_of_le_length (by omega), List.take_of_length_le (by omega)]
  have e2 : (be t.length 2 ++ t ++ s).drop 2 = t ++ s := by
    rw [List.append_assoc, List.drop_append_of_le_length (by omega), List.drop_of_length_le (by omega), List.nil_append]
  have e3 : val (be t.length 2) = t.length := by rw [val_be]; omega
  have e4 : ((be t.length 2 ++ t ++ s).length) = 2 + t.length + s.length := by simp [be_length]; omega
  have hne : be t.length 2 ++ t ++ s ≠ [] := by
    intro e
    rw [e] at e4
    simp at e4
    omega
  conv => lhs; unfold partsO
  rw [if_neg hne, e1, e2, e3, e4, if_neg (by omega), List.take_left, List.drop_left, partsO_more f s.length s (by omega) (Nat.le_refl _)]

theorem partsR_texts (ls : List (List UInt8)) (h : ∀ l ∈ ls, l.length ≤ 65535) : partsR (textsB ls) = (ls.map B, 0) := by
  have H : ∀ f, (textsB ls).length ≤ f → partsO f (textsB ls) = some ls := by
    induction ls with
    | nil => intro f _; cases f <;> simp [partsO, textsB]
    | cons t ls ih =>
      intro f hf
      have ht := h t (List.mem_cons_self ..)
      have hl : (textsB (t :: ls)).length = 2 + t.length + (textsB ls).length := by rw [textsB_cons]; simp [be_length]; omega
      rw [textsB_cons, partsO_cons t _ ht f (by omega), ih (fun l hl => h l (List.mem_cons_of_mem _ hl)) _ (Nat.le_refl _)]
      rfl
  unfold partsR
  rw [H _ (Nat.le_refl _)]

/-- what is taken is written so -/
theorem take2_be (l : List UInt8) (h : ¬(l.length < 2 ∨ l.length < 2 + val (l.take 2))) :
    be ((l.drop 2).take (val (l.take 2))).length 2 ++ (l.drop 2).take (val (l.take 2)) ++ (l.drop 2).drop (val (l.take 2)) = l := by
  have h1 : ((l.drop 2).take (val (l.take 2))).length = val (l.take 2) := by simp; omega
  rw [h1, be_val 2 (l.take 2) (by simp; omega), List.append_assoc, List.take_append_drop, List.take_append_drop]

theorem partsO_back : ∀ (f : Nat) (l : List UInt8) (r : List (List UInt8)), l.length ≤ f → partsO f l = some r → textsB r = l ∧ (∀ t ∈ r, t.length ≤ 65535) ∧ r.length ≤ l.length := by
  intro f
  induction f with
  | zero =>
    intro l r hf h
    have e : l = [] := List.eq_nil_of_length_eq_zero (by omega)
    subst e
    simp [partsO] at h
    subst h
    simp [textsB]
  | succ f ih =>
    intro l r hf h
    unfold partsO at h
    by_cases e : l = []
    · rw [if_pos e] at h
      simp at h
      subst h
      subst e
      simp [textsB]
    · rw [if_neg e] at h
      by_cases hc : l.length < 2 ∨ l.length < 2 + val (l.take 2)
      · rw [if_pos hc] at h
        simp at h
      · rw [if_neg hc] at h
        simp only [Option.map_eq_some_iff] at h
        obtain ⟨r', hr', rfl⟩ := h
        obtain ⟨i1, i2, i3⟩ := ih _ r' (by simp; omega) hr'
        have hv : val (l.take 2) < 256 ^ (l.take 2).length := val_lt _
        have hv2 : (l.take 2).length = 2 := by simp; omega
        rw [hv2] at hv
        refine ⟨?_, ?_, ?_⟩
        · rw [textsB_cons, i1, take2_be l hc]
        · intro t ht
          rcases List.mem_cons.1 ht with rfl | ht
          · simp; omega
          · exact i2 t ht
        · simp at i3 ⊢
          omega
end Go.Proofs.Ythcohkgpbjcliaa.Pl
