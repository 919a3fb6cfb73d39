/- Extents of sectors: what is free beside them; plain lists of pairs (place, length). -/
import Derived.Test.YthcohkgpbjcliaaBase
namespace Go.Proofs.Ythcohkgpbjcliaa.Pl
set_option linter.unusedVariables false
abbrev X := Int × Int
def OkX (a b : Int) (x : X) : Prop := a ≤ x.1 ∧ 1 ≤ x.2 ∧ x.1 + x.2 ≤ b
def Disj (x y : X) : Prop := x.1 + x.2 ≤ y.1 ∨ y.1 + y.2 ≤ x.1
def InX (s : Int) (x : X) : Prop := x.1 ≤ s ∧ s < x.1 + x.2
def CovX (s : Int) (l : List X) : Prop := ∃ x ∈ l, InX s x
theorem Disj.symm {x y : X} (h : Disj x y) : Disj y x := Or.symm h
theorem CovX_nil (s : Int) : ¬ CovX s [] := fun ⟨_, h, _⟩ => by cases h
theorem CovX_cons {s : Int} {x : X} {l : List X} : CovX s (x :: l) ↔ InX s x ∨ CovX s l := by simp [CovX]
theorem CovX_append {s : Int} {l m : List X} : CovX s (l ++ m) ↔ CovX s l ∨ CovX s m := by
  constructor
  · rintro ⟨x, hx, h⟩
    rcases List.mem_append.1 hx with hx | hx
    · exact .inl ⟨x, hx, h⟩
    · exact .inr ⟨x, hx, h⟩
  · rintro (⟨x, hx, h⟩ | ⟨x, hx, h⟩)
    · exact ⟨x, List.mem_append_left _ hx, h⟩
    · exact ⟨x, List.mem_append_right _ hx, h⟩
theorem CovX_one {s : Int} {x : X} : CovX s [x] ↔ InX s x := by simp [CovX]
theorem CovX_perm {l m : List X} (h : l.Perm m) (s : Int) : CovX s l ↔ CovX s m :=
  ⟨fun ⟨x, hx, hi⟩ => ⟨x, h.mem_iff.1 hx, hi⟩, fun ⟨x, hx, hi⟩ => ⟨x, h.mem_iff.2 hx, hi⟩⟩
/-- Extents that rise, from p to b. -/
def Chain : Int → List X → Int → Prop
  | p, [], b => p ≤ b
  | p, x :: l, b => p ≤ x.1 ∧ 1 ≤ x.2 ∧ Chain (x.1 + x.2) l b
def freeL : Int → List X → Int → List X
  | p, [], b => if p < b then [(p, b - p)] else []
  | p, x :: l, b => (if p < x.1 then [(p, x.1 - p)] else []) ++ freeL (x.1 + x.2) l b
def sumX : List X → Int
  | [] => 0
  | x :: l => x.2 + sumX l
theorem sumX_append (l m : List X) : sumX (l ++ m) = sumX l + sumX m := by
  induction l with
  | nil => simp [sumX]
  | cons x l ih => simp only [List.cons_append, sumX, ih]; omega
theorem sumX_perm {l m : List X} (h : l.Perm m) : sumX l = sumX m := by
  induction h with
  | nil => rfl
  | cons x _ ih => simp only [sumX, ih]
  | swap x y l => simp only [sumX]; omega
  | trans _ _ h1 h2 => exact h1.trans h2
theorem chain_le : ∀ {l : List X} {p b : Int}, Chain p l b → p ≤ b
  | [], _, _, h => h
  | x :: l, p, b, h => by have := chain_le h.2.2; have := h.1; have := h.2.1; omega
theorem chain_ok : ∀ {l : List X} {p b : Int}, Chain p l b → ∀ x ∈ l, OkX p b x
  | [], _, _, _, _, h => by cases h
  | x :: l, p, b, h, y, hy => by
    have h1 := h.1; have h2 := h.2.1; have h3 := chain_le h.2.2
    rcases List.mem_cons.1 hy with rfl | hy
    · exact ⟨h1, h2, h3⟩
    · have := chain_ok h.2.2 y hy
      exact ⟨by have := this.1; omega, this.2.1, this.2.2⟩
theorem chain_of : ∀ {l : List X} {p b : Int}, (∀ x ∈ l, OkX p b x) → l.Pairwise (fun x y => x.1 ≤ y.1) → l.Pairwise Disj → p ≤ b → Chain p l b
  | [], _, _, _, _, _, h => h
  | x :: l, p, b, h, hs, hd, hp => by
    have hx := h x List.mem_cons_self
    obtain ⟨s1, s2⟩ := List.pairwise_cons.1 hs
    obtain ⟨d1, d2⟩ := List.pairwise_cons.1 hd
    refine ⟨hx.1, hx.2.1, chain_of (fun y hy => ?_) s2 d2 hx.2.2⟩
    have hy1 := h y (List.mem_cons_of_mem _ hy)
    have a1 := s1 y hy
    have a2 := hy1.2.1
    refine ⟨?_, hy1.2.1, hy1.2.2⟩
    rcases d1 y hy with d | d
    · exact d
    · omega
theorem chain_disj : ∀ {l : List X} {p b : Int}, Chain p l b → l.Pairwise Disj
  | [], _, _, _ => List.Pairwise.nil
  | x :: l, p, b, h => List.pairwise_cons.2 ⟨fun y hy => .inl (chain_ok h.2.2 y hy).1, chain_disj h.2.2⟩
theorem free_cov : ∀ {l : List X} {p b : Int}, Chain p l b → ∀ s, CovX s (freeL p l b) ↔ p ≤ s ∧ s < b ∧ ¬ CovX s l
  | [], p, b, h, s => by
    unfold freeL
    by_cases c : p < b
    · rw [if_pos c, CovX_one]
      simp only [InX, CovX_nil, not_false_eq_true, and_true]
      omega
    · rw [if_neg c]
      constructor
      · intro h; exact absurd h (CovX_nil _)
      · rintro ⟨_, _, _⟩; omega
  | x :: l, p, b, h, s => by
    have ih := free_cov h.2.2 s
    have h1 := h.1; have h2 := h.2.1; have h3 := chain_le h.2.2
    have hno : CovX s l → x.1 + x.2 ≤ s := fun ⟨y, hy, hi⟩ => by have := (chain_ok h.2.2 y hy).1; have := hi.1; omega
    have e : CovX s (if p < x.1 then [(p, x.1 - p)] else []) ↔ p ≤ s ∧ s < x.1 := by
      by_cases c : p < x.1
      · rw [if_pos c, CovX_one]; simp only [InX]; omega
      · rw [if_neg c]
        constructor
        · intro h; exact absurd h (CovX_nil _)
        · rintro ⟨_, _⟩; omega
    unfold freeL
    rw [CovX_append, e, ih, CovX_cons]
    constructor
    · rintro (⟨u, v⟩ | ⟨u, v, w⟩)
      · refine ⟨u, by omega, fun hc => ?_⟩
        rcases hc with hc | hc
        · have := hc.1; omega
        · have := hno hc; omega
      · refine ⟨by omega, v, fun hc => ?_⟩
        rcases hc with hc | hc
        · have := hc.2; omega
        · exact w hc
    · rintro ⟨u, v, w⟩
      by_cases d : s < x.1
      · exact .inl ⟨u, d⟩
      · by_cases d2 : s < x.1 + x.2
        · exact absurd (.inl ⟨by omega, d2⟩) w
        · exact .inr ⟨by omega, v, fun hc => w (.inr hc)⟩
/-- Extents that do not even touch. -/
def Sep (p b : Int) (f : List X) : Prop := (∀ x ∈ f, OkX p b x) ∧ f.Pairwise (fun x y => x.1 + x.2 < y.1)
theorem Sep.lower {p q b : Int} {f : List X} (h : Sep p b f) (hq : q ≤ p) : Sep q b f := ⟨fun x hx => ⟨by have := (h.1 x hx).1; omega, (h.1 x hx).2.1, (h.1 x hx).2.2⟩, h.2⟩
theorem Sep.upper {p b c : Int} {f : List X} (h : Sep p b f) (hq : b ≤ c) : Sep p c f := ⟨fun x hx => ⟨(h.1 x hx).1, (h.1 x hx).2.1, by have := (h.1 x hx).2.2; omega⟩, h.2⟩
theorem free_sep : ∀ {l : List X} {p b : Int}, Chain p l b → Sep p b (freeL p l b)
  | [], p, b, h => by
    unfold freeL
    by_cases c : p < b
    · rw [if_pos c]
      exact ⟨fun x hx => by rw [List.mem_singleton.1 hx]; exact ⟨by simp, by simp; omega, by simp; omega⟩, List.pairwise_singleton _ _⟩
    · rw [if_neg c]
      exact ⟨fun x hx => (by cases hx), List.Pairwise.nil⟩
  | x :: l, p, b, h => by
    have ih := free_sep h.2.2
    have h1 := h.1; have h2 := h.2.1; have h3 := chain_le h.2.2
    unfold freeL
    by_cases c : p < x.1
    · rw [if_pos c, List.singleton_append]
      refine ⟨fun y hy => ?_, List.pairwise_cons.2 ⟨fun y hy => ?_, ih.2⟩⟩
      · rcases List.mem_cons.1 hy with rfl | hy
        · exact ⟨by simp, by simp; omega, by simp; omega⟩
        · have := ih.1 y hy; exact ⟨by have := this.1; omega, this.2⟩
      · have := (ih.1 y hy).1
        show p + (x.1 - p) < y.1
        omega
    · rw [if_neg c, List.nil_append]
      exact ih.lower (by omega)
theorem sep_cons {p b : Int} {x : X} {f : List X} (h : Sep p b (x :: f)) : OkX p b x ∧ Sep (x.1 + x.2 + 1) b f := by
  obtain ⟨h1, h2⟩ := List.pairwise_cons.1 h.2
  exact ⟨h.1 x List.mem_cons_self, fun y hy => ⟨by have := h1 y hy; omega, (h.1 y (List.mem_cons_of_mem _ hy)).2⟩, h2⟩
theorem sep_ge {p b s : Int} {f : List X} (h : Sep p b f) (hc : CovX s f) : p ≤ s ∧ s < b := by
  obtain ⟨x, hx, hi⟩ := hc
  have := h.1 x hx
  have := hi.1
  have := hi.2
  exact ⟨by have := (h.1 x hx).1; omega, by have := (h.1 x hx).2.2; omega⟩
theorem sep_unique : ∀ {f g : List X} {p b : Int}, Sep p b f → Sep p b g → (∀ s, CovX s f ↔ CovX s g) → f = g
  | [], [], _, _, _, _, _ => rfl
  | [], y :: g, _, _, _, hg, h => by
    have := (sep_cons hg).1
    exact absurd ((h y.1).2 (CovX_cons.2 (.inl ⟨by omega, by have := this.2.1; omega⟩))) (CovX_nil _)
  | x :: f, [], _, _, hf, _, h => by
    have := (sep_cons hf).1
    exact absurd ((h x.1).1 (CovX_cons.2 (.inl ⟨by omega, by have := this.2.1; omega⟩))) (CovX_nil _)
  | x :: f, y :: g, p, b, hf, hg, h => by
    obtain ⟨⟨x1, x2, x3⟩, hf'⟩ := sep_cons hf
    obtain ⟨⟨y1, y2, y3⟩, hg'⟩ := sep_cons hg
    have f1 : ∀ s, CovX s f → x.1 + x.2 + 1 ≤ s := fun s hs => (sep_ge hf' hs).1
    have g1 : ∀ s, CovX s g → y.1 + y.2 + 1 ≤ s := fun s hs => (sep_ge hg' hs).1
    have a1 : y.1 ≤ x.1 := by
      rcases CovX_cons.1 ((h x.1).1 (CovX_cons.2 (.inl ⟨by omega, by omega⟩))) with c | c
      · exact c.1
      · have := g1 _ c; omega
    have a2 : x.1 ≤ y.1 := by
      rcases CovX_cons.1 ((h y.1).2 (CovX_cons.2 (.inl ⟨by omega, by omega⟩))) with c | c
      · exact c.1
      · have := f1 _ c; omega
    have a3 : ¬ x.1 + x.2 < y.1 + y.2 := fun c => by
      rcases CovX_cons.1 ((h (x.1 + x.2)).2 (CovX_cons.2 (.inl ⟨by omega, c⟩))) with d | d
      · have := d.2; omega
      · have := f1 _ d; omega
    have a4 : ¬ y.1 + y.2 < x.1 + x.2 := fun c => by
      rcases CovX_cons.1 ((h (y.1 + y.2)).1 (CovX_cons.2 (.inl ⟨by omega, c⟩))) with d | d
      · have := d.2; omega
      · have := g1 _ d; omega
    have e : x = y := Prod.ext (by omega) (by omega)
    subst e
    refine congrArg (x :: ·) (sep_unique hf' hg' fun s => ⟨fun hs => ?_, fun hs => ?_⟩)
    · rcases CovX_cons.1 ((h s).1 (CovX_cons.2 (.inr hs))) with c | c
      · have := f1 _ hs; have := c.2; omega
      · exact c
    · rcases CovX_cons.1 ((h s).2 (CovX_cons.2 (.inr hs))) with c | c
      · have := g1 _ hs; have := c.2; omega
      · exact c
theorem free_sum : ∀ {l : List X} {p b : Int}, Chain p l b → sumX (freeL p l b) = b - p - sumX l
  | [], p, b, h => by
    unfold freeL
    by_cases c : p < b
    · rw [if_pos c]; simp [sumX]
    · rw [if_neg c]; have : p ≤ b := h; simp only [sumX]; omega
  | x :: l, p, b, h => by
    have ih := free_sum h.2.2
    have h1 := h.1
    unfold freeL
    rw [sumX_append, ih]
    by_cases c : p < x.1
    · rw [if_pos c]; simp only [sumX]; omega
    · rw [if_neg c]; simp only [sumX]; omega
theorem sum_le : ∀ {l : List X} {p b : Int}, Chain p l b → sumX l ≤ b - p ∧ 0 ≤ sumX l
  | [], p, b, h => by have : p ≤ b := h; simp only [sumX]; omega
  | x :: l, p, b, h => by have := sum_le h.2.2; have := h.1; have := h.2.1; simp only [sumX]; omega
/-- May extents be used, in an area? -/
def MayX (a b : Int) (l : List X) : Prop := 0 ≤ a ∧ a ≤ b ∧ b ≤ 2147483647 ∧ (∀ x ∈ l, OkX a b x) ∧ l.Pairwise Disj
theorem MayX_perm {a b : Int} {l m : List X} (h : l.Perm m) : MayX a b l ↔ MayX a b m := by
  unfold MayX
  rw [h.pairwise_iff Disj.symm]
  constructor
  · rintro ⟨h1, h2, h3, h4, h5⟩; exact ⟨h1, h2, h3, fun x hx => h4 x (h.mem_iff.2 hx), h5⟩
  · rintro ⟨h1, h2, h3, h4, h5⟩; exact ⟨h1, h2, h3, fun x hx => h4 x (h.mem_iff.1 hx), h5⟩
theorem disj_of {x y : X} (hx : 1 ≤ x.2) (hy : 1 ≤ y.2) (h : ∀ s, InX s x → ¬ InX s y) : Disj x y := by
  unfold Disj
  by_cases c : x.1 ≤ y.1
  · have := h y.1
    by_cases d : y.1 < x.1 + x.2
    · exact absurd ⟨by omega, by omega⟩ (this ⟨c, d⟩)
    · omega
  · have := h x.1 ⟨by omega, by omega⟩
    by_cases d : x.1 < y.1 + y.2
    · exact absurd ⟨by omega, d⟩ this
    · omega
theorem not_in_disj {x y : X} (h : Disj x y) {s : Int} (hx : InX s x) : ¬ InX s y := fun hy => by
  have := hx.1; have := hx.2; have := hy.1; have := hy.2
  rcases h with h | h <;> omega
theorem may_add {a b : Int} {l : List X} {x : X} (h : MayX a b l) (hx : OkX a b x) (hf : ∀ s, InX s x → ¬ CovX s l) : MayX a b (l ++ [x]) := by
  obtain ⟨h1, h2, h3, h4, h5⟩ := h
  refine ⟨h1, h2, h3, fun y hy => ?_, List.pairwise_append.2 ⟨h5, List.pairwise_singleton _ _, fun y hy z hz => ?_⟩⟩
  · rcases List.mem_append.1 hy with hy | hy
    · exact h4 y hy
    · rw [List.mem_singleton.1 hy]; exact hx
  · rw [List.mem_singleton.1 hz]
    exact (disj_of hx.2.1 (h4 y hy).2.1 (fun s hs hy' => hf s hs ⟨y, hy, hy'⟩)).symm
/-- Extents in the order of their places. -/
def Sorts (l s : List X) : Prop := s.Perm l ∧ s.Pairwise (fun x y => x.1 ≤ y.1)
theorem chain_may {a b : Int} {l s : List X} (h : MayX a b l) (hs : Sorts l s) : Chain a s b := by
  obtain ⟨h1, h2, h3, h4, h5⟩ := h
  exact chain_of (fun x hx => h4 x (hs.1.mem_iff.1 hx)) hs.2 ((hs.1.pairwise_iff Disj.symm).2 h5) h2
theorem may_chain {a b : Int} {l s : List X} (h0 : 0 ≤ a) (h1 : b ≤ 2147483647) (hs : Sorts l s) (hc : Chain a s b) : MayX a b l :=
  ⟨h0, chain_le hc, h1, fun x hx => chain_ok hc x (hs.1.mem_iff.2 hx), (hs.1.pairwise_iff Disj.symm).1 (chain_disj hc)⟩
theorem free_eq {a b : Int} {l m s t : List X} (h : MayX a b l) (h' : MayX a b m) (hs : Sorts l s) (ht : Sorts m t) (he : ∀ q, CovX q l ↔ CovX q m) : freeL a s b = freeL a t b := by
  have c1 := chain_may h hs
  have c2 := chain_may h' ht
  refine sep_unique (free_sep c1) (free_sep c2) fun q => ?_
  rw [free_cov c1, free_cov c2, CovX_perm hs.1, CovX_perm ht.1, he]
theorem free_in {a b : Int} {l s : List X} (h : MayX a b l) (hs : Sorts l s) (q : Int) : CovX q (freeL a s b) ↔ a ≤ q ∧ q < b ∧ ¬ CovX q l := by
  rw [free_cov (chain_may h hs), CovX_perm hs.1]
/-- between what is used: what the loop makes. -/
def gapsL : Int → List X → List X → List X × Bool
  | p, out, [] => (out, true)
  | p, out, x :: l => if x.1 < p then ([], false) else gapsL (x.1 + x.2) (if p < x.1 then out ++ [(p, x.1 - p)] else out) l
theorem gaps_chain : ∀ {l : List X} {p b : Int} {out : List X}, Chain p l b → gapsL p out (l ++ [(b, 0)]) = (out ++ freeL p l b, true)
  | [], p, b, out, h => by
    have : p ≤ b := h
    simp only [List.nil_append, gapsL, freeL]
    rw [if_neg (by omega)]
    by_cases c : p < b
    · rw [if_pos c, if_pos c]
    · rw [if_neg c, if_neg c, List.append_nil]
  | x :: l, p, b, out, h => by
    have ih := @gaps_chain l (x.1 + x.2) b
    have h1 := h.1
    simp only [List.cons_append, gapsL, freeL]
    rw [if_neg (by omega), ih h.2.2]
    by_cases c : p < x.1
    · rw [if_pos c, if_pos c, List.append_assoc]
    · rw [if_neg c, if_neg c, List.nil_append]
theorem gaps_not : ∀ {l : List X} {p b : Int} {out : List X}, (∀ x ∈ l, 1 ≤ x.2) → ¬ Chain p l b → gapsL p out (l ++ [(b, 0)]) = ([], false)
  | [], p, b, out, _, h => by
    have : ¬ p ≤ b := h
    simp only [List.nil_append, gapsL]
    rw [if_pos (by omega)]
  | x :: l, p, b, out, hl, h => by
    simp only [List.cons_append, gapsL]
    by_cases c : x.1 < p
    · rw [if_pos c]
    · rw [if_neg c]
      exact gaps_not (fun y hy => hl y (List.mem_cons_of_mem _ hy)) (fun hc => h ⟨by omega, hl x List.mem_cons_self, hc⟩)
/-! ### where so many fit -/
theorem sep_end : ∀ {f : List X} {p b : Int} {g : X}, Sep p b f → g ∈ f → ¬ CovX (g.1 + g.2) f
  | x :: f, p, b, g, h, hg, hc => by
    obtain ⟨⟨x1, x2, x3⟩, hf'⟩ := sep_cons h
    rcases List.mem_cons.1 hg with rfl | hg
    · rcases CovX_cons.1 hc with c | c
      · have := c.2; omega
      · have := (sep_ge hf' c).1; omega
    · have hg1 := (hf'.1 g hg)
      rcases CovX_cons.1 hc with c | c
      · have := c.2; have := hg1.1; have := hg1.2.1; omega
      · exact sep_end hf' hg c
theorem sep_run {f : List X} {p b : Int} (h : Sep p b f) {q n : Int} (hn : 1 ≤ n) (hc : ∀ s, q ≤ s → s < q + n → CovX s f) : ∃ g ∈ f, g.1 ≤ q ∧ q + n ≤ g.1 + g.2 := by
  obtain ⟨g, hg, hi⟩ := hc q (by omega) (by omega)
  refine ⟨g, hg, hi.1, ?_⟩
  by_cases c : q + n ≤ g.1 + g.2
  · exact c
  · have := hi.2
    exact absurd (hc (g.1 + g.2) (by omega) (by omega)) (sep_end h hg)
theorem find_first : ∀ {f : List X} {p b n : Int} {x g : X}, Sep p b f → f.find? (fun x => decide (n ≤ x.2)) = some x → g ∈ f → n ≤ g.2 → x.1 ≤ g.1
  | y :: f, p, b, n, x, g, h, hx, hg, hn => by
    obtain ⟨⟨y1, y2, y3⟩, hf'⟩ := sep_cons h
    by_cases c : n ≤ y.2
    · rw [List.find?_cons_of_pos (by simpa using c)] at hx
      obtain rfl := Option.some.inj hx
      rcases List.mem_cons.1 hg with rfl | hg
      · omega
      · have := (hf'.1 g hg).1; omega
    · rw [List.find?_cons_of_neg (by simpa using c)] at hx
      rcases List.mem_cons.1 hg with rfl | hg
      · exact absurd hn c
      · exact find_first hf' hx hg hn
end Go.Proofs.Ythcohkgpbjcliaa.Pl
