/- The abstract values, what they stand for in memory, and what a call owns. -/
import Derived.Orders
import Derived.Below
import Derived.Laws.Sem
set_option linter.all false
namespace Go.Ab
set_option linter.unusedVariables false

inductive AV where
  | bad
  | v (x : Value)
  | agg (l : List AV)
  | tup (l : List AV)
  | sl (k : Nat) (l : List AV)
  | nils
  | own (p k : Nat) (b : Option Nat) (off len : Nat)
  | ptr (p k : Nat) (b : Option Nat) (i j : Nat)
  | rp (d : AV) (j : Nat)
  | fn (f : Fn) (first captured : List AV)

def AV.cells : AV → List AV
  | .agg l => l
  | x => [x]

/-- What lies in one cell. -/
def oneA : AV → Bool
  | .bad | .agg _ | .tup _ => false
  | _ => true

/-- What an abstract value stands for: X are the blocks in which nothing of it may lie. -/
inductive Rep (X : Nat → Prop) (w : World) : AV → Value → Prop
  | bad (u : Value) : Rep X w .bad u
  | v (x : Value) (ho : x.oneCell' = true) : Rep X w (.v x) x
  | agg (l : List AV) (vs : Array Value) (hn : vs.size = l.length) (ho : ∀ (i : Nat) x, l[i]? = some x → oneA x = true) (h : ∀ (i : Nat) x u, l[i]? = some x → vs[i]? = some u → Rep X w x u) : Rep X w (.agg l) (.agg vs)
  | tup (l : List AV) (vs : Array Value) (hn : vs.size = l.length) (h : ∀ (i : Nat) x u, l[i]? = some x → vs[i]? = some u → Rep X w x u) : Rep X w (.tup l) (.tuple vs)
  | nils (a : Option Addr) : Rep X w .nils (.slice a 0 0)
  | sl0 (k : Nat) (a : Option Addr) (c : Nat) : Rep X w (.sl k []) (.slice a 0 c)
  | sl (k : Nat) (l : List AV) (b off c : Nat) (u : Nat → Nat → Value) (hx : ¬ X b) (hb : b < w.heap.size) (hc : l.length ≤ c)
      (hk : ∀ (i : Nat) x, l[i]? = some x → x.cells.length = k) (ho : ∀ (i : Nat) x (j : Nat) y, l[i]? = some x → x.cells[j]? = some y → oneA y = true)
      (hl : ∀ (i : Nat) x (j : Nat) y, l[i]? = some x → x.cells[j]? = some y → w.cell? ⟨b, off + i * k + j, none⟩ = some (u i j))
      (h : ∀ (i : Nat) x (j : Nat) y, l[i]? = some x → x.cells[j]? = some y → Rep X w y (u i j)) : Rep X w (.sl k l) (.slice (some ⟨b, off, none⟩) l.length c)
  | ownE (p k : Nat) (b : Option Nat) (off : Nat) (a : Option Addr) : Rep X w (.own p k b off 0) (.slice a 0 0)
  | own (p k b off len c : Nat) (hc : len ≤ c) (cs : Array Value) (e : TypeId) (z : Nat × Nat) (hb : w.heap[b]? = some (.cells cs e z)) (hs : (off + c) * k ≤ cs.size) :
      Rep X w (.own p k (some b) off len) (.slice (some ⟨b, off * k, none⟩) len c)
  | ptr (p k b i j : Nat) : Rep X w (.ptr p k (some b) i j) (.pointer (some ⟨b, i * k + j, none⟩))
  | rp (d : AV) (j b off : Nat) (u : Nat → Value) (hx : ¬ X b) (hb : b < w.heap.size) (ho : ∀ (i : Nat) y, d.cells[i]? = some y → oneA y = true)
      (hl : ∀ (i : Nat) y, d.cells[i]? = some y → w.cell? ⟨b, off + i, none⟩ = some (u i))
      (h : ∀ (i : Nat) y, d.cells[i]? = some y → Rep X w y (u i)) : Rep X w (.rp d j) (.pointer (some ⟨b, off + j, none⟩))
  | fn (f : Fn) (l1 l2 : List AV) (v1 v2 : Array Value) (n1 : v1.size = l1.length) (n2 : v2.size = l2.length)
      (h1 : ∀ (i : Nat) x u, l1[i]? = some x → v1[i]? = some u → Rep X w x u) (h2 : ∀ (i : Nat) x u, l2[i]? = some x → v2[i]? = some u → Rep X w x u) : Rep X w (.fn f l1 l2) (.func f v1 v2)

/-- A block that a call owns. -/
structure Blk where
  live : Bool
  b : Option Nat
  k : Nat
  t : TypeId
  c : List AV

def Tr (hp : List Blk) (n : Nat) : Prop := ∃ (p : Nat) (B : Blk), hp[p]? = some B ∧ B.live = true ∧ B.b = some n

/-- X, and what is owned. -/
def un (X : Nat → Prop) (hp : List Blk) : Nat → Prop := fun b => X b ∨ Tr hp b

def BlkOk (Y : Nat → Prop) (w : World) (B : Blk) : Prop :=
  (B.b = none → B.c = []) ∧ ∀ n, B.b = some n → ∃ cs, w.heap[n]? = some (.cells cs B.t (0, 0)) ∧ B.c.length * B.k ≤ cs.size ∧
    (∀ (i : Nat) x, B.c[i]? = some x → x.cells.length = B.k) ∧
    ∀ (i : Nat) x (j : Nat) y, B.c[i]? = some x → x.cells[j]? = some y → ∃ u, cs[i * B.k + j]? = some u ∧ oneA y = true ∧ Rep Y w y u

structure HeapOk (X : Nat → Prop) (hp : List Blk) (w : World) : Prop where
  ok : ∀ (p : Nat) B, hp[p]? = some B → B.live = true → BlkOk (un X hp) w B
  out : ∀ n, Tr hp n → ¬ X n
  lt : ∀ n, X n → n < w.heap.size
  one : ∀ (p q : Nat) B C n, hp[p]? = some B → hp[q]? = some C → B.live = true → C.live = true → B.b = some n → C.b = some n → p = q

/-- From w to w': what is not owned stays; sizes stay; what is owned then was so, or is new. -/
structure Ext (T : Nat → Prop) (w w' : World) (T' : Nat → Prop) : Prop where
  os : w'.os = w.os
  tape : w'.tape = w.tape
  output : w'.output = w.output
  size : w.heap.size ≤ w'.heap.size
  old : ∀ (b : Nat), b < w.heap.size → ¬ T b → w'.heap[b]? = w.heap[b]?
  rows : ∀ (b : Nat) cs e z, w.heap[b]? = some (Obj.cells cs e z) → ∃ cs' z', w'.heap[b]? = some (Obj.cells cs' e z') ∧ cs'.size = cs.size
  tr : ∀ b, T' b → T b ∨ w.heap.size ≤ b

theorem Ext.refl (T : Nat → Prop) (w : World) {T' : Nat → Prop} (h : ∀ b, T' b → T b) : Ext T w w T' :=
  ⟨rfl, rfl, rfl, Nat.le_refl _, fun _ _ _ => rfl, fun b cs e z h => ⟨cs, z, h, rfl⟩, fun b hb => .inl (h b hb)⟩

theorem Ext.trans {T T' T'' : Nat → Prop} {w w' w'' : World} (h : Ext T w w' T') (g : Ext T' w' w'' T'') : Ext T w w'' T'' := by
  refine ⟨g.os.trans h.os, g.tape.trans h.tape, g.output.trans h.output, Nat.le_trans h.size g.size, fun b hb hn => ?_, fun b cs e z hb => ?_, fun b hb => ?_⟩
  · rw [g.old b (Nat.lt_of_lt_of_le hb h.size) (fun hT => (h.tr b hT).elim hn (fun hge => by omega)), h.old b hb hn]
  · obtain ⟨cs', z', h1, h2⟩ := h.rows b cs e z hb
    obtain ⟨cs'', z'', h3, h4⟩ := g.rows b cs' e z' h1
    exact ⟨cs'', z'', h3, h4.trans h2⟩
  · rcases g.tr b hb with h1 | h1
    · exact h.tr b h1
    · exact .inr (Nat.le_trans h.size h1)

theorem Ext.sub {T T' T'' : Nat → Prop} {w w' : World} (h : Ext T w w' T') (hs : ∀ b, T'' b → T' b) : Ext T w w' T'' :=
  ⟨h.os, h.tape, h.output, h.size, h.old, h.rows, fun b hb => h.tr b (hs b hb)⟩
theorem Ext.drew {T T' : Nat → Prop} {w w' : World} (h : Ext T w w' T') (n : Nat) : Ext T w { w' with drawn := n } T' :=
  ⟨h.os, h.tape, h.output, h.size, h.old, h.rows, h.tr⟩

theorem cell_of_heap {w w' : World} {b : Nat} (h : w'.heap[b]? = w.heap[b]?) (o : Nat) (s : Option Nat) : w'.cell? ⟨b, o, s⟩ = w.cell? ⟨b, o, s⟩ := by
  simp [World.cell?, h]

/-- What stands for a value does so still, where what it reads has not been touched. -/
theorem Rep.mono {Y Y' : Nat → Prop} {w w' : World} (hold : ∀ (b : Nat), b < w.heap.size → ¬ Y b → w'.heap[b]? = w.heap[b]? ∧ ¬ Y' b) (hsz : w.heap.size ≤ w'.heap.size)
    (hrows : ∀ (b : Nat) cs e z, w.heap[b]? = some (Obj.cells cs e z) → ∃ cs' z', w'.heap[b]? = some (Obj.cells cs' e z') ∧ cs'.size = cs.size)
    {x : AV} {u : Value} (h : Rep Y w x u) : Rep Y' w' x u := by
  induction h with
  | bad u => exact .bad u
  | v x ho => exact .v x ho
  | agg l vs hn ho h ih => exact .agg l vs hn ho fun i x u hx hu => ih i x u hx hu
  | tup l vs hn h ih => exact .tup l vs hn fun i x u hx hu => ih i x u hx hu
  | nils a => exact .nils a
  | sl0 k a c => exact .sl0 k a c
  | sl k l b off c u hx hb hc hk ho hl h ih =>
    obtain ⟨h1, h2⟩ := hold b hb hx
    exact .sl k l b off c u h2 (Nat.lt_of_lt_of_le hb hsz) hc hk ho (fun i x j y hi hj => by rw [cell_of_heap h1]; exact hl i x j y hi hj) fun i x j y hi hj => ih i x j y hi hj
  | ownE p k b off a => exact .ownE p k b off a
  | own p k b off len c hc cs e z hb hs =>
    obtain ⟨cs', z', h1, h2⟩ := hrows b cs e z hb
    exact .own p k b off len c hc cs' e z' h1 (by rw [h2]; exact hs)
  | ptr p k b i j => exact .ptr p k b i j
  | rp d j b off u hx hb ho hl h ih =>
    obtain ⟨h1, h2⟩ := hold b hb hx
    exact .rp d j b off u h2 (Nat.lt_of_lt_of_le hb hsz) ho (fun i y hi => by rw [cell_of_heap h1]; exact hl i y hi) fun i y hi => ih i y hi
  | fn f l1 l2 v1 v2 n1 n2 h1 h2 ih1 ih2 => exact .fn f l1 l2 v1 v2 n1 n2 (fun i x u hx hu => ih1 i x u hx hu) fun i x u hx hu => ih2 i x u hx hu

theorem Rep.ext {X T T' : Nat → Prop} {w w' : World} (e : Ext T w w' T') {x : AV} {u : Value} (h : Rep (fun b => X b ∨ T b) w x u) : Rep (fun b => X b ∨ T' b) w' x u := by
  refine Rep.mono (fun b hb hn => ?_) e.size e.rows h
  refine ⟨e.old b hb (fun hT => hn (.inr hT)), fun hY => ?_⟩
  rcases hY with hX | hT
  · exact hn (.inl hX)
  · rcases e.tr b hT with h1 | h1
    · exact hn (.inr h1)
    · omega

theorem Rep.anti {Y Y' : Nat → Prop} {w : World} (hY : ∀ b, Y' b → Y b) {x : AV} {u : Value} (h : Rep Y w x u) : Rep Y' w x u :=
  Rep.mono (fun b hb hn => ⟨rfl, fun h' => hn (hY b h')⟩) (Nat.le_refl _) (fun b cs e z h => ⟨cs, z, h, rfl⟩) h

/-- The temporaries that are known. -/
abbrev Fr := List (Nat × AV)
def get (fr : Fr) (t : Nat) : AV :=
  match fr with
  | [] => .bad
  | (k, x) :: r => if k = t then x else get r t
def keepF (fr : Fr) : List Nat → Fr
  | [] => []
  | t :: r => (t, get fr t) :: keepF fr r

structure Sim (X : Nat → Prop) (n : Nat) (f : Nat → AV) (hp : List Blk) (a : Act) (w : World) : Prop where
  size : a.tmps.size = n
  defers : a.defers = []
  rep : ∀ t, Rep (un X hp) w (f t) (a.tmps.getD t undef)
  heap : HeapOk X hp w

theorem get_keepF (fr : Fr) (l : List Nat) (t : Nat) : get (keepF fr l) t = get fr t ∨ get (keepF fr l) t = .bad := by
  induction l with
  | nil => exact .inr rfl
  | cons k r ih =>
    simp only [keepF, get]
    split
    · subst_vars; exact .inl rfl
    · exact ih

theorem Sim.keep {X n fr hp a w} (h : Sim X n (get fr) hp a w) (l : List Nat) : Sim X n (get (keepF fr l)) hp a w :=
  ⟨h.size, h.defers, fun t => by
    rcases get_keepF fr l t with e | e
    · rw [e]; exact h.rep t
    · rw [e]; exact .bad _, h.heap⟩

def setO (fr : Fr) (d : Option Nat) (x : AV) : Fr := match d with | some d => (d, x) :: fr | none => fr
def setF (f : Nat → AV) (d : Option Nat) (x : AV) : Nat → AV := fun t => if d = some t then x else f t
theorem get_setO (fr : Fr) (d : Option Nat) (x : AV) : get (setO fr d x) = setF (get fr) d x := by
  funext t
  cases d with
  | none => simp [setO, setF]
  | some d => simp [setO, setF, get]

theorem Sim.put {X n f hp a w} (h : Sim X n f hp a w) {d : Option Nat} (hd : ∀ k, d = some k → k < n) {x : AV} {u : Value} (hx : Rep (un X hp) w x u) : Sim X n (setF f d x) hp (a.put d u) w := by
  cases d with
  | none => exact ⟨h.size, h.defers, fun t => by simpa [setF, Act.put] using h.rep t, h.heap⟩
  | some d =>
    have hd' := hd d rfl
    refine ⟨by simp [Act.put, h.size], by simp [Act.put, h.defers], fun t => ?_, h.heap⟩
    simp only [setF, Act.put, Option.some.injEq]
    by_cases e : d = t
    · subst e
      simp only [if_true]
      have : (a.tmps.setIfInBounds d u).getD d undef = u := by
        have : d < a.tmps.size := by rw [h.size]; exact hd'
        simp [Array.getD, this]
      rw [this]; exact hx
    · simp only [if_neg e]
      have : (a.tmps.setIfInBounds d u).getD t undef = a.tmps.getD t undef := by
        simp only [Array.getD_eq_getD_getElem?, Array.getElem?_setIfInBounds_ne e]
      rw [this]; exact h.rep t

theorem Sim.putL {X n fr hp a w} (h : Sim X n (get fr) hp a w) {d : Option Nat} (hd : ∀ k, d = some k → k < n) {x : AV} {u : Value} (hx : Rep (un X hp) w x u) : Sim X n (get (setO fr d x)) hp (a.put d u) w := by
  rw [get_setO]; exact h.put hd hx

/-- The contract of a call: at what its arguments stand for, and with blocks that it may write. -/
def ACall (P : Program) (f : FuncId) (args : List AV) (bs : List Blk) (K : AV → List Blk → Prop) : Prop :=
  ∀ (X : Nat → Prop) (w : World) (vs : Array Value), vs.size = args.length → (∀ (i : Nat) x u, args[i]? = some x → vs[i]? = some u → Rep (un X bs) w x u) → HeapOk X bs w →
    Calls P f vs w fun e w' => ∃ u r bs', e = .returned u ∧ Rep (un X bs') w' r u ∧ HeapOk X bs' w' ∧ Ext (Tr bs) w w' (Tr bs') ∧ K r bs'

theorem ACall.mono {P f args bs K K'} (h : ACall P f args bs K) (hk : ∀ r bs', K r bs' → K' r bs') : ACall P f args bs K' := by
  intro X w vs hn ha hh
  refine (h X w vs hn ha hh).mono fun e w' => ?_
  rintro ⟨u, r, bs', he, hr, ho, hx, hK⟩
  exact ⟨u, r, bs', he, hr, ho, hx, hk r bs' hK⟩
end Go.Ab
