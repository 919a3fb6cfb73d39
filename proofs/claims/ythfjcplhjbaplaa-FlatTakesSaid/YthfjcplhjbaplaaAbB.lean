/- Bytes and numbers, plainly. -/
import Derived.Test.YthfjcplhjbaplaaAb21
set_option linter.all false
namespace Go.Ab
set_option linter.unusedVariables false
/-- bytes as a string -/
def B (l : List UInt8) : ByteArray := ⟨l.toArray⟩
theorem B_nil : (⟨#[]⟩ : ByteArray) = B [] := rfl
theorem B_of (s : ByteArray) : s = B s.data.toList := by simp [B]
theorem B_data (l : List UInt8) : (B l).data.toList = l := by simp [B]
theorem B_size (l : List UInt8) : (B l).size = l.length := by simp [B, ByteArray.size]
theorem B_toList (l : List UInt8) : (B l).toList = l := ByteArray.toList_mk l
theorem B_inj {l m : List UInt8} (h : B l = B m) : l = m := by
  have := congrArg (fun s : ByteArray => s.data.toList) h
  simpa [B_data] using this
theorem B_append (l m : List UInt8) : B l ++ B m = B (l ++ m) := by
  rw [B_of (B l ++ B m)]
  simp [B]
theorem B_extract (l : List UInt8) (i j : Nat) : (B l).extract i j = B ((l.take j).drop i) := by
  rw [B_of ((B l).extract i j)]
  congr 1
  rw [ByteArray.data_extract]
  simp [B, List.drop_take]
theorem B_extract_all (l : List UInt8) (i : Nat) : (B l).extract i (B l).size = B (l.drop i) := by
  rw [B_extract, B_size, List.take_length]
theorem u64_wrap (n : Int) : IntKind.u64.wrap n = n % 18446744073709551616 := by simp [IntKind.wrap, IntKind.bits, IntKind.signed]
theorem u64_in {n : Int} (h0 : 0 ≤ n) (h1 : n < 18446744073709551616) : IntKind.u64.wrap n = n := by
  rw [u64_wrap]; omega
/-- the big-endian bytes of a number: the last s of them -/
def be (n : Nat) : Nat → List UInt8
  | 0 => []
  | s + 1 => UInt8.ofNat (n / 256 ^ s % 256) :: be n s
/-- a big-endian number -/
def val (l : List UInt8) : Nat := l.foldl (fun a b => a * 256 + b.toNat) 0

theorem be_length (n s : Nat) : (be n s).length = s := by
  induction s with
  | zero => rfl
  | succ s ih => simp [be, ih]
theorem be_snoc (s : Nat) : ∀ n, be n (s + 1) = be (n / 256) s ++ [UInt8.ofNat (n % 256)] := by
  induction s with
  | zero => intro n; simp [be]
  | succ s ih =>
    intro n
    rw [be, ih, be, List.cons_append, Nat.div_div_eq_div_mul, Nat.pow_succ, Nat.mul_comm 256]
theorem val_append_one (l : List UInt8) (b : UInt8) : val (l ++ [b]) = val l * 256 + b.toNat := by
  simp [val]
theorem val_be (s : Nat) : ∀ n, val (be n s) = n % 256 ^ s := by
  induction s with
  | zero => intro n; simp [be, val, Nat.mod_one]
  | succ s ih =>
    intro n
    rw [be_snoc, val_append_one, ih, Nat.pow_succ]
    have h1 : (UInt8.ofNat (n % 256)).toNat = n % 256 := by
      rw [UInt8.toNat_ofNat']; omega
    rw [h1, Nat.mul_comm (256 ^ s) 256, Nat.mod_mul]
    omega
theorem be_mod (s : Nat) : ∀ n, be (n % 256 ^ s) s = be n s := by
  induction s with
  | zero => intro n; rfl
  | succ s ih =>
    intro n
    have h : n % 256 ^ (s + 1) / 256 = n / 256 % 256 ^ s := by
      rw [Nat.pow_succ, Nat.mul_comm, Nat.mod_mul_right_div_self]
    have h2 : n % 256 ^ (s + 1) % 256 = n % 256 := by
      rw [Nat.pow_succ, Nat.mul_comm, Nat.mod_mul_right_mod]
    rw [be_snoc, be_snoc, h, h2, ih]
theorem snoc_of {α : Type} (l : List α) (h : 0 < l.length) : ∃ m b, l = m ++ [b] := by
  rcases List.eq_nil_or_concat l with e | ⟨m, b, e⟩
  · subst e; simp at h
  · exact ⟨m, b, by simpa using e⟩
theorem be_val (s : Nat) : ∀ l : List UInt8, l.length = s → be (val l) s = l := by
  induction s with
  | zero => intro l h; rw [List.eq_nil_of_length_eq_zero h]; rfl
  | succ s ih =>
    intro l h
    obtain ⟨m, b, rfl⟩ := snoc_of l (by omega)
    have hb : b.toNat < 256 := b.toNat_lt
    have h1 : (val m * 256 + b.toNat) / 256 = val m := by omega
    have h2 : (val m * 256 + b.toNat) % 256 = b.toNat := by omega
    rw [be_snoc, val_append_one, h1, h2, ih m (by simpa using h)]
    simp
theorem val_lt (l : List UInt8) : val l < 256 ^ l.length := by
  have h := val_be l.length (val l)
  rw [be_val l.length l rfl] at h
  rw [h]
  exact Nat.mod_lt _ (Nat.pow_pos (by decide))
theorem be_inj {n m s : Nat} (hn : n < 256 ^ s) (hm : m < 256 ^ s) (h : be n s = be m s) : n = m := by
  have := congrArg val h
  rwa [val_be, val_be, Nat.mod_eq_of_lt hn, Nat.mod_eq_of_lt hm] at this

theorem div_pow256 (n i : Nat) (hi : i ≤ 8) : ((n : Int) / 2 ^ min (8 * (i : Int)).toNat IntKind.u64.bits) = ((n / 256 ^ i : Nat) : Int) := by
  have e : min (8 * (i : Int)).toNat IntKind.u64.bits = 8 * i := by
    have : IntKind.u64.bits = 64 := rfl
    rw [this]; omega
  have p : (256 : Nat) ^ i = 2 ^ (8 * i) := by rw [Nat.pow_mul]
  rw [e, p]
  push_cast
  rfl

theorem tmod256 (q : Nat) : Int.tmod (q : Int) 256 % 256 = ((q % 256 : Nat) : Int) := by
  rw [Int.tmod_eq_emod_of_nonneg (by omega)]; omega
theorem tdiv256 (q : Nat) (h : q < 18446744073709551616) : IntKind.u64.wrap (Int.tdiv (q : Int) 256) = ((q / 256 : Nat) : Int) := by
  rw [Int.tdiv_eq_ediv_of_nonneg (by omega), u64_in (by omega) (by omega)]; omega
theorem set_mid {α : Type} (a : List α) (x y : α) (b : List α) (k : Nat) (h : a.length = k) : (a ++ x :: b).set k y = a ++ y :: b := by
  subst h
  simp

/-- A text, a number, a truth. -/
@[go_sem] abbrev sA (l : List UInt8) : AV := .v (.string (B l))
@[go_sem] abbrev boolA (b : Bool) : AV := .v (.bool b)
@[go_sem] abbrev iA (n : Int) : AV := .v (.int .i64 n)
@[go_sem] abbrev uA (n : Int) : AV := .v (.int .u64 n)
theorem B_get (l : List UInt8) (i : Nat) : (B l).get! i = l.getD i 0 := by
  show (B l).data[i]! = _
  simp [B, List.getD_eq_getElem?_getD]; rfl
theorem B_eq (l m : List UInt8) : (B l = B m) = (l = m) := propext ⟨B_inj, fun h => by rw [h]⟩
theorem mapMn {α β : Type} (f : α → Option β) : [].mapM f = some [] := rfl
theorem mapMc {α β : Type} (f : α → Option β) (a : α) (l : List α) : (a :: l).mapM f = (f a).bind fun x => (l.mapM f).bind fun r => some (x :: r) := by
  simp only [List.mapM_cons]; rfl
theorem or8 (a b : Nat) (hb : b < 256) (h : a * 256 + b < 18446744073709551616) : orI .u64 (IntKind.u64.wrap ((a : Int) * 2 ^ min 8 64)) (IntKind.u64.wrap (b : Int)) = ((a * 256 + b : Nat) : Int) := by
  show IntKind.u64.wrap ((BitVec.ofInt 64 (IntKind.u64.wrap ((a : Int) * 2 ^ min 8 64)) ||| BitVec.ofInt 64 (IntKind.u64.wrap (b : Int))).toNat : Nat) = _
  have e1 : IntKind.u64.wrap ((a : Int) * 2 ^ min 8 64) = ((2 ^ 8 * a : Nat) : Int) := by
    have : min 8 64 = 8 := rfl
    rw [this, u64_in (by omega) (by omega)]; omega
  have e2 : ((BitVec.ofInt 64 ((2 ^ 8 * a : Nat) : Int) ||| BitVec.ofInt 64 (b : Int)).toNat) = 2 ^ 8 * a + b := by
    rw [BitVec.ofInt_natCast, BitVec.ofInt_natCast, BitVec.toNat_or, BitVec.toNat_ofNat, BitVec.toNat_ofNat]
    rw [Nat.mod_eq_of_lt (by omega), Nat.mod_eq_of_lt (by omega), Nat.two_pow_add_eq_or_of_lt (i := 8) (by omega)]
  rw [e1, u64_in (n := (b : Int)) (by omega) (by omega), e2, u64_in (by omega) (by omega)]; omega
theorem fdiv256 (n s : Nat) (hs : s ≤ 8) : (n : Int).fdiv (2 ^ min (8 * (s : Int)).toNat 64) = ((n / 256 ^ s : Nat) : Int) := by
  have e : min (8 * (s : Int)).toNat 64 = 8 * s := by omega
  have p : (256 : Nat) ^ s = 2 ^ (8 * s) := by rw [Nat.pow_mul]
  rw [Int.fdiv_eq_ediv_of_nonneg _ (by exact Int.pow_nonneg (by decide)), e, p]
  push_cast
  rfl
@[go_sem] abbrev u8A (b : UInt8) : AV := .v (.int .u8 b.toNat)
theorem strOf_map (l : List UInt8) : strOf (l.map u8A) = some l := by
  induction l with
  | nil => rfl
  | cons a l ih => simp [strOf, ih]
theorem val_take_succ (l : List UInt8) (k : Nat) (h : k < l.length) : val (l.take (k + 1)) = val (l.take k) * 256 + (l.getD k 0).toNat := by
  rw [List.take_succ_eq_append_getElem h, val_append_one]; simp [List.getD_eq_getElem?_getD, h]
theorem val_take_lt (l : List UInt8) (k : Nat) (h : k ≤ 8) : val (l.take k) < 256 ^ k := by
  have := val_lt (l.take k)
  exact Nat.lt_of_lt_of_le this (Nat.pow_le_pow_right (by decide) (by simp; omega))
attribute [go_sem] mapMn mapMc false_and and_false implies_true
theorem B_mk (l : List UInt8) : (⟨l.toArray⟩ : ByteArray) = B l := rfl
theorem u8_wrap (n : Int) : IntKind.u8.wrap n = n % 256 := by simp [IntKind.wrap, IntKind.bits, IntKind.signed]
attribute [go_sem] B_mk B_get B_eq B_size B_append B_extract B_nil
end Go.Ab
