/- Contracts of Go functions of the seat Ytgccimhdbphenaa: what a call comes to; no condition but those that each theorem names. -/
import Derived.Test.YtgccimhdbphenaaProg
import Derived.Below
import Derived.Deep.Draws
import Derived.Deep.AppendLies
import Derived.Maps.AppendAt
import Derived.OwnWalk
import Derived.Laws.BytesArg
import Derived.Laws.MakeOwn
import Derived.Laws.OwnMore
import Derived.Deep.OwnRows
import Derived.Tactics
import Derived.Lib.ConvBytes
import Derived.Laws.Slices
import Derived.WalkKit
import Derived.KernelRfl
import Derived.RowKit3
import Derived.Deep.LoopGhost
import Derived.Deep.QuietTactic
import Derived.BigQuiet
import Derived.WideLaws
import Derived.Deep.DeepCutAuto
import Derived.Deep.CutBlock
import Derived.Deep.RegionHeld3
import Derived.Laws.Rows
import Derived.Lib.AppendStr
import Derived.ArgAppend
import Derived.Laws.IdiomCopy
import Derived.OrdersHeld
import Derived.Laws.BitsLemmas
import Derived.RowKit
import Derived.Test.YtgccimhdbphenaaWWords
import Derived.Test.YtgccimhdbphenaaWLast
import Derived.Test.YtgccimhdbphenaaWTab
import Derived.Test.YtgccimhdbphenaaWFour
import Derived.Test.YtgccimhdbphenaaWQPut
import Derived.Test.YtgccimhdbphenaaWApart
import Derived.Test.YtgccimhdbphenaaWArr
import Derived.Test.YtgccimhdbphenaaWZeros
import Derived.Test.YtgccimhdbphenaaWFoot
import Derived.Test.YtgccimhdbphenaaWKept
import Derived.Test.YtgccimhdbphenaaWShare
import Derived.Test.YtgccimhdbphenaaWN
import Derived.Test.YtgccimhdbphenaaWFootNe
import Derived.Test.YtgccimhdbphenaaWAt
import Derived.Test.YtgccimhdbphenaaWEqStruct
import Derived.Test.YtgccimhdbphenaaWRepsOne
import Derived.Test.YtgccimhdbphenaaWInv
import Derived.Test.YtgccimhdbphenaaWInvWords
import Derived.Test.YtgccimhdbphenaaWGuard
import Derived.Test.YtgccimhdbphenaaWNEv
import Derived.Test.YtgccimhdbphenaaWMore
import Derived.Laws.Cover1
namespace Go.Proofs.Ytgccimhdbphenaa.F
open Go.RowKit Go.Proofs.YtgccimhdbphenaaW.PrintWords Go.Proofs.YtgccimhdbphenaaW.PrintLast Go.Proofs.YtgccimhdbphenaaW.PrintMore
attribute [local go_sem] max2_int min2_int max_two min_two max_three min_three max_four min_four   -- for this text's walks alone
set_option linter.unusedVariables false
set_option linter.unusedSimpArgs false

theorem str_of {s : ByteArray} {l : List UInt8} (h : s.toList = l) : s = ⟨l.toArray⟩ := by
  rw [ByteArray.toList_eq] at h
  subst h
  simp
def errW : Option Int → Value
  | none => .nilIface
  | some c => .iface 0 (.int .i64 c)
theorem errW_none : errW none = .nilIface := rfl
theorem errW_some (c : Int) : errW (some c) = .iface 0 (.int .i64 c) := rfl

theorem info5 : (Try.prog.info? 5).map (fun i => (i.zero, i.size, i.bytes)) = some (some (.int .u8 0), 1, 1) := by kernel_rfl
theorem info9 : (Try.prog.info? 9).map (fun i => (i.zero, i.size, i.bytes)) = some (some (.string ⟨#[]⟩), 1, 16) := by kernel_rfl
theorem info55 : (Try.prog.info? 55).map (fun i => (i.zero, i.size, i.bytes)) = some (some (.agg #[(.int .i64 0), (.string ⟨#[]⟩), (.string ⟨#[]⟩), (.int .u64 0)]), 4, 48) := by kernel_rfl
-- the values' own types
/-! #### struct type 55 -/
structure S55 where
  f0 : Int
  f1 : ByteArray
  f2 : ByteArray
  f3 : Int
def z55 : S55 := ⟨(0 : Int), (⟨#[]⟩ : ByteArray), (⟨#[]⟩ : ByteArray), (0 : Int)⟩
def k55 : Kd S55 := Kd.iso (Kd.pair (Kd.int .i64) (Kd.pair Kd.string (Kd.pair Kd.string (Kd.int .u64)))) (fun x : S55 => (x.f0, x.f1, x.f2, x.f3))
theorem k55_open {w : World} {x : S55} {cs : List Value} (h : k55.K w x cs) : cs = [.int .i64 x.f0, .string x.f1, .string x.f2, .int .u64 x.f3] := by
  obtain ⟨_, _, rfl, rfl, ⟨_, _, rfl, rfl, ⟨_, _, rfl, rfl, rfl⟩⟩⟩ := h
  exact rfl
theorem k55_openM {w : World} {base : Nat} {ok : Nat → Prop} {x : S55} {cs : List Value} (h : k55.M w base ok x cs) : cs = [.int .i64 x.f0, .string x.f1, .string x.f2, .int .u64 x.f3] := by
  obtain ⟨_, _, rfl, rfl, ⟨_, _, rfl, rfl, ⟨_, _, rfl, rfl, rfl⟩⟩⟩ := h
  exact rfl
theorem k55_mk (w : World) (x : S55)  : k55.K w x [.int .i64 x.f0, .string x.f1, .string x.f2, .int .u64 x.f3] := ⟨[.int .i64 x.f0], [.string x.f1, .string x.f2, .int .u64 x.f3], rfl, rfl, ⟨[.string x.f1], [.string x.f2, .int .u64 x.f3], rfl, rfl, ⟨[.string x.f2], [.int .u64 x.f3], rfl, rfl, rfl⟩⟩⟩
theorem k55_mkM (w : World) (base : Nat) (ok : Nat → Prop) (x : S55)  : k55.M w base ok x [.int .i64 x.f0, .string x.f1, .string x.f2, .int .u64 x.f3] := ⟨[.int .i64 x.f0], [.string x.f1, .string x.f2, .int .u64 x.f3], rfl, rfl, ⟨[.string x.f1], [.string x.f2, .int .u64 x.f3], rfl, rfl, ⟨[.string x.f2], [.int .u64 x.f3], rfl, rfl, rfl⟩⟩⟩
def rd_T55 (xs : List S55) (i : Int) : S55 := xs.getD i.toNat z55
theorem at_T55 {w : World} {A : Option Addr} {n : Nat} {xs : List S55} (h : Kd.C k55 w A n xs) (i : Int) (h0 : 0 ≤ i) (h1 : i < n) : ∃ ad , A = some ad ∧ w.cell? (ad.add (i.toNat * 4)) = some (.int .i64 (rd_T55 xs i).f0) ∧ w.cell? ⟨(ad.add (i.toNat * 4)).block, (ad.add (i.toNat * 4)).off + 1, none⟩ = some (.string (rd_T55 xs i).f1) ∧ w.cell? ⟨(ad.add (i.toNat * 4)).block, (ad.add (i.toNat * 4)).off + 2, none⟩ = some (.string (rd_T55 xs i).f2) ∧ w.cell? ⟨(ad.add (i.toNat * 4)).block, (ad.add (i.toNat * 4)).off + 3, none⟩ = some (.int .u64 (rd_T55 xs i).f3) := by
  obtain ⟨ad, c, e, _, hK, hc0⟩ := Kd.C_get h z55 i h0 h1
  have hc : ∀ j u, c[j]? = some u → w.cell? (ad.add (i.toNat * 4 + j)) = some u := hc0
  obtain rfl := k55_open hK
  exact ⟨ad, e, hc 0 _ rfl, by rw [← add_field _ _ 1 (by omega)]; exact hc 1 _ rfl, by rw [← add_field _ _ 2 (by omega)]; exact hc 2 _ rfl, by rw [← add_field _ _ 3 (by omega)]; exact hc 3 _ rfl⟩
theorem eqA55 (d : Nat) (w : World) (x0 y0 : Int) (x1 y1 : ByteArray) (x2 y2 : ByteArray) (x3 y3 : Int) :
    (Op.equalIn (d + 2) 55 (.agg #[.int .i64 x0, .string x1, .string x2, .int .u64 x3]) (.agg #[.int .i64 y0, .string y1, .string y2, .int .u64 y3])).run Try.prog w = .ok (x0 == y0 && (x1.toList == y1.toList && (x2.toList == y2.toList && (x3 == y3)))) w := by
  refine eqA_of Try.underlying55 (by kernel_rfl) ?_
  refine eqf_cons (by rfl) (by go_simp; rfl) (by go_simp; rfl) (by go_simp) ?_
  refine eqf_cons (by rfl) (by go_simp; rfl) (by go_simp; rfl) (by go_simp) ?_
  refine eqf_cons (by rfl) (by go_simp; rfl) (by go_simp; rfl) (by go_simp) ?_
  exact eqf_last (by rfl) (by go_simp; rfl) (by go_simp; rfl) (by go_simp)
attribute [local go_sem high] eqA55
end Go.Proofs.Ytgccimhdbphenaa.F
