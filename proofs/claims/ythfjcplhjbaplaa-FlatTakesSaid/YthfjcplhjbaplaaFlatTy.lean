/- Closed facts on the program's types, and what is told of each function's code. -/
import Derived.Test.YthfjcplhjbaplaaAbB
import Derived.Test.YthfjcplhjbaplaaProg
import Derived.KernelRfl
set_option linter.all false
namespace Go.Ab
open Go.Proofs
set_option linter.unusedVariables false
set_option maxRecDepth 100000
def Plan.seq : List Nat → Plan → Plan
  | [], p => p
  | i :: l, p => .one i (Plan.seq l p)
theorem ty : (fnOk Try.prog 3 = true) ∧
  (isStr Try.prog 9 = true) ∧
  (fnOk Try.prog 4 = true) ∧
  (fnOk Try.prog 5 = true) ∧
  (fnOk Try.prog 6 = true) ∧
  (fnOk Try.prog 7 = true) ∧
  (fnOk Try.prog 8 = true) ∧
  (tk Try.prog 34 = some (true, 3)) ∧
  (zcl Try.prog 34 = some [.v (.string ⟨#[]⟩), .v (.string ⟨#[]⟩), .v (.bool false)]) ∧
  (fnOk Try.prog 9 = true) ∧
  (eqd Try.prog 5 34 = some [(0, .str), (1, .str), (2, .bool)]) ∧
  (isBool Try.prog 4 = true) ∧
  (fnOk Try.prog 10 = true) ∧
  (zcl Try.prog 42 = some [.v (.bool false), .v (.bool false), .v (.bool false)]) ∧
  (pls Try.prog 42 = some [(0, 1), (1, 1), (2, 1)]) ∧
  (tk Try.prog 42 = some (true, 3)) ∧
  (zcl Try.prog 43 = some [.v (.string ⟨#[]⟩), .v (.string ⟨#[]⟩), .v (.string ⟨#[]⟩)]) ∧
  (pls Try.prog 43 = some [(0, 1), (1, 1), (2, 1)]) ∧
  (tk Try.prog 43 = some (true, 3)) ∧
  (isBytes Try.prog 39 = false) ∧
  (Try.prog.underlying 3 = some (.int .i64)) ∧
  (Try.prog.underlying 39 = some (.int .u64)) ∧
  (arr Try.prog 43 = some (3, 9, 1)) ∧
  (tk Try.prog 9 = some (false, 1)) ∧
  (fnOk Try.prog 11 = true) ∧
  (tk Try.prog 45 = some (true, 4)) ∧
  (zcl Try.prog 45 = some [.v (.int .i64 0), .v (.string ⟨#[]⟩), .v (.string ⟨#[]⟩), .v (.int .u64 0)]) ∧
  (arr Try.prog 42 = some (3, 4, 1)) ∧
  (tk Try.prog 4 = some (false, 1)) ∧
  (fnOk Try.prog 12 = true) ∧
  (tk Try.prog 49 = some (true, 2)) ∧
  (zcl Try.prog 49 = some [.v (.string ⟨#[]⟩), .v (.string ⟨#[]⟩)]) ∧
  (fnOk Try.prog 13 = true) ∧
  (tk Try.prog 53 = some (true, 6)) ∧
  (zcl Try.prog 53 = some [.v (.int .i64 0), .v (.string ⟨#[]⟩), .v (.bool false), .v (.string ⟨#[]⟩), .v (.bool false), .v (.string ⟨#[]⟩)]) ∧
  (fnOk Try.prog 14 = true) ∧
  (fnOk Try.prog 15 = true) ∧
  (fnOk Try.prog 16 = true) ∧
  (sle Try.prog 23 = some (45, 4)) ∧
  (eqd Try.prog 5 45 = some [(0, .int), (1, .str), (2, .str), (3, .int)]) ∧
  (sle Try.prog 27 = some (49, 2)) ∧
  (eqd Try.prog 5 49 = some [(0, .str), (1, .str)]) ∧
  (sle Try.prog 30 = some (53, 6)) ∧
  (eqd Try.prog 5 53 = some [(0, .int), (1, .str), (2, .bool), (3, .str), (4, .bool), (5, .str)]) ∧
  (sle Try.prog 59 = some (24, 1)) ∧
  (tk Try.prog 24 = some (false, 1)) ∧
  (zcl Try.prog 24 = some [.v (.int .i64 0)]) ∧
  (pls Try.prog 45 = some [(0, 1), (1, 1), (2, 1), (3, 1)]) ∧
  (fnOk Try.prog 17 = true) ∧
  (pls Try.prog 53 = some [(0, 1), (1, 1), (2, 1), (3, 1), (4, 1), (5, 1)]) ∧
  (fnOk Try.prog 18 = true) ∧
  (fnOk Try.prog 19 = true) ∧
  (pls Try.prog 34 = some [(0, 1), (1, 1), (2, 1)]) ∧
  (fnOk Try.prog 20 = true) ∧
  (fld Try.prog 45 3 = some (3, 39)) ∧
  (tk Try.prog 39 = some (false, 1)) ∧
  (fnOk Try.prog 21 = true) ∧
  (fnOk Try.prog 26 = true) ∧
  (fnOk Try.prog 29 = true) ∧
  (zcl Try.prog 79 = some [.v (.string ⟨#[]⟩), .v (.bool false)]) ∧
  (pls Try.prog 79 = some [(0, 1), (1, 1)]) ∧
  (tk Try.prog 79 = some (true, 2)) ∧
  (fnOk Try.prog 25 = true) ∧
  (fld Try.prog 34 0 = some (0, 9)) ∧
  (fld Try.prog 34 1 = some (1, 9)) ∧
  (fnOk Try.prog 32 = true) ∧
  (fld Try.prog 34 2 = some (2, 4)) ∧
  (fld Try.prog 79 1 = some (1, 4)) ∧
  (fnOk Try.prog 33 = true) ∧
  (fld Try.prog 79 0 = some (0, 9)) ∧
  (sle Try.prog 84 = some (3, 1)) ∧
  (tk Try.prog 3 = some (false, 1)) ∧
  (zcl Try.prog 3 = some [.v (.int .i64 0)]) ∧
  (fnOk Try.prog 34 = true) ∧
  (sle Try.prog 81 = some (9, 1)) ∧
  (fnOk Try.prog 35 = true) ∧
  (isBytes Try.prog 5 = false) ∧
  (Try.prog.underlying 5 = some (.int .u8)) ∧
  (fnOk Try.prog 36 = true) ∧
  (fnOk Try.prog 37 = true) ∧
  (pls Try.prog 49 = some [(0, 1), (1, 1)]) ∧
  (fnOk Try.prog 38 = true) ∧
  (fnOk Try.prog 39 = true) ∧
  (fld Try.prog 45 0 = some (0, 3)) ∧
  (isBytes Try.prog 3 = false) ∧
  (fnOk Try.prog 40 = true) ∧
  (fld Try.prog 45 1 = some (1, 9)) ∧
  (fnOk Try.prog 41 = true) ∧
  (fld Try.prog 45 2 = some (2, 9)) ∧
  (fld Try.prog 49 0 = some (0, 9)) ∧
  (fld Try.prog 49 1 = some (1, 9)) ∧
  (fld Try.prog 53 0 = some (0, 3)) ∧
  (fld Try.prog 53 1 = some (1, 9)) ∧
  (fld Try.prog 53 2 = some (2, 4)) ∧
  (fnOk Try.prog 42 = true) ∧
  (fld Try.prog 53 3 = some (3, 9)) ∧
  (fld Try.prog 53 4 = some (4, 4)) ∧
  (fld Try.prog 53 5 = some (5, 9)) ∧
  (fnOk Try.prog 43 = true) ∧
  (fnOk Try.prog 47 = true) ∧
  (fnOk Try.prog 50 = true) ∧
  (zcl Try.prog 100 = some [.v (.string ⟨#[]⟩), .v (.bool false)]) ∧
  (pls Try.prog 100 = some [(0, 1), (1, 1)]) ∧
  (tk Try.prog 100 = some (true, 2)) ∧
  (fnOk Try.prog 46 = true) ∧
  (fnOk Try.prog 49 = true) ∧
  (fld Try.prog 100 1 = some (1, 4)) ∧
  (fld Try.prog 100 0 = some (0, 9)) ∧
  (fnOk Try.prog 24 = true) ∧
  (sleB Try.prog 23 = some (45, 4, 48)) ∧
  (fnOk Try.prog 22 = true) ∧
  (fnOk Try.prog 23 = true) ∧
  (fnOk Try.prog 52 = true) ∧
  (fnOk Try.prog 53 = true) ∧
  (sleB Try.prog 27 = some (49, 2, 32)) ∧
  (fnOk Try.prog 27 = true) ∧
  (fnOk Try.prog 54 = true) ∧
  (fnOk Try.prog 28 = true) ∧
  (sleB Try.prog 30 = some (53, 6, 72)) ∧
  (fnOk Try.prog 30 = true) ∧
  (fnOk Try.prog 31 = true) ∧
  (fnOk Try.prog 55 = true) ∧
  (zcl Try.prog 9 = some [.v (.string ⟨#[]⟩)]) ∧
  (sleB Try.prog 81 = some (9, 1, 16)) ∧
  (fnOk Try.prog 56 = true) ∧
  (fnOk Try.prog 57 = true) ∧
  (fnOk Try.prog 45 = true) ∧
  (fnOk Try.prog 44 = true) ∧
  (fnOk Try.prog 58 = true) ∧
  (fnOk Try.prog 59 = true) ∧
  (fnOk Try.prog 48 = true) ∧
  (fnOk Try.prog 51 = true) ∧
  (fnOk Try.prog 60 = true) ∧
  (sle Try.prog 114 = some (5, 1)) ∧
  (tk Try.prog 5 = some (false, 1)) ∧
  (zcl Try.prog 5 = some [.v (.int .u8 0)]) ∧
  (isBytes Try.prog 114 = true) ∧
  (Try.prog.underlying 9 = some .string) ∧
  (Try.prog.underlying 114 = some (.slice 5)) ∧
  (byt Try.prog 5 = some 1) :=
  ⟨by kernel_rfl, by kernel_rfl, by kernel_rfl, by kernel_rfl, by kernel_rfl, by kernel_rfl, by kernel_rfl, by kernel_rfl, by kernel_rfl, by kernel_rfl, by kernel_rfl, by kernel_rfl, by kernel_rfl, by kernel_rfl, by kernel_rfl, by kernel_rfl, by kernel_rfl, by kernel_rfl, by kernel_rfl, by kernel_rfl, by kernel_rfl, by kernel_rfl, by kernel_rfl, by kernel_rfl, by kernel_rfl, by kernel_rfl, by kernel_rfl, by kernel_rfl, by kernel_rfl, by kernel_rfl, by kernel_rfl, by kernel_rfl, by kernel_rfl, by kernel_rfl, by kernel_rfl, by kernel_rfl, by kernel_rfl, by kernel_rfl, by kernel_rfl, by kernel_rfl, by kernel_rfl, by kernel_rfl, by kernel_rfl, by kernel_rfl, by kernel_rfl, by kernel_rfl, by kernel_rfl, by kernel_rfl, by kernel_rfl, by kernel_rfl, by kernel_rfl, by kernel_rfl, by kernel_rfl, by kernel_rfl, by kernel_rfl, by kernel_rfl, by kernel_rfl, by kernel_rfl, by kernel_rfl, by kernel_rfl, by kernel_rfl, by kernel_rfl, by kernel_rfl, by kernel_rfl, by kernel_rfl, by kernel_rfl, by kernel_rfl, by kernel_rfl, by kernel_rfl, by kernel_rfl, by kernel_rfl, by kernel_rfl, by kernel_rfl, by kernel_rfl, by kernel_rfl, by kernel_rfl, by kernel_rfl, by kernel_rfl, by kernel_rfl, by kernel_rfl, by kernel_rfl, by kernel_rfl, by kernel_rfl, by kernel_rfl, by kernel_rfl, by kernel_rfl, by kernel_rfl, by kernel_rfl, by kernel_rfl, by kernel_rfl, by kernel_rfl, by kernel_rfl, by kernel_rfl, by kernel_rfl, by kernel_rfl, by kernel_rfl, by kernel_rfl, by kernel_rfl, by kernel_rfl, by kernel_rfl, by kernel_rfl, by kernel_rfl, by kernel_rfl, by kernel_rfl, by kernel_rfl, by kernel_rfl, by kernel_rfl, by kernel_rfl, by kernel_rfl, by kernel_rfl, by kernel_rfl, by kernel_rfl, by kernel_rfl, by kernel_rfl, by kernel_rfl, by kernel_rfl, by kernel_rfl, by kernel_rfl, by kernel_rfl, by kernel_rfl, by kernel_rfl, by kernel_rfl, by kernel_rfl, by kernel_rfl, by kernel_rfl, by kernel_rfl, by kernel_rfl, by kernel_rfl, by kernel_rfl, by kernel_rfl, by kernel_rfl, by kernel_rfl, by kernel_rfl, by kernel_rfl, by kernel_rfl, by kernel_rfl, by kernel_rfl, by kernel_rfl, by kernel_rfl, by kernel_rfl⟩
attribute [go_sem] ty Plan.seq
theorem mixed : Try.prog.follows .mixedOrders = true := by kernel_rfl
/- weirkeeper/weirkeeperlaw13.FlatTakes 1 -/
def k3 : Nat → List Nat | 0 => [0] | 1 => [0, 34] | 2 => [2] | 3 => [0, 3, 4, 5] | 4 => [0, 3, 4, 5, 6, 7, 8] | 5 => [0, 3, 4, 5, 6, 7, 8, 9, 10, 11] | 6 => [0, 3, 4, 5, 6, 7, 8, 9, 10, 11, 12, 13, 14] | 7 => [0, 3, 4, 5, 6, 7, 8, 9, 10, 11, 12, 13, 14, 15, 16, 17] | 8 => [0, 3, 4, 5, 6, 7, 8, 9, 10, 11, 87] | 9 => [2] | 10 => [3, 4, 5, 6, 7, 8, 9, 10, 11, 18, 19, 20] | 11 => [3, 4, 5, 6, 7, 8, 9, 10, 11, 18, 19, 21] | 12 => [3, 4, 5, 6, 7, 8, 9, 10, 11, 18, 21, 22] | 13 => [3, 4, 5, 6, 7, 8, 9, 10, 11, 21, 22, 106, 107] | 14 => [3, 4, 5, 6, 7, 8, 9, 10, 11, 21, 22, 106, 107, 108] | 15 => [3, 4, 5, 6, 7, 8, 9, 10, 11, 21, 22, 23, 106, 107] | 16 => [3, 4, 5, 6, 7, 8, 9, 10, 11, 21, 22, 23, 24, 25, 106, 107] | 17 => [3, 4, 5, 6, 7, 8, 9, 10, 11, 21, 22, 23, 24, 106, 107] | 18 => [3, 4, 5, 6, 7, 8, 9, 10, 11, 21, 22, 23, 24, 26, 27, 106, 107] | 19 => [3, 4, 5, 6, 7, 8, 9, 10, 11, 21, 22, 23, 24, 26, 106, 107] | 20 => [3, 4, 5, 6, 7, 8, 9, 10, 11, 21, 22, 23, 24, 26, 28, 29, 106, 107] | 21 => [3, 4, 5, 6, 7, 8, 9, 10, 11, 21, 22, 23, 24, 26, 28, 106, 107] | 22 => [3, 4, 5, 6, 7, 8, 9, 10, 11, 21, 22, 23, 24, 26, 28, 106, 107, 147] | 23 => [3, 4, 5, 6, 7, 8, 9, 10, 11, 21, 22, 23, 24, 26, 28, 106, 107] | 24 => [3, 4, 5, 6, 7, 8, 9, 10, 11, 21, 22, 23, 24, 26, 28, 106, 107, 156] | 25 => [3, 4, 5, 6, 7, 8, 9, 10, 11, 21, 22, 23, 24, 26, 28, 106, 107] | 26 => [3, 4, 5, 6, 7, 8, 9, 10, 11, 21, 22, 23, 24, 26, 28, 106, 107, 165] | 27 => [3, 4, 5, 6, 7, 8, 9, 10, 11, 21, 22, 23, 24, 26, 28, 106, 107] | 28 => [3, 4, 5, 6, 7, 8, 9, 10, 11, 21, 22, 106, 107, 239] | 29 => [2] | 30 => [3, 4, 5, 6, 7, 8, 9, 10, 11, 21, 22, 106, 107, 252] | 31 => [3, 4, 5, 6, 7, 8, 9, 10, 11, 21, 22, 106, 107] | 32 => [4, 7, 10, 21, 22, 257, 258, 259] | 33 => [4, 7, 10, 21, 22, 257, 258, 259, 260] | 34 => [4, 7, 10, 21, 22, 30, 31, 257, 258, 259] | 35 => [4, 7, 10, 21, 22, 257, 258, 259, 279] | 36 => [2] | 37 => [4, 7, 10, 21, 22, 257, 258, 259] | 38 => [2] | _ => []
def p3 : Nat → Plan | 23 => .seq [0, 1, 2, 3, 4, 5, 6] (.br [(7, .fin)]) | 25 => .seq [0, 1, 2, 3, 4, 5, 6] (.br [(7, .fin)]) | 27 => .seq [0, 1, 2, 3, 4, 5, 6] (.br [(7, .fin)]) | 28 => .seq [0, 1, 2, 3, 4, 5, 6, 7, 8, 9, 10, 11, 12, 13, 14, 15, 16, 17, 18, 19, 20, 21, 22, 23, 24, 25, 26, 27, 28, 29, 30, 31, 32, 33, 34, 35, 36, 37, 38, 39, 40, 41, 42, 43, 44, 45, 46, 47, 48, 49, 50, 51, 52, 53, 54, 55, 56, 57, 58, 59, 60, 61, 62, 63, 64, 65, 66] (.fin) | _ => .fin
def c3 : Cfg := ⟨315, k3, [], [], p3⟩
theorem i3 {c : Code} {args x} (hb : Try.f3.body = some c) (hl : args.length ≤ 315) (h : W Try.prog c3 (RP Try.prog [.tmp 2] x) [.code c] (initF 0 args) []) : APure Try.prog 3 args x :=
  .intro (by kernel_rfl) mixed Try.func3 hb rfl rfl (okE hb (by kernel_rfl)) hl h
attribute [go_sem] k3 p3 c3
/- weirkeeper/weirkeeperlaw13.awake 0 -/
def k4 : Nat → List Nat | 0 => [] | 1 => [1, 2] | 2 => [1, 2, 3, 4, 5] | 3 => [1, 2, 3, 4, 5, 6, 7] | 4 => [1, 2, 3, 4, 5, 6, 7, 9] | 5 => [1, 2, 3, 4, 5, 6, 7, 9, 10, 11] | 6 => [1, 2, 3, 4, 5, 6, 7, 9, 10, 11, 12, 13] | 7 => [0] | _ => []
def p4 : Nat → Plan | _ => .fin
def c4 : Cfg := ⟨102, k4, [], [], p4⟩
theorem i4 {c : Code} {args x} (hb : Try.f4.body = some c) (hl : args.length ≤ 102) (h : W Try.prog c4 (RP Try.prog [.tmp 0] x) [.code c] (initF 0 args) []) : APure Try.prog 4 args x :=
  .intro (by kernel_rfl) mixed Try.func4 hb rfl rfl (okE hb (by kernel_rfl)) hl h
attribute [go_sem] k4 p4 c4
/- weirkeeper/flat.TakeNotes 0 -/
def k5 : Nat → List Nat | 0 => [0] | 1 => [2, 3, 4] | _ => []
def p5 : Nat → Plan | _ => .fin
def c5 : Cfg := ⟨10, k5, [], [], p5⟩
theorem i5 {c : Code} {args x} (hb : Try.f5.body = some c) (hl : args.length ≤ 10) (h : W Try.prog c5 (RP Try.prog [.tmp 2, .tmp 3, .tmp 4] x) [.code c] (initF 0 args) []) : APure Try.prog 5 args x :=
  .intro (by kernel_rfl) mixed Try.func5 hb rfl rfl (okE hb (by kernel_rfl)) hl h
attribute [go_sem] k5 p5 c5
/- weirkeeper/flat.TakePairs 0 -/
def k6 : Nat → List Nat | 0 => [0] | 1 => [2, 3, 4] | _ => []
def p6 : Nat → Plan | _ => .fin
def c6 : Cfg := ⟨10, k6, [], [], p6⟩
theorem i6 {c : Code} {args x} (hb : Try.f6.body = some c) (hl : args.length ≤ 10) (h : W Try.prog c6 (RP Try.prog [.tmp 2, .tmp 3, .tmp 4] x) [.code c] (initF 0 args) []) : APure Try.prog 6 args x :=
  .intro (by kernel_rfl) mixed Try.func6 hb rfl rfl (okE hb (by kernel_rfl)) hl h
attribute [go_sem] k6 p6 c6
/- weirkeeper/flat.TakeChanges 0 -/
def k7 : Nat → List Nat | 0 => [0] | 1 => [2, 3, 4] | _ => []
def p7 : Nat → Plan | _ => .fin
def c7 : Cfg := ⟨10, k7, [], [], p7⟩
theorem i7 {c : Code} {args x} (hb : Try.f7.body = some c) (hl : args.length ≤ 10) (h : W Try.prog c7 (RP Try.prog [.tmp 2, .tmp 3, .tmp 4] x) [.code c] (initF 0 args) []) : APure Try.prog 7 args x :=
  .intro (by kernel_rfl) mixed Try.func7 hb rfl rfl (okE hb (by kernel_rfl)) hl h
attribute [go_sem] k7 p7 c7
/- weirkeeper/flat.TakeRange 2 -/
def k8 : Nat → List Nat | 0 => [0, 2] | 1 => [2, 5] | 2 => [2, 5, 6] | 3 => [2, 5, 6] | 4 => [2, 5, 6] | 5 => [2, 5, 6] | 6 => [2, 5, 6, 27] | 7 => [2, 3, 4] | 8 => [2, 3, 4] | _ => []
def p8 : Nat → Plan | 8 => .seq [0, 1, 2, 3] (.br [(4, .br [(5, .seq [6, 7] (.fin))]), (5, .seq [4, 6, 7] (.fin))]) | _ => .fin
def c8 : Cfg := ⟨34, k8, [], [], p8⟩
theorem i8 {c : Code} {args x} (hb : Try.f8.body = some c) (hl : args.length ≤ 34) (h : W Try.prog c8 (RP Try.prog [.cell 2 34, .tmp 3, .tmp 4] x) [.code c] (initF 0 args) []) : APure Try.prog 8 args x :=
  .intro (by kernel_rfl) mixed Try.func8 hb rfl rfl (okE hb (by kernel_rfl)) hl h
attribute [go_sem] k8 p8 c8
/- weirkeeper/weirkeeperref13.TakeRange 1 -/
def k9 : Nat → List Nat | 0 => [0, 2] | 1 => [0, 2, 5, 6] | 2 => [0, 2, 5, 17] | 3 => [2, 3, 4] | 4 => [0, 2, 5, 7] | 5 => [0, 2, 5, 7, 38] | 6 => [2, 3, 4] | 7 => [0, 2, 7, 8] | 8 => [0, 2, 7, 8, 9] | 9 => [0, 2, 7, 8, 54] | 10 => [2, 3, 4] | 11 => [2, 3, 4] | _ => []
def p9 : Nat → Plan | 4 => .seq [0, 1, 2, 3, 4, 5, 6, 7, 8, 9, 10] (.fin) | 7 => .seq [0, 1, 2, 3, 4, 5, 6, 7, 8, 9, 10] (.br [(11, .br [(12, .fin)])]) | 11 => .seq [0, 1, 2, 3, 4] (.br [(5, .seq [6, 7] (.fin))]) | _ => .fin
def c9 : Cfg := ⟨61, k9, [], [], p9⟩
theorem i9 {c : Code} {args x} (hb : Try.f9.body = some c) (hl : args.length ≤ 61) (h : W Try.prog c9 (RP Try.prog [.cell 2 34, .tmp 3, .tmp 4] x) [.code c] (initF 0 args) []) : APure Try.prog 9 args x :=
  .intro (by kernel_rfl) mixed Try.func9 hb rfl rfl (okE hb (by kernel_rfl)) hl h
attribute [go_sem] k9 p9 c9
/- weirkeeper/weirkeeperref01.Take 1 -/
def k10 : Nat → List Nat | 0 => [0, 1] | 1 => [0, 1, 14] | 2 => [4, 5, 6] | 3 => [0, 1, 18] | 4 => [4, 5, 6] | 5 => [0, 1, 7] | 6 => [0, 1, 7, 8] | 7 => [0, 1, 7, 8, 21] | 8 => [0, 1, 7, 8] | 9 => [0, 1, 7, 8] | 10 => [4, 5, 6] | _ => []
def p10 : Nat → Plan | 10 => .seq [0, 1, 2, 3, 4, 5, 6] (.fin) | _ => .fin
def c10 : Cfg := ⟨35, k10, [], [], p10⟩
theorem i10 {c : Code} {args x} (hb : Try.f10.body = some c) (hl : args.length ≤ 35) (h : W Try.prog c10 (RP Try.prog [.tmp 4, .tmp 5, .tmp 6] x) [.code c] (initF 0 args) []) : APure Try.prog 10 args x :=
  .intro (by kernel_rfl) mixed Try.func10 hb rfl rfl (okE hb (by kernel_rfl)) hl h
attribute [go_sem] k10 p10 c10
/- weirkeeper/weirkeeperref13.TakeNote 1 -/
def k11 : Nat → List Nat | 0 => [0, 2] | 1 => [0, 2, 4, 5] | 2 => [0, 2, 4, 33] | 3 => [2, 3] | 4 => [0, 2, 4, 6] | 5 => [0, 2, 9] | 6 => [0, 2, 9, 10] | 7 => [2, 3] | _ => []
def p11 : Nat → Plan | 2 => .seq [0, 1, 2, 3, 4, 5, 6, 7, 8, 9, 10, 11, 12, 13, 14, 15, 16] (.fin) | 4 => .seq [0, 1, 2, 3, 4, 5, 6, 7, 8, 9, 10, 11, 12, 13, 14, 15, 16, 17, 18, 19] (.fin) | 5 => .seq [0, 1, 2, 3, 4, 5, 6, 7, 8, 9, 10] (.br [(11, .br [(12, .fin)])]) | 7 => .seq [0, 1, 2, 3, 4, 5, 6, 7] (.br [(8, .seq [9] (.fin))]) | _ => .fin
def c11 : Cfg := ⟨73, k11, [], [], p11⟩
theorem i11 {c : Code} {args x} (hb : Try.f11.body = some c) (hl : args.length ≤ 73) (h : W Try.prog c11 (RP Try.prog [.cell 2 45, .tmp 3] x) [.code c] (initF 0 args) []) : APure Try.prog 11 args x :=
  .intro (by kernel_rfl) mixed Try.func11 hb rfl rfl (okE hb (by kernel_rfl)) hl h
attribute [go_sem] k11 p11 c11
/- weirkeeper/weirkeeperref13.TakePair 1 -/
def k12 : Nat → List Nat | 0 => [0, 2] | 1 => [2, 4, 5] | 2 => [2, 4, 15] | 3 => [2, 3] | 4 => [2, 6] | 5 => [2, 6, 7] | 6 => [2, 3] | _ => []
def p12 : Nat → Plan | 4 => .seq [0, 1, 2, 3, 4, 5, 6] (.br [(7, .br [(8, .fin)])]) | _ => .fin
def c12 : Cfg := ⟨29, k12, [], [], p12⟩
theorem i12 {c : Code} {args x} (hb : Try.f12.body = some c) (hl : args.length ≤ 29) (h : W Try.prog c12 (RP Try.prog [.cell 2 49, .tmp 3] x) [.code c] (initF 0 args) []) : APure Try.prog 12 args x :=
  .intro (by kernel_rfl) mixed Try.func12 hb rfl rfl (okE hb (by kernel_rfl)) hl h
attribute [go_sem] k12 p12 c12
/- weirkeeper/weirkeeperref13.TakeChange 1 -/
def k13 : Nat → List Nat | 0 => [0, 2] | 1 => [0, 2, 4, 5] | 2 => [0, 2, 4, 20] | 3 => [2, 3] | 4 => [0, 2, 4, 6] | 5 => [0, 2, 4, 6, 9] | 6 => [0, 2, 4, 6, 9, 10] | 7 => [0, 2, 11] | 8 => [0, 2, 11, 12] | 9 => [2, 3] | _ => []
def p13 : Nat → Plan | 7 => .seq [0, 1, 2, 3, 4, 5, 6, 7, 8, 9, 10, 11, 12, 13, 14, 15, 16, 17, 18, 19] (.br [(20, .br [(21, .fin)])]) | 9 => .seq [0, 1, 2, 3, 4, 5, 6, 7] (.br [(8, .seq [9] (.fin))]) | _ => .fin
def c13 : Cfg := ⟨70, k13, [], [], p13⟩
theorem i13 {c : Code} {args x} (hb : Try.f13.body = some c) (hl : args.length ≤ 70) (h : W Try.prog c13 (RP Try.prog [.cell 2 53, .tmp 3] x) [.code c] (initF 0 args) []) : APure Try.prog 13 args x :=
  .intro (by kernel_rfl) mixed Try.func13 hb rfl rfl (okE hb (by kernel_rfl)) hl h
attribute [go_sem] k13 p13 c13
/- weirkeeper/weirkeeperref13.Note 1 -/
def k14 : Nat → List Nat | 0 => [1] | 1 => [2] | _ => []
def p14 : Nat → Plan | 1 => .seq [0, 1, 2, 3, 4, 5, 6, 7, 8, 9, 10, 11, 12, 13, 14, 15, 16] (.fin) | _ => .fin
def c14 : Cfg := ⟨19, k14, [], [], p14⟩
theorem i14 {c : Code} {args x} (hb : Try.f14.body = some c) (hl : args.length ≤ 19) (h : W Try.prog c14 (RP Try.prog [.tmp 2] x) [.code c] (initF 0 args) []) : APure Try.prog 14 args x :=
  .intro (by kernel_rfl) mixed Try.func14 hb rfl rfl (okE hb (by kernel_rfl)) hl h
attribute [go_sem] k14 p14 c14
/- weirkeeper/weirkeeperref13.Pair 1 -/
def k15 : Nat → List Nat | 0 => [1] | 1 => [2] | _ => []
def p15 : Nat → Plan | 1 => .seq [0, 1, 2, 3, 4, 5, 6, 7] (.fin) | _ => .fin
def c15 : Cfg := ⟨10, k15, [], [], p15⟩
theorem i15 {c : Code} {args x} (hb : Try.f15.body = some c) (hl : args.length ≤ 10) (h : W Try.prog c15 (RP Try.prog [.tmp 2] x) [.code c] (initF 0 args) []) : APure Try.prog 15 args x :=
  .intro (by kernel_rfl) mixed Try.func15 hb rfl rfl (okE hb (by kernel_rfl)) hl h
attribute [go_sem] k15 p15 c15
/- weirkeeper/weirkeeperref13.Change 1 -/
def k16 : Nat → List Nat | 0 => [1] | 1 => [2] | _ => []
def p16 : Nat → Plan | 1 => .seq [0, 1, 2, 3, 4, 5, 6, 7, 8, 9, 10, 11, 12, 13, 14, 15, 16, 17, 18, 19, 20, 21, 22, 23, 24] (.fin) | _ => .fin
def c16 : Cfg := ⟨27, k16, [], [], p16⟩
theorem i16 {c : Code} {args x} (hb : Try.f16.body = some c) (hl : args.length ≤ 27) (h : W Try.prog c16 (RP Try.prog [.tmp 2] x) [.code c] (initF 0 args) []) : APure Try.prog 16 args x :=
  .intro (by kernel_rfl) mixed Try.func16 hb rfl rfl (okE hb (by kernel_rfl)) hl h
attribute [go_sem] k16 p16 c16
/- weirkeeper/flat.Notes 0 -/
def k17 : Nat → List Nat | 0 => [0] | 1 => [2, 3] | _ => []
def p17 : Nat → Plan | _ => .fin
def c17 : Cfg := ⟨8, k17, [], [], p17⟩
theorem i17 {c : Code} {args x} (hb : Try.f17.body = some c) (hl : args.length ≤ 8) (h : W Try.prog c17 (RP Try.prog [.tmp 2, .tmp 3] x) [.code c] (initF 0 args) []) : APure Try.prog 17 args x :=
  .intro (by kernel_rfl) mixed Try.func17 hb rfl rfl (okE hb (by kernel_rfl)) hl h
attribute [go_sem] k17 p17 c17
/- weirkeeper/flat.Changes 0 -/
def k18 : Nat → List Nat | 0 => [0] | 1 => [2, 3] | _ => []
def p18 : Nat → Plan | _ => .fin
def c18 : Cfg := ⟨8, k18, [], [], p18⟩
theorem i18 {c : Code} {args x} (hb : Try.f18.body = some c) (hl : args.length ≤ 8) (h : W Try.prog c18 (RP Try.prog [.tmp 2, .tmp 3] x) [.code c] (initF 0 args) []) : APure Try.prog 18 args x :=
  .intro (by kernel_rfl) mixed Try.func18 hb rfl rfl (okE hb (by kernel_rfl)) hl h
attribute [go_sem] k18 p18 c18
/- weirkeeper/flat.Pairs 0 -/
def k19 : Nat → List Nat | 0 => [0] | 1 => [2, 3] | _ => []
def p19 : Nat → Plan | _ => .fin
def c19 : Cfg := ⟨8, k19, [], [], p19⟩
theorem i19 {c : Code} {args x} (hb : Try.f19.body = some c) (hl : args.length ≤ 8) (h : W Try.prog c19 (RP Try.prog [.tmp 2, .tmp 3] x) [.code c] (initF 0 args) []) : APure Try.prog 19 args x :=
  .intro (by kernel_rfl) mixed Try.func19 hb rfl rfl (okE hb (by kernel_rfl)) hl h
attribute [go_sem] k19 p19 c19
/- weirkeeper/flat.Range 0 -/
def k20 : Nat → List Nat | 0 => [1] | 1 => [1, 4] | 2 => [1, 4] | 3 => [1, 4] | 4 => [1, 4] | 5 => [4, 27] | 6 => [2, 3] | 7 => [2, 3] | _ => []
def p20 : Nat → Plan | _ => .fin
def c20 : Cfg := ⟨32, k20, [], [], p20⟩
theorem i20 {c : Code} {args x} (hb : Try.f20.body = some c) (hl : args.length ≤ 32) (h : W Try.prog c20 (RP Try.prog [.tmp 2, .tmp 3] x) [.code c] (initF 0 args) []) : APure Try.prog 20 args x :=
  .intro (by kernel_rfl) mixed Try.func20 hb rfl rfl (okE hb (by kernel_rfl)) hl h
attribute [go_sem] k20 p20 c20
/- weirkeeper/flat.take[weirkeeper/api.Note] 1 -/
def k21 : Nat → List Nat | 0 => [0, 1, 2] | 1 => [1, 2, 9] | 2 => [1, 2, 9, 10] | 3 => [1, 2, 9, 10, 16, 17] | 4 => [1, 2, 9, 10, 16, 17, 18] | 5 => [1, 2, 9, 10, 11, 16, 17] | 6 => [1, 2, 9, 10, 11, 16, 17, 31] | 7 => [6, 7, 8] | 8 => [1, 2, 9, 10, 16, 17] | 9 => [1, 2, 9, 10, 16, 17] | 10 => [9, 10, 40] | 11 => [6, 7, 8] | 12 => [6, 7, 8] | _ => []
def p21 : Nat → Plan | 12 => .seq [0, 1, 2, 3, 4, 5, 6, 7] (.fin) | _ => .fin
def c21 : Cfg := ⟨46, k21, [], [], p21⟩
theorem i21 {c : Code} {args x} (hb : Try.f21.body = some c) (hl : args.length ≤ 46) (h : W Try.prog c21 (RP Try.prog [.tmp 6, .tmp 7, .tmp 8] x) [.code c] (initF 0 args) []) : APure Try.prog 21 args x :=
  .intro (by kernel_rfl) mixed Try.func21 hb rfl rfl (okE hb (by kernel_rfl)) hl h
attribute [go_sem] k21 p21 c21
/- weirkeeper/note.Right 0 -/
def k22 : Nat → List Nat | 0 => [1] | 1 => [1, 12] | 2 => [2] | 3 => [1, 14] | 4 => [1, 14, 15] | 5 => [2] | 6 => [1, 14, 20] | 7 => [2] | 8 => [1, 30] | 9 => [2] | 10 => [2] | _ => []
def p22 : Nat → Plan | _ => .fin
def c22 : Cfg := ⟨35, k22, [], [], p22⟩
theorem i22 {c : Code} {args x} (hb : Try.f22.body = some c) (hl : args.length ≤ 35) (h : W Try.prog c22 (RP Try.prog [.tmp 2] x) [.code c] (initF 0 args) []) : APure Try.prog 22 args x :=
  .intro (by kernel_rfl) mixed Try.func22 hb rfl rfl (okE hb (by kernel_rfl)) hl h
attribute [go_sem] k22 p22 c22
/- weirkeeper/flat.TakeNotes$1 0 -/
def k23 : Nat → List Nat | 0 => [0, 2] | 1 => [0, 2, 3] | 2 => [0, 2, 3, 4] | 3 => [0, 2, 3, 4, 5] | 4 => [2] | _ => []
def p23 : Nat → Plan | _ => .fin
def c23 : Cfg := ⟨19, k23, [], [], p23⟩
theorem i23 {c : Code} {args x} (hb : Try.f23.body = some c) (hl : args.length ≤ 19) (h : W Try.prog c23 (RP Try.prog [.cell 2 45] x) [.code c] (initF 0 args) []) : APure Try.prog 23 args x :=
  .intro (by kernel_rfl) mixed Try.func23 hb rfl rfl (okE hb (by kernel_rfl)) hl h
theorem m23 {c : Code} {k : Nat} {t : TypeId} {rest v x v'} (hb : Try.f23.body = some c) (hl : rest.length + 1 ≤ 19) (h : ∀ b, W Try.prog c23 (RM Try.prog [.cell 2 45] x ⟨true, some b, k, t, [v']⟩) [.code c] (initF 0 (.ptr 0 k (some b) 0 0 :: rest)) [⟨true, some b, k, t, [v]⟩]) : AMut Try.prog 23 k t rest v x v' :=
  .intro (by kernel_rfl) mixed Try.func23 hb rfl rfl (okE hb (by kernel_rfl)) hl h
attribute [go_sem] k23 p23 c23
/- (*weirkeeper/flat.reader).num 0 -/
def k24 : Nat → List Nat | 0 => [0, 1] | 1 => [0, 5, 6, 7] | 2 => [5] | 3 => [4] | _ => []
def p24 : Nat → Plan | _ => .fin
def c24 : Cfg := ⟨34, k24, [], [], p24⟩
theorem i24 {c : Code} {args x} (hb : Try.f24.body = some c) (hl : args.length ≤ 34) (h : W Try.prog c24 (RP Try.prog [.tmp 4] x) [.code c] (initF 0 args) []) : APure Try.prog 24 args x :=
  .intro (by kernel_rfl) mixed Try.func24 hb rfl rfl (okE hb (by kernel_rfl)) hl h
theorem m24 {c : Code} {k : Nat} {t : TypeId} {rest v x v'} (hb : Try.f24.body = some c) (hl : rest.length + 1 ≤ 34) (h : ∀ b, W Try.prog c24 (RM Try.prog [.tmp 4] x ⟨true, some b, k, t, [v']⟩) [.code c] (initF 0 (.ptr 0 k (some b) 0 0 :: rest)) [⟨true, some b, k, t, [v]⟩]) : AMut Try.prog 24 k t rest v x v' :=
  .intro (by kernel_rfl) mixed Try.func24 hb rfl rfl (okE hb (by kernel_rfl)) hl h
attribute [go_sem] k24 p24 c24
/- (*weirkeeper/flat.reader).text 0 -/
def k25 : Nat → List Nat | 0 => [0] | 1 => [0, 3, 4, 5] | 2 => [3] | 3 => [2] | _ => []
def p25 : Nat → Plan | _ => .fin
def c25 : Cfg := ⟨31, k25, [], [], p25⟩
theorem i25 {c : Code} {args x} (hb : Try.f25.body = some c) (hl : args.length ≤ 31) (h : W Try.prog c25 (RP Try.prog [.tmp 2] x) [.code c] (initF 0 args) []) : APure Try.prog 25 args x :=
  .intro (by kernel_rfl) mixed Try.func25 hb rfl rfl (okE hb (by kernel_rfl)) hl h
theorem m25 {c : Code} {k : Nat} {t : TypeId} {rest v x v'} (hb : Try.f25.body = some c) (hl : rest.length + 1 ≤ 31) (h : ∀ b, W Try.prog c25 (RM Try.prog [.tmp 2] x ⟨true, some b, k, t, [v']⟩) [.code c] (initF 0 (.ptr 0 k (some b) 0 0 :: rest)) [⟨true, some b, k, t, [v]⟩]) : AMut Try.prog 25 k t rest v x v' :=
  .intro (by kernel_rfl) mixed Try.func25 hb rfl rfl (okE hb (by kernel_rfl)) hl h
attribute [go_sem] k25 p25 c25
/- weirkeeper/flat.take[weirkeeper/api.Pair] 1 -/
def k26 : Nat → List Nat | 0 => [0, 1, 2] | 1 => [1, 2, 9] | 2 => [1, 2, 9, 10] | 3 => [1, 2, 9, 10, 16, 17] | 4 => [1, 2, 9, 10, 16, 17, 18] | 5 => [1, 2, 9, 10, 11, 16, 17] | 6 => [1, 2, 9, 10, 11, 16, 17, 31] | 7 => [6, 7, 8] | 8 => [1, 2, 9, 10, 16, 17] | 9 => [1, 2, 9, 10, 16, 17] | 10 => [9, 10, 40] | 11 => [6, 7, 8] | 12 => [6, 7, 8] | _ => []
def p26 : Nat → Plan | 12 => .seq [0, 1, 2, 3, 4, 5, 6, 7] (.fin) | _ => .fin
def c26 : Cfg := ⟨46, k26, [], [], p26⟩
theorem i26 {c : Code} {args x} (hb : Try.f26.body = some c) (hl : args.length ≤ 46) (h : W Try.prog c26 (RP Try.prog [.tmp 6, .tmp 7, .tmp 8] x) [.code c] (initF 0 args) []) : APure Try.prog 26 args x :=
  .intro (by kernel_rfl) mixed Try.func26 hb rfl rfl (okE hb (by kernel_rfl)) hl h
attribute [go_sem] k26 p26 c26
/- weirkeeper/flat.pair 0 -/
def k27 : Nat → List Nat | 0 => [1] | 1 => [2] | _ => []
def p27 : Nat → Plan | _ => .fin
def c27 : Cfg := ⟨6, k27, [], [], p27⟩
theorem i27 {c : Code} {args x} (hb : Try.f27.body = some c) (hl : args.length ≤ 6) (h : W Try.prog c27 (RP Try.prog [.tmp 2] x) [.code c] (initF 0 args) []) : APure Try.prog 27 args x :=
  .intro (by kernel_rfl) mixed Try.func27 hb rfl rfl (okE hb (by kernel_rfl)) hl h
attribute [go_sem] k27 p27 c27
/- weirkeeper/flat.TakePairs$1 0 -/
def k28 : Nat → List Nat | 0 => [0, 2] | 1 => [0, 2, 3] | 2 => [2] | _ => []
def p28 : Nat → Plan | _ => .fin
def c28 : Cfg := ⟨10, k28, [], [], p28⟩
theorem i28 {c : Code} {args x} (hb : Try.f28.body = some c) (hl : args.length ≤ 10) (h : W Try.prog c28 (RP Try.prog [.cell 2 49] x) [.code c] (initF 0 args) []) : APure Try.prog 28 args x :=
  .intro (by kernel_rfl) mixed Try.func28 hb rfl rfl (okE hb (by kernel_rfl)) hl h
theorem m28 {c : Code} {k : Nat} {t : TypeId} {rest v x v'} (hb : Try.f28.body = some c) (hl : rest.length + 1 ≤ 10) (h : ∀ b, W Try.prog c28 (RM Try.prog [.cell 2 49] x ⟨true, some b, k, t, [v']⟩) [.code c] (initF 0 (.ptr 0 k (some b) 0 0 :: rest)) [⟨true, some b, k, t, [v]⟩]) : AMut Try.prog 28 k t rest v x v' :=
  .intro (by kernel_rfl) mixed Try.func28 hb rfl rfl (okE hb (by kernel_rfl)) hl h
attribute [go_sem] k28 p28 c28
/- weirkeeper/flat.take[weirkeeper/api.Change] 1 -/
def k29 : Nat → List Nat | 0 => [0, 1, 2] | 1 => [1, 2, 9] | 2 => [1, 2, 9, 10] | 3 => [1, 2, 9, 10, 16, 17] | 4 => [1, 2, 9, 10, 16, 17, 18] | 5 => [1, 2, 9, 10, 11, 16, 17] | 6 => [1, 2, 9, 10, 11, 16, 17, 31] | 7 => [6, 7, 8] | 8 => [1, 2, 9, 10, 16, 17] | 9 => [1, 2, 9, 10, 16, 17] | 10 => [9, 10, 40] | 11 => [6, 7, 8] | 12 => [6, 7, 8] | _ => []
def p29 : Nat → Plan | 12 => .seq [0, 1, 2, 3, 4, 5, 6, 7] (.fin) | _ => .fin
def c29 : Cfg := ⟨46, k29, [], [], p29⟩
theorem i29 {c : Code} {args x} (hb : Try.f29.body = some c) (hl : args.length ≤ 46) (h : W Try.prog c29 (RP Try.prog [.tmp 6, .tmp 7, .tmp 8] x) [.code c] (initF 0 args) []) : APure Try.prog 29 args x :=
  .intro (by kernel_rfl) mixed Try.func29 hb rfl rfl (okE hb (by kernel_rfl)) hl h
attribute [go_sem] k29 p29 c29
/- weirkeeper/flat.May 0 -/
def k30 : Nat → List Nat | 0 => [1] | 1 => [1, 3] | 2 => [2] | _ => []
def p30 : Nat → Plan | _ => .fin
def c30 : Cfg := ⟨57, k30, [], [], p30⟩
theorem i30 {c : Code} {args x} (hb : Try.f30.body = some c) (hl : args.length ≤ 57) (h : W Try.prog c30 (RP Try.prog [.tmp 2] x) [.code c] (initF 0 args) []) : APure Try.prog 30 args x :=
  .intro (by kernel_rfl) mixed Try.func30 hb rfl rfl (okE hb (by kernel_rfl)) hl h
attribute [go_sem] k30 p30 c30
/- weirkeeper/flat.TakeChanges$1 0 -/
def k31 : Nat → List Nat | 0 => [0, 2] | 1 => [0, 2] | 2 => [0, 2] | 3 => [0, 2] | 4 => [0, 2] | 5 => [0, 2] | 6 => [2] | 7 => [2] | _ => []
def p31 : Nat → Plan | _ => .fin
def c31 : Cfg := ⟨23, k31, [], [], p31⟩
theorem i31 {c : Code} {args x} (hb : Try.f31.body = some c) (hl : args.length ≤ 23) (h : W Try.prog c31 (RP Try.prog [.cell 2 53] x) [.code c] (initF 0 args) []) : APure Try.prog 31 args x :=
  .intro (by kernel_rfl) mixed Try.func31 hb rfl rfl (okE hb (by kernel_rfl)) hl h
theorem m31 {c : Code} {k : Nat} {t : TypeId} {rest v x v'} (hb : Try.f31.body = some c) (hl : rest.length + 1 ≤ 23) (h : ∀ b, W Try.prog c31 (RM Try.prog [.cell 2 53] x ⟨true, some b, k, t, [v']⟩) [.code c] (initF 0 (.ptr 0 k (some b) 0 0 :: rest)) [⟨true, some b, k, t, [v]⟩]) : AMut Try.prog 31 k t rest v x v' :=
  .intro (by kernel_rfl) mixed Try.func31 hb rfl rfl (okE hb (by kernel_rfl)) hl h
attribute [go_sem] k31 p31 c31
/- (*weirkeeper/flat.reader).flag 0 -/
def k32 : Nat → List Nat | 0 => [0] | 1 => [0, 3] | 2 => [3] | 3 => [2] | _ => []
def p32 : Nat → Plan | _ => .fin
def c32 : Cfg := ⟨19, k32, [], [], p32⟩
theorem i32 {c : Code} {args x} (hb : Try.f32.body = some c) (hl : args.length ≤ 19) (h : W Try.prog c32 (RP Try.prog [.tmp 2] x) [.code c] (initF 0 args) []) : APure Try.prog 32 args x :=
  .intro (by kernel_rfl) mixed Try.func32 hb rfl rfl (okE hb (by kernel_rfl)) hl h
theorem m32 {c : Code} {k : Nat} {t : TypeId} {rest v x v'} (hb : Try.f32.body = some c) (hl : rest.length + 1 ≤ 19) (h : ∀ b, W Try.prog c32 (RM Try.prog [.tmp 2] x ⟨true, some b, k, t, [v']⟩) [.code c] (initF 0 (.ptr 0 k (some b) 0 0 :: rest)) [⟨true, some b, k, t, [v]⟩]) : AMut Try.prog 32 k t rest v x v' :=
  .intro (by kernel_rfl) mixed Try.func32 hb rfl rfl (okE hb (by kernel_rfl)) hl h
attribute [go_sem] k32 p32 c32
/- weirkeeper/stretch.Right 0 -/
def k33 : Nat → List Nat | 0 => [1] | 1 => [2] | _ => []
def p33 : Nat → Plan | _ => .fin
def c33 : Cfg := ⟨23, k33, [], [], p33⟩
theorem i33 {c : Code} {args x} (hb : Try.f33.body = some c) (hl : args.length ≤ 23) (h : W Try.prog c33 (RP Try.prog [.tmp 2] x) [.code c] (initF 0 args) []) : APure Try.prog 33 args x :=
  .intro (by kernel_rfl) mixed Try.func33 hb rfl rfl (okE hb (by kernel_rfl)) hl h
attribute [go_sem] k33 p33 c33
/- weirkeeper/weirkeeperref13.Texts 0 -/
def k34 : Nat → List Nat | 0 => [0, 1] | 1 => [0, 1, 6] | 2 => [0, 1, 6, 7] | 3 => [0, 1, 6, 7, 14] | 4 => [0, 1, 6, 7] | 5 => [0, 1, 6, 7, 23] | 6 => [4, 5] | 7 => [1, 6, 7, 8, 9, 10] | 8 => [1, 6, 7, 8, 9, 36] | 9 => [4, 5] | 10 => [1, 6, 7, 9] | 11 => [0, 1, 6, 7] | 12 => [4, 5] | _ => []
def p34 : Nat → Plan | _ => .fin
def c34 : Cfg := ⟨43, k34, [], [], p34⟩
theorem i34 {c : Code} {args x} (hb : Try.f34.body = some c) (hl : args.length ≤ 43) (h : W Try.prog c34 (RP Try.prog [.tmp 4, .tmp 5] x) [.code c] (initF 0 args) []) : APure Try.prog 34 args x :=
  .intro (by kernel_rfl) mixed Try.func34 hb rfl rfl (okE hb (by kernel_rfl)) hl h
attribute [go_sem] k34 p34 c34
/- weirkeeper/weirkeeperref03.Right 0 -/
def k35 : Nat → List Nat | 0 => [1] | 1 => [1, 12] | 2 => [2] | 3 => [1, 14] | 4 => [2] | 5 => [2] | _ => []
def p35 : Nat → Plan | _ => .fin
def c35 : Cfg := ⟨19, k35, [], [], p35⟩
theorem i35 {c : Code} {args x} (hb : Try.f35.body = some c) (hl : args.length ≤ 19) (h : W Try.prog c35 (RP Try.prog [.tmp 2] x) [.code c] (initF 0 args) []) : APure Try.prog 35 args x :=
  .intro (by kernel_rfl) mixed Try.func35 hb rfl rfl (okE hb (by kernel_rfl)) hl h
attribute [go_sem] k35 p35 c35
/- weirkeeper/weirkeeperref09.Right 0 -/
def k36 : Nat → List Nat | 0 => [1] | 1 => [1, 6] | 2 => [2] | 3 => [1, 9] | 4 => [2] | 5 => [1, 21] | 6 => [2] | 7 => [2] | _ => []
def p36 : Nat → Plan | _ => .fin
def c36 : Cfg := ⟨38, k36, [], [], p36⟩
theorem i36 {c : Code} {args x} (hb : Try.f36.body = some c) (hl : args.length ≤ 38) (h : W Try.prog c36 (RP Try.prog [.tmp 2] x) [.code c] (initF 0 args) []) : APure Try.prog 36 args x :=
  .intro (by kernel_rfl) mixed Try.func36 hb rfl rfl (okE hb (by kernel_rfl)) hl h
attribute [go_sem] k36 p36 c36
/- weirkeeper/weirkeeperref13.begins 0 -/
def k37 : Nat → List Nat | 0 => [0, 1] | 1 => [4] | _ => []
def p37 : Nat → Plan | _ => .fin
def c37 : Cfg := ⟨18, k37, [], [], p37⟩
theorem i37 {c : Code} {args x} (hb : Try.f37.body = some c) (hl : args.length ≤ 18) (h : W Try.prog c37 (RP Try.prog [.tmp 4] x) [.code c] (initF 0 args) []) : APure Try.prog 37 args x :=
  .intro (by kernel_rfl) mixed Try.func37 hb rfl rfl (okE hb (by kernel_rfl)) hl h
attribute [go_sem] k37 p37 c37
/- weirkeeper/weirkeeperref10.Right 1 -/
def k38 : Nat → List Nat | 0 => [0] | 1 => [0, 3] | 2 => [0, 3, 7] | 3 => [0, 3] | 4 => [0, 3, 25] | 5 => [2] | 6 => [0, 3, 41] | 7 => [2] | 8 => [2] | _ => []
def p38 : Nat → Plan | 6 => .seq [0, 1, 2, 3, 4, 5, 6, 7, 8, 9, 10, 11, 12, 13, 14, 15] (.fin) | _ => .fin
def c38 : Cfg := ⟨42, k38, [], [], p38⟩
theorem i38 {c : Code} {args x} (hb : Try.f38.body = some c) (hl : args.length ≤ 42) (h : W Try.prog c38 (RP Try.prog [.tmp 2] x) [.code c] (initF 0 args) []) : APure Try.prog 38 args x :=
  .intro (by kernel_rfl) mixed Try.func38 hb rfl rfl (okE hb (by kernel_rfl)) hl h
attribute [go_sem] k38 p38 c38
/- weirkeeper/weirkeeperref13.May 0 -/
def k39 : Nat → List Nat | 0 => [1] | 1 => [1, 28] | 2 => [2] | 3 => [1, 46] | 4 => [2] | 5 => [2] | _ => []
def p39 : Nat → Plan | _ => .fin
def c39 : Cfg := ⟨53, k39, [], [], p39⟩
theorem i39 {c : Code} {args x} (hb : Try.f39.body = some c) (hl : args.length ≤ 53) (h : W Try.prog c39 (RP Try.prog [.tmp 2] x) [.code c] (initF 0 args) []) : APure Try.prog 39 args x :=
  .intro (by kernel_rfl) mixed Try.func39 hb rfl rfl (okE hb (by kernel_rfl)) hl h
attribute [go_sem] k39 p39 c39
/- weirkeeper/weirkeeperref13.num 0 -/
def k40 : Nat → List Nat | 0 => [0, 1] | 1 => [5] | 2 => [4] | _ => []
def p40 : Nat → Plan | _ => .fin
def c40 : Cfg := ⟨14, k40, [], [], p40⟩
theorem i40 {c : Code} {args x} (hb : Try.f40.body = some c) (hl : args.length ≤ 14) (h : W Try.prog c40 (RP Try.prog [.tmp 4] x) [.code c] (initF 0 args) []) : APure Try.prog 40 args x :=
  .intro (by kernel_rfl) mixed Try.func40 hb rfl rfl (okE hb (by kernel_rfl)) hl h
attribute [go_sem] k40 p40 c40
/- weirkeeper/weirkeeperref13.text 0 -/
def k41 : Nat → List Nat | 0 => [0] | 1 => [3] | 2 => [2] | _ => []
def p41 : Nat → Plan | _ => .fin
def c41 : Cfg := ⟨11, k41, [], [], p41⟩
theorem i41 {c : Code} {args x} (hb : Try.f41.body = some c) (hl : args.length ≤ 11) (h : W Try.prog c41 (RP Try.prog [.tmp 2] x) [.code c] (initF 0 args) []) : APure Try.prog 41 args x :=
  .intro (by kernel_rfl) mixed Try.func41 hb rfl rfl (okE hb (by kernel_rfl)) hl h
attribute [go_sem] k41 p41 c41
/- weirkeeper/weirkeeperref13.flag 0 -/
def k42 : Nat → List Nat | 0 => [0] | 1 => [3] | 2 => [2] | 3 => [2] | _ => []
def p42 : Nat → Plan | _ => .fin
def c42 : Cfg := ⟨4, k42, [], [], p42⟩
theorem i42 {c : Code} {args x} (hb : Try.f42.body = some c) (hl : args.length ≤ 4) (h : W Try.prog c42 (RP Try.prog [.tmp 2] x) [.code c] (initF 0 args) []) : APure Try.prog 42 args x :=
  .intro (by kernel_rfl) mixed Try.func42 hb rfl rfl (okE hb (by kernel_rfl)) hl h
attribute [go_sem] k42 p42 c42
/- weirkeeper/flat.list[weirkeeper/api.Note] 0 -/
def k43 : Nat → List Nat | 0 => [0, 1, 2] | 1 => [0, 1, 2, 8] | 2 => [0, 1, 2, 8, 15] | 3 => [6, 7] | 4 => [0, 1, 2, 8] | 5 => [1, 2, 8, 21, 22, 23] | 6 => [1, 2, 8, 21, 22, 23, 24] | 7 => [1, 2, 8, 10, 21, 22, 23] | 8 => [1, 2, 8, 10, 21, 22, 23, 30] | 9 => [6, 7] | 10 => [1, 2, 8, 21, 22, 23] | 11 => [1, 2, 8, 21, 22, 23] | 12 => [8, 39] | 13 => [6, 7] | 14 => [6, 7] | _ => []
def p43 : Nat → Plan | _ => .fin
def c43 : Cfg := ⟨44, k43, [], [], p43⟩
theorem i43 {c : Code} {args x} (hb : Try.f43.body = some c) (hl : args.length ≤ 44) (h : W Try.prog c43 (RP Try.prog [.tmp 6, .tmp 7] x) [.code c] (initF 0 args) []) : APure Try.prog 43 args x :=
  .intro (by kernel_rfl) mixed Try.func43 hb rfl rfl (okE hb (by kernel_rfl)) hl h
attribute [go_sem] k43 p43 c43
/- weirkeeper/flat.Notes$1 0 -/
def k44 : Nat → List Nat | 0 => [0, 3] | 1 => [0, 3] | 2 => [0, 3] | 3 => [0, 3] | 4 => [] | _ => []
def p44 : Nat → Plan | _ => .fin
def c44 : Cfg := ⟨21, k44, [], [], p44⟩
theorem i44 {c : Code} {args x} (hb : Try.f44.body = some c) (hl : args.length ≤ 21) (h : W Try.prog c44 (RP Try.prog [] x) [.code c] (initF 0 args) []) : APure Try.prog 44 args x :=
  .intro (by kernel_rfl) mixed Try.func44 hb rfl rfl (okE hb (by kernel_rfl)) hl h
theorem m44 {c : Code} {k : Nat} {t : TypeId} {rest v x v'} (hb : Try.f44.body = some c) (hl : rest.length + 1 ≤ 21) (h : ∀ b, W Try.prog c44 (RM Try.prog [] x ⟨true, some b, k, t, [v']⟩) [.code c] (initF 0 (.ptr 0 k (some b) 0 0 :: rest)) [⟨true, some b, k, t, [v]⟩]) : AMut Try.prog 44 k t rest v x v' :=
  .intro (by kernel_rfl) mixed Try.func44 hb rfl rfl (okE hb (by kernel_rfl)) hl h
attribute [go_sem] k44 p44 c44
/- (*weirkeeper/flat.writer).num 1 -/
def k45 : Nat → List Nat | 0 => [0, 6, 7] | 1 => [] | _ => []
def p45 : Nat → Plan | 1 => .seq [0, 1, 2, 3, 4, 5, 6, 7, 8, 9, 10, 11, 12, 13, 14, 15, 16, 17] (.br [(18, .seq [19, 20] (.br [(21, .fin)]))]) | _ => .fin
def c45 : Cfg := ⟨34, k45, [], [], p45⟩
theorem i45 {c : Code} {args x} (hb : Try.f45.body = some c) (hl : args.length ≤ 34) (h : W Try.prog c45 (RP Try.prog [] x) [.code c] (initF 0 args) []) : APure Try.prog 45 args x :=
  .intro (by kernel_rfl) mixed Try.func45 hb rfl rfl (okE hb (by kernel_rfl)) hl h
theorem m45 {c : Code} {k : Nat} {t : TypeId} {rest v x v'} (hb : Try.f45.body = some c) (hl : rest.length + 1 ≤ 34) (h : ∀ b, W Try.prog c45 (RM Try.prog [] x ⟨true, some b, k, t, [v']⟩) [.code c] (initF 0 (.ptr 0 k (some b) 0 0 :: rest)) [⟨true, some b, k, t, [v]⟩]) : AMut Try.prog 45 k t rest v x v' :=
  .intro (by kernel_rfl) mixed Try.func45 hb rfl rfl (okE hb (by kernel_rfl)) hl h
attribute [go_sem] k45 p45 c45
/- (*weirkeeper/flat.writer).text 1 -/
def k46 : Nat → List Nat | 0 => [0, 4, 5] | 1 => [] | _ => []
def p46 : Nat → Plan | 1 => .seq [0, 1, 2, 3, 4, 5, 6, 7, 8, 9, 10, 11, 12, 13, 14, 15, 16, 17] (.br [(18, .seq [19, 20] (.br [(21, .fin)]))]) | _ => .fin
def c46 : Cfg := ⟨31, k46, [], [], p46⟩
theorem i46 {c : Code} {args x} (hb : Try.f46.body = some c) (hl : args.length ≤ 31) (h : W Try.prog c46 (RP Try.prog [] x) [.code c] (initF 0 args) []) : APure Try.prog 46 args x :=
  .intro (by kernel_rfl) mixed Try.func46 hb rfl rfl (okE hb (by kernel_rfl)) hl h
theorem m46 {c : Code} {k : Nat} {t : TypeId} {rest v x v'} (hb : Try.f46.body = some c) (hl : rest.length + 1 ≤ 31) (h : ∀ b, W Try.prog c46 (RM Try.prog [] x ⟨true, some b, k, t, [v']⟩) [.code c] (initF 0 (.ptr 0 k (some b) 0 0 :: rest)) [⟨true, some b, k, t, [v]⟩]) : AMut Try.prog 46 k t rest v x v' :=
  .intro (by kernel_rfl) mixed Try.func46 hb rfl rfl (okE hb (by kernel_rfl)) hl h
attribute [go_sem] k46 p46 c46
/- weirkeeper/flat.list[weirkeeper/api.Change] 0 -/
def k47 : Nat → List Nat | 0 => [0, 1, 2] | 1 => [0, 1, 2, 8] | 2 => [0, 1, 2, 8, 15] | 3 => [6, 7] | 4 => [0, 1, 2, 8] | 5 => [1, 2, 8, 21, 22, 23] | 6 => [1, 2, 8, 21, 22, 23, 24] | 7 => [1, 2, 8, 10, 21, 22, 23] | 8 => [1, 2, 8, 10, 21, 22, 23, 30] | 9 => [6, 7] | 10 => [1, 2, 8, 21, 22, 23] | 11 => [1, 2, 8, 21, 22, 23] | 12 => [8, 39] | 13 => [6, 7] | 14 => [6, 7] | _ => []
def p47 : Nat → Plan | _ => .fin
def c47 : Cfg := ⟨44, k47, [], [], p47⟩
theorem i47 {c : Code} {args x} (hb : Try.f47.body = some c) (hl : args.length ≤ 44) (h : W Try.prog c47 (RP Try.prog [.tmp 6, .tmp 7] x) [.code c] (initF 0 args) []) : APure Try.prog 47 args x :=
  .intro (by kernel_rfl) mixed Try.func47 hb rfl rfl (okE hb (by kernel_rfl)) hl h
attribute [go_sem] k47 p47 c47
/- weirkeeper/flat.Changes$1 0 -/
def k48 : Nat → List Nat | 0 => [0, 3] | 1 => [0, 3] | 2 => [0, 3] | 3 => [0, 3] | 4 => [0, 3] | 5 => [0, 3] | 6 => [] | _ => []
def p48 : Nat → Plan | _ => .fin
def c48 : Cfg := ⟨29, k48, [], [], p48⟩
theorem i48 {c : Code} {args x} (hb : Try.f48.body = some c) (hl : args.length ≤ 29) (h : W Try.prog c48 (RP Try.prog [] x) [.code c] (initF 0 args) []) : APure Try.prog 48 args x :=
  .intro (by kernel_rfl) mixed Try.func48 hb rfl rfl (okE hb (by kernel_rfl)) hl h
theorem m48 {c : Code} {k : Nat} {t : TypeId} {rest v x v'} (hb : Try.f48.body = some c) (hl : rest.length + 1 ≤ 29) (h : ∀ b, W Try.prog c48 (RM Try.prog [] x ⟨true, some b, k, t, [v']⟩) [.code c] (initF 0 (.ptr 0 k (some b) 0 0 :: rest)) [⟨true, some b, k, t, [v]⟩]) : AMut Try.prog 48 k t rest v x v' :=
  .intro (by kernel_rfl) mixed Try.func48 hb rfl rfl (okE hb (by kernel_rfl)) hl h
attribute [go_sem] k48 p48 c48
/- (*weirkeeper/flat.writer).flag 0 -/
def k49 : Nat → List Nat | 0 => [0, 1, 4] | 1 => [0, 4, 5] | 2 => [0, 4] | 3 => [] | _ => []
def p49 : Nat → Plan | _ => .fin
def c49 : Cfg := ⟨9, k49, [], [], p49⟩
theorem i49 {c : Code} {args x} (hb : Try.f49.body = some c) (hl : args.length ≤ 9) (h : W Try.prog c49 (RP Try.prog [] x) [.code c] (initF 0 args) []) : APure Try.prog 49 args x :=
  .intro (by kernel_rfl) mixed Try.func49 hb rfl rfl (okE hb (by kernel_rfl)) hl h
theorem m49 {c : Code} {k : Nat} {t : TypeId} {rest v x v'} (hb : Try.f49.body = some c) (hl : rest.length + 1 ≤ 9) (h : ∀ b, W Try.prog c49 (RM Try.prog [] x ⟨true, some b, k, t, [v']⟩) [.code c] (initF 0 (.ptr 0 k (some b) 0 0 :: rest)) [⟨true, some b, k, t, [v]⟩]) : AMut Try.prog 49 k t rest v x v' :=
  .intro (by kernel_rfl) mixed Try.func49 hb rfl rfl (okE hb (by kernel_rfl)) hl h
attribute [go_sem] k49 p49 c49
/- weirkeeper/flat.list[weirkeeper/api.Pair] 0 -/
def k50 : Nat → List Nat | 0 => [0, 1, 2] | 1 => [0, 1, 2, 8] | 2 => [0, 1, 2, 8, 15] | 3 => [6, 7] | 4 => [0, 1, 2, 8] | 5 => [1, 2, 8, 21, 22, 23] | 6 => [1, 2, 8, 21, 22, 23, 24] | 7 => [1, 2, 8, 10, 21, 22, 23] | 8 => [1, 2, 8, 10, 21, 22, 23, 30] | 9 => [6, 7] | 10 => [1, 2, 8, 21, 22, 23] | 11 => [1, 2, 8, 21, 22, 23] | 12 => [8, 39] | 13 => [6, 7] | 14 => [6, 7] | _ => []
def p50 : Nat → Plan | _ => .fin
def c50 : Cfg := ⟨44, k50, [], [], p50⟩
theorem i50 {c : Code} {args x} (hb : Try.f50.body = some c) (hl : args.length ≤ 44) (h : W Try.prog c50 (RP Try.prog [.tmp 6, .tmp 7] x) [.code c] (initF 0 args) []) : APure Try.prog 50 args x :=
  .intro (by kernel_rfl) mixed Try.func50 hb rfl rfl (okE hb (by kernel_rfl)) hl h
attribute [go_sem] k50 p50 c50
/- weirkeeper/flat.Pairs$1 0 -/
def k51 : Nat → List Nat | 0 => [0, 3] | 1 => [0, 3] | 2 => [] | _ => []
def p51 : Nat → Plan | _ => .fin
def c51 : Cfg := ⟨12, k51, [], [], p51⟩
theorem i51 {c : Code} {args x} (hb : Try.f51.body = some c) (hl : args.length ≤ 12) (h : W Try.prog c51 (RP Try.prog [] x) [.code c] (initF 0 args) []) : APure Try.prog 51 args x :=
  .intro (by kernel_rfl) mixed Try.func51 hb rfl rfl (okE hb (by kernel_rfl)) hl h
theorem m51 {c : Code} {k : Nat} {t : TypeId} {rest v x v'} (hb : Try.f51.body = some c) (hl : rest.length + 1 ≤ 12) (h : ∀ b, W Try.prog c51 (RM Try.prog [] x ⟨true, some b, k, t, [v']⟩) [.code c] (initF 0 (.ptr 0 k (some b) 0 0 :: rest)) [⟨true, some b, k, t, [v]⟩]) : AMut Try.prog 51 k t rest v x v' :=
  .intro (by kernel_rfl) mixed Try.func51 hb rfl rfl (okE hb (by kernel_rfl)) hl h
attribute [go_sem] k51 p51 c51
/- weirkeeper/pack.Take 1 -/
def k52 : Nat → List Nat | 0 => [0, 1] | 1 => [0, 1, 9] | 2 => [4, 5, 6] | 3 => [0, 1, 13] | 4 => [4, 5, 6] | 5 => [0, 1, 7] | 6 => [0, 1, 7, 18, 19] | 7 => [0, 1, 7, 18, 19, 20] | 8 => [0, 1, 7, 8, 18, 19] | 9 => [0, 1, 7, 18, 19] | 10 => [0, 1, 7, 18, 19] | 11 => [4, 5, 6] | _ => []
def p52 : Nat → Plan | 11 => .seq [0, 1, 2, 3, 4, 5, 6] (.fin) | _ => .fin
def c52 : Cfg := ⟨34, k52, [], [], p52⟩
theorem i52 {c : Code} {args x} (hb : Try.f52.body = some c) (hl : args.length ≤ 34) (h : W Try.prog c52 (RP Try.prog [.tmp 4, .tmp 5, .tmp 6] x) [.code c] (initF 0 args) []) : APure Try.prog 52 args x :=
  .intro (by kernel_rfl) mixed Try.func52 hb rfl rfl (okE hb (by kernel_rfl)) hl h
attribute [go_sem] k52 p52 c52
/- weirkeeper/pack.TakeText 1 -/
def k53 : Nat → List Nat | 0 => [0] | 1 => [5, 6, 7] | 2 => [5, 6, 22] | 3 => [2, 3, 4] | 4 => [2, 3, 4] | _ => []
def p53 : Nat → Plan | 4 => .seq [0, 1, 2, 3, 4, 5, 6, 7, 8] (.fin) | _ => .fin
def c53 : Cfg := ⟨29, k53, [], [], p53⟩
theorem i53 {c : Code} {args x} (hb : Try.f53.body = some c) (hl : args.length ≤ 29) (h : W Try.prog c53 (RP Try.prog [.tmp 2, .tmp 3, .tmp 4] x) [.code c] (initF 0 args) []) : APure Try.prog 53 args x :=
  .intro (by kernel_rfl) mixed Try.func53 hb rfl rfl (okE hb (by kernel_rfl)) hl h
attribute [go_sem] k53 p53 c53
/- weirkeeper/leaf.Right 1 -/
def k54 : Nat → List Nat | 0 => [0] | 1 => [0, 5, 6, 7] | 2 => [0, 5, 6, 7, 8] | 3 => [0, 3, 4, 5, 6, 7] | 4 => [0, 5, 6, 7, 36] | 5 => [2] | 6 => [0, 5, 6, 7] | 7 => [2] | _ => []
def p54 : Nat → Plan | 4 => .seq [0, 1, 2, 3, 4, 5, 6, 7, 8, 9, 10, 11, 12, 13, 14, 15, 16, 17, 18, 19, 20, 21, 22, 23, 24] (.fin) | _ => .fin
def c54 : Cfg := ⟨38, k54, [], [], p54⟩
theorem i54 {c : Code} {args x} (hb : Try.f54.body = some c) (hl : args.length ≤ 38) (h : W Try.prog c54 (RP Try.prog [.tmp 2] x) [.code c] (initF 0 args) []) : APure Try.prog 54 args x :=
  .intro (by kernel_rfl) mixed Try.func54 hb rfl rfl (okE hb (by kernel_rfl)) hl h
attribute [go_sem] k54 p54 c54
/- weirkeeper/weirkeeperref01.TakeText 1 -/
def k55 : Nat → List Nat | 0 => [0] | 1 => [0, 8] | 2 => [2, 3, 4] | 3 => [0, 5] | 4 => [0, 5, 21] | 5 => [2, 3, 4] | 6 => [2, 3, 4] | _ => []
def p55 : Nat → Plan | 3 => .seq [0, 1, 2, 3, 4, 5, 6, 7, 8] (.fin) | 6 => .seq [0, 1, 2, 3, 4, 5, 6, 7, 8, 9, 10] (.fin) | _ => .fin
def c55 : Cfg := ⟨30, k55, [], [], p55⟩
theorem i55 {c : Code} {args x} (hb : Try.f55.body = some c) (hl : args.length ≤ 30) (h : W Try.prog c55 (RP Try.prog [.tmp 2, .tmp 3, .tmp 4] x) [.code c] (initF 0 args) []) : APure Try.prog 55 args x :=
  .intro (by kernel_rfl) mixed Try.func55 hb rfl rfl (okE hb (by kernel_rfl)) hl h
attribute [go_sem] k55 p55 c55
/- weirkeeper/weirkeeperref01.Num 0 -/
def k56 : Nat → List Nat | 0 => [0, 1] | 1 => [0, 1, 13] | 2 => [4, 5] | 3 => [0, 1, 6] | 4 => [0, 1, 6, 7] | 5 => [0, 1, 6, 7, 16] | 6 => [0, 1, 6, 7] | 7 => [0, 1, 6, 7] | 8 => [0, 1, 6, 7] | 9 => [6, 29] | 10 => [4, 5] | 11 => [4, 5] | _ => []
def p56 : Nat → Plan | _ => .fin
def c56 : Cfg := ⟨31, k56, [], [], p56⟩
theorem i56 {c : Code} {args x} (hb : Try.f56.body = some c) (hl : args.length ≤ 31) (h : W Try.prog c56 (RP Try.prog [.tmp 4, .tmp 5] x) [.code c] (initF 0 args) []) : APure Try.prog 56 args x :=
  .intro (by kernel_rfl) mixed Try.func56 hb rfl rfl (okE hb (by kernel_rfl)) hl h
attribute [go_sem] k56 p56 c56
/- weirkeeper/weirkeeperref01.Text 0 -/
def k57 : Nat → List Nat | 0 => [0] | 1 => [0, 6] | 2 => [2, 3] | 3 => [2, 3] | _ => []
def p57 : Nat → Plan | _ => .fin
def c57 : Cfg := ⟨19, k57, [], [], p57⟩
theorem i57 {c : Code} {args x} (hb : Try.f57.body = some c) (hl : args.length ≤ 19) (h : W Try.prog c57 (RP Try.prog [.tmp 2, .tmp 3] x) [.code c] (initF 0 args) []) : APure Try.prog 57 args x :=
  .intro (by kernel_rfl) mixed Try.func57 hb rfl rfl (okE hb (by kernel_rfl)) hl h
attribute [go_sem] k57 p57 c57
/- weirkeeper/pack.Num 0 -/
def k58 : Nat → List Nat | 0 => [0, 1] | 1 => [0, 1, 21] | 2 => [4, 5] | 3 => [0, 1, 6] | 4 => [0, 1, 6, 25, 26] | 5 => [0, 1, 6, 25, 26, 27] | 6 => [0, 1, 6, 7, 25, 26] | 7 => [0, 1, 6, 25, 26] | 8 => [0, 1, 6, 25, 26] | 9 => [4, 5] | _ => []
def p58 : Nat → Plan | _ => .fin
def c58 : Cfg := ⟨43, k58, [23], [], p58⟩
theorem i58 {c : Code} {args x} (hb : Try.f58.body = some c) (hl : args.length ≤ 43) (h : W Try.prog c58 (RP Try.prog [.tmp 4, .tmp 5] x) [.code c] (initF 0 args) []) : APure Try.prog 58 args x :=
  .intro (by kernel_rfl) mixed Try.func58 hb rfl rfl (okE hb (by kernel_rfl)) hl h
attribute [go_sem] k58 p58 c58
/- weirkeeper/pack.Text 0 -/
def k59 : Nat → List Nat | 0 => [0] | 1 => [0, 4, 5] | 2 => [0, 4, 5, 14] | 3 => [2, 3] | 4 => [2, 3] | _ => []
def p59 : Nat → Plan | _ => .fin
def c59 : Cfg := ⟨19, k59, [], [], p59⟩
theorem i59 {c : Code} {args x} (hb : Try.f59.body = some c) (hl : args.length ≤ 19) (h : W Try.prog c59 (RP Try.prog [.tmp 2, .tmp 3] x) [.code c] (initF 0 args) []) : APure Try.prog 59 args x :=
  .intro (by kernel_rfl) mixed Try.func59 hb rfl rfl (okE hb (by kernel_rfl)) hl h
attribute [go_sem] k59 p59 c59
/- weirkeeper/pack.fits 0 -/
def k60 : Nat → List Nat | 0 => [0] | 1 => [2] | _ => []
def p60 : Nat → Plan | _ => .fin
def c60 : Cfg := ⟨9, k60, [], [], p60⟩
theorem i60 {c : Code} {args x} (hb : Try.f60.body = some c) (hl : args.length ≤ 9) (h : W Try.prog c60 (RP Try.prog [.tmp 2] x) [.code c] (initF 0 args) []) : APure Try.prog 60 args x :=
  .intro (by kernel_rfl) mixed Try.func60 hb rfl rfl (okE hb (by kernel_rfl)) hl h
attribute [go_sem] k60 p60 c60
end Go.Ab
