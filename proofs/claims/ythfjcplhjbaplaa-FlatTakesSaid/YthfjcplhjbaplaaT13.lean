/- What runs the program: the table of what is told of its functions. -/
import Derived.Test.YthfjcplhjbaplaaFlatTy
import Derived.Test.YthfjcplhjbaplaaAbE6
namespace Go.Ab
open Go.Proofs
set_option linter.all false
set_option maxRecDepth 100000
set_option maxHeartbeats 4000000
def cZ : Cfg := ⟨0, fun _ => [], [], [], fun _ => .fin⟩
def cfL : List Cfg := [cZ, cZ, cZ, c3, c4, c5, c6, c7, c8, c9, c10, c11, c12, c13, c14, c15, c16, c17, c18, c19, c20, c21, c22, c23, c24, c25, c26, c27, c28, c29, c30, c31, c32, c33, c34, c35, c36, c37, c38, c39, c40, c41, c42, c43, c44, c45, c46, c47, c48, c49, c50, c51, c52, c53, c54, c55, c56, c57, c58, c59, c60]
def isP : AV → Bool
  | .ptr .. => true
  | _ => false
def env : Env := ⟨fun g => (cfL[g]?).getD cZ, fun _ _ => none, fun _ args => args.any isP⟩
noncomputable def okG (g : Nat) : Bool := match Try.prog.funcs[g]? with
  | some fn => match fn.body with
    | some c => (env.cf g).n == 0 || (fnOk Try.prog g && (fn.ntmps == (env.cf g).n) && okC Try.prog (env.cf g) c)
    | none => true
  | none => true
theorem okAll : (List.range Try.prog.funcs.size).all okG = true := by kernel_rfl
def isT : Option (AV × List Blk × Nat) → Bool
  | some (.v (.bool b), [], n) => b
  | _ => false
end Go.Ab
