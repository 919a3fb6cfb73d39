/- What simp unfolds in a walk. -/
import Derived.Test.YthfjcplhjbaplaaAb18
set_option linter.all false
namespace Go.Ab
theorem get_nil (t : Nat) : get [] t = .bad := rfl
theorem get_cons (k : Nat) (x : AV) (r : Fr) (t : Nat) : get ((k, x) :: r) t = match k == t with | true => x | false => get r t := by
  simp only [get]
  by_cases h : k = t
  · subst h; simp
  · rw [if_neg h, show (k == t) = false by simpa using h]
attribute [go_sem] run.eq_1 run.eq_3 run.eq_4 run.eq_5 run.eq_6 run.eq_7 run.eq_8 run.eq_9 run.eq_10 run.eq_11 run.eq_12 run.eq_13 run.eq_14 run.eq_15 run.eq_16 run.eq_17 run.eq_18 run.eq_19 run.eq_20 run.eq_21 run.eq_22 run.eq_23 run.eq_24 run.eq_25 run.eq_26 run.eq_27 run.eq_28 run.eq_29 run.eq_30 run.eq_31 run.eq_32 run.eq_33 run.eq_34 run.eq_35 run.eq_36 run.eq_37 run.eq_38 run.eq_39 run.eq_40 run.eq_41 run.eq_42 run.eq_43 initF get_nil get_cons setO keepF ev ofValue ofCell gdx kind opv lenA intOfA idxA eltA loadA partA fldA fieldA AV.cells AV.cl blkAt opn elemA chunkA stOp stA putE setAt isLit inL eff popTo binA intA strA shiftA sliceA bnd minA maxA buildA fillA zerosA convA rowsOf strOf eqC eqLeaf appOp appA calleeA resA resL resOne tupA fz oneA
attribute [go_sem] List.map_cons List.map_nil List.length_cons List.length_nil List.length_map List.getElem?_map List.getElem?_cons_zero List.getElem?_cons_succ List.getElem?_nil List.getElem?_toArray Option.map_some Option.map_none Option.bind_some Option.bind_none
attribute [go_sem] Int.toNat_natCast Int.natCast_nonneg Int.ofNat_lt Int.ofNat_le true_and and_true and_self if_true if_false List.take_succ_cons List.take_zero List.drop_succ_cons List.drop_zero Option.getD_some Option.getD_none List.append_nil List.nil_append List.cons_append List.set_cons_zero List.set_cons_succ
theorem sp_decide (p : Prop) [Decidable p] (a b : Prop) : sp (decide p) a b = ((p → a) ∧ (¬ p → b)) := by
  unfold sp; simp only [decide_eq_true_eq, decide_eq_false_iff_not]
theorem sp_not (t : Bool) (a b : Prop) : sp (!t) a b = sp t b a := by cases t <;> simp only [Bool.not_true, Bool.not_false, sp_true, sp_false]
theorem ifR {α : Type} {n : Int} {x : α} (h1 : -9223372036854775808 ≤ n) (h2 : n ≤ 9223372036854775807) : (if i64R n then some x else none) = some x := if_pos ⟨h1, h2⟩
theorem ifA {α : Type} {c : Prop} [Decidable c] {x : Option α} (h : c) : (if c then x else none) = x := if_pos h
attribute [go_sem] Int.cast_ofNat_Int Int.lt_irrefl Nat.lt_irrefl ifA ifR Option.some.injEq AV.v.injEq AV.agg.injEq AV.tup.injEq AV.sl.injEq Value.bool.injEq Value.int.injEq Value.string.injEq List.cons.injEq sp_not RP Option.isSome_some Option.isSome_none imp_self forall_const false_implies List.contains_nil List.contains_cons Bool.not_false Bool.not_true Bool.true_or Bool.false_or Bool.or_true Bool.or_false Bool.true_and Bool.false_and Bool.and_true Bool.and_false decide_true decide_false not_true_eq_false not_false_eq_true List.append_nil List.length_append
attribute [go_sem] List.getElem?_replicate List.length_replicate le1 leL leA List.range_succ List.range_zero List.replicate_succ List.replicate_zero List.flatten_cons List.flatten_nil
attribute [go_sem ↓] sp_decide
attribute [go_sem ↓] sp_true sp_false
attribute [go_sem] Cfg.kp Cfg.pl Cfg.ow Cfg.ec
attribute [congr] sp_congr
end Go.Ab
