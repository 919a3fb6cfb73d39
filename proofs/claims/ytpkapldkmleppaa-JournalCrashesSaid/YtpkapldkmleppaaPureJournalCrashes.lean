/- Behind a crash, whatever of what waits lasts, the records of a Gen that are told are some of the first ones, with all that were flushed, though records of an earlier Gen stood there. -/
import Derived.Test.YtpkapldkmleppaaFlaw08JournalCrashes
import Derived.Test.YtpkapldkmleppaaPlJourD
namespace Go.Proofs.Ytpkapldkmleppaa.PlJournalCrashes
open Go.RowKit Go.Proofs.Ytpkapldkmleppaa.F Go.Proofs.YtpkapldkmleppaaW.PrintWords Go.Proofs.YtpkapldkmleppaaW.PrintLast Go.Proofs.YtpkapldkmleppaaW.PrintMore Go.Proofs.Ytpkapldkmleppaa.Pl
set_option linter.unusedVariables false
set_option linter.unusedSimpArgs false
/-- where the disk stands: the image is the records so far over what stood there; behind the flush it is that of the flushed ones, and the rest waits -/
def At (g : Nat) (O fl : List (List UInt8)) (D : List (List UInt8)) (n : Nat) (S : List ByteArray) (W : List Wr) : Prop :=
  Img n S W (ovr 2 (recsL g 0 D) O) ∧ S.length = 130 ∧ n ≤ 128 + (recsL g 0 D).length
def Behind (g : Nat) (O fl mo : List (List UInt8)) (S : List ByteArray) (W : List Wr) : Prop :=
  S = (ovr 2 (recsL g 0 fl) O).map B ∧ W = putW ((2 + (recsL g 0 fl).length : Nat) : Int) ((recsL g (recsL g 0 fl).length mo).map B)
theorem last (g : Nat) (hg : 2 ≤ g ∧ g ≤ 2147483646) (O fl mo : List (List UInt8)) (hO : O.length = 130) (hb : Bad g O) (hf : ∀ t ∈ fl, t.length ≤ 300) (hm : ∀ t ∈ mo, t.length ≤ 300) (hfl : fl.length ≤ 10) (hml : mo.length ≤ 10) (n : Nat) (S : List ByteArray) (W : List Wr) (kept : List Bool)
    (hA : At g O fl (fl ++ mo) n S W) (hB : Behind g O fl mo S W) (h128 : (recsL g 0 (fl ++ mo)).length ≤ 128) (k : Nat) (hk : 5000 ≤ k) :
    weirkeeperlaw08_JournalCrashes.j4 k (fl.map B) kept (g : Int) ((fl ++ mo).map B) S W = some true := by
  obtain ⟨k, rfl⟩ : ∃ j, k = j + 1 := ⟨k - 1, by omega⟩
  obtain ⟨hI, h130, hn⟩ := hA
  obtain ⟨hS, hW⟩ := hB
  have hal : (recsL g 0 (fl ++ mo)).length = (recsL g 0 fl).length + (recsL g (recsL g 0 fl).length mo).length := by rw [recsL_append, List.length_append, Nat.zero_add]
  have hov : (ovr 2 (recsL g 0 fl) O).length = 130 := by rw [ovr_length _ _ _ (by omega), hO]
  obtain ⟨j, R, hj, hc, hh⟩ := crash_put (fun i => kept.getD i false) ((recsL g (recsL g 0 fl).length mo).map B) (2 + (recsL g 0 fl).length) 0 S (by rw [h130, List.length_map]; omega)
  rw [List.length_map] at hj
  have hRlen : ∀ s ∈ (S.take (2 + (recsL g 0 fl).length) ++ ((recsL g (recsL g 0 fl).length mo).map B).take j ++ R), s.size = 32 := by
    rw [← hc, ← hW]
    obtain ⟨_, _, r3, r4⟩ := (right_iff S W).1 hI.right
    exact applyW_32 _ W 0 S (fun x hx => (r4 x hx).1) r3
  have hCl : (S.take (2 + (recsL g 0 fl).length) ++ ((recsL g (recsL g 0 fl).length mo).map B).take j ++ R).length = 130 := by
    rw [← hc, applyW_length, h130]
  have hcr : disk_Crash.f S W kept = some (S.take (2 + (recsL g 0 fl).length) ++ ((recsL g (recsL g 0 fl).length mo).map B).take j ++ R, []) := by
    rw [Crash_eq (hI.fit (by omega)), lasting_right hI.right, hW, hc]
  have hR : R = (R.map fun s => s.data.toList).map B := strs_of R
  generalize (R.map fun s => s.data.toList) = R' at hR
  subst hR
  have hSt : S.take (2 + (recsL g 0 fl).length) = (O.take 2 ++ recsL g 0 fl).map B := by
    rw [hS, ← List.map_take]
    congr 1
    unfold ovr
    rw [List.take_append_of_le_length (by rw [List.length_append, List.length_take]; omega), List.take_of_length_le (by rw [List.length_append, List.length_take]; omega)]
  have hC : S.take (2 + (recsL g 0 fl).length) ++ ((recsL g (recsL g 0 fl).length mo).map B).take j ++ R'.map B = (O.take 2 ++ recsL g 0 fl ++ (recsL g (recsL g 0 fl).length mo).take j ++ R').map B := by
    rw [hSt]
    simp only [List.map_append, List.map_take]
  rw [hC] at hcr hRlen hCl
  have hI3 : Img 0 ((O.take 2 ++ recsL g 0 fl ++ (recsL g (recsL g 0 fl).length mo).take j ++ R').map B) [] (O.take 2 ++ recsL g 0 fl ++ (recsL g (recsL g 0 fl).length mo).take j ++ R') :=
    ⟨Nat.le_refl _, (right_iff _ _).2 ⟨by omega, by omega, hRlen, fun x hx => by cases hx⟩, rfl⟩
  have hdrop : (O.take 2 ++ recsL g 0 fl ++ (recsL g (recsL g 0 fl).length mo).take j ++ R').drop 2 = recsL g 0 fl ++ ((recsL g (recsL g 0 fl).length mo).take j ++ R') := by
    rw [List.append_assoc, List.append_assoc, List.drop_append_of_le_length (by rw [List.length_take]; omega), List.drop_of_length_le (by rw [List.length_take]; omega), List.nil_append]
  have hbad : ∀ s, R'.head? = some s → ¬ okL g ((recsL g 0 fl).length + j) s := fun s hs => by
    rw [List.head?_map, hs, hS, ← List.map_drop, List.head?_map] at hh
    have hx : (ovr 2 (recsL g 0 fl) O).drop (2 + (recsL g 0 fl).length + j) = O.drop (2 + (recsL g 0 fl).length + j) := by
      have h2 : (O.take 2 ++ recsL g 0 fl).length = 2 + (recsL g 0 fl).length := by rw [List.length_append, List.length_take]; omega
      unfold ovr
      rw [List.drop_append, h2, List.drop_of_length_le (by omega), List.nil_append, List.drop_drop]
      congr 1
      omega
    rw [hx] at hh
    cases hd : (O.drop (2 + (recsL g 0 fl).length + j)).head? with
    | none => rw [hd] at hh; cases hh
    | some x =>
      rw [hd] at hh
      simp only [Option.map_some, Option.some.injEq] at hh
      rw [B_inj hh]
      exact hb x (List.mem_of_mem_drop (List.mem_of_mem_head? (by rw [hd]; rfl))) _
  obtain ⟨c, hc1, hc2⟩ := parse_first g mo (recsL g 0 fl).length j fl R' (fun t ht => by have := hm t ht; omega) hj hbad
  have hp : (parseR (g : Int) ((O.take 2 ++ recsL g 0 fl ++ (recsL g (recsL g 0 fl).length mo).take j ++ R').drop 2)).1 = fl ++ mo.take c := by
    rw [List.length_map] at hCl
    unfold parseR
    rw [if_pos ⟨⟨by omega, by omega⟩, by rw [List.length_drop]; omega⟩, Int.toNat_natCast, hdrop, parse_recs g fl 0 [] _ (fun t ht => by have := hf t ht; omega), Nat.zero_add, List.nil_append, hc2]
  have hcm : (fl ++ mo.take c) = (fl ++ mo).take (fl.length + c) := by
    have e : fl.length + c - fl.length = c := by omega
    have e2 : fl.take (fl.length + c) = fl := List.take_of_length_le (by omega)
    rw [List.take_append, e2, e]
  have hln : (fl ++ mo.take c).length = fl.length + c := by rw [List.length_append, List.length_take]; omega
  rw [weirkeeperlaw08_JournalCrashes.j4, hcr, Option.bind_some, hI3.texts (by omega) hCl _ k (by omega), Option.bind_some, hp]
  simp only [List.length_map]
  rw [if_pos trivial, hln, if_pos (by omega), if_pos (by rw [List.length_append]; omega), if_pos (by omega), Int.toNat_natCast, hcm, ← List.map_take, same01_eq _ _ (by rw [← hcm, hln]; omega) k (by rw [← hcm, hln]; omega), Option.bind_some, if_pos (decide_eq_true rfl), awakeAt k (by omega)]
  rfl
theorem at_flush {g : Nat} {O fl D : List (List UInt8)} {n : Nat} {S : List ByteArray} {W : List Wr} (h : At g O fl D n S W) (hn : n ≤ 100000) : disk_Flush.f S W = some ((ovr 2 (recsL g 0 D) O).map B, []) ∧ At g O fl D 0 ((ovr 2 (recsL g 0 D) O).map B) [] := by
  obtain ⟨hI, h130, _⟩ := h
  obtain ⟨f1, f2⟩ := hI.flush hn
  exact ⟨f1, f2, by rw [List.length_map, hI.len, h130], by omega⟩
theorem loop (g : Nat) (hg : 2 ≤ g ∧ g ≤ 2147483646) (O fl mo : List (List UInt8)) (hO : O.length = 130) (hb : Bad g O) (hf : ∀ t ∈ fl, t.length ≤ 300) (hm : ∀ t ∈ mo, t.length ≤ 300) (hfl : fl.length ≤ 10) (hml : mo.length ≤ 10) (kept : List Bool) :
    ∀ (rest D : List (List UInt8)) (k n : Nat) (S : List ByteArray) (W : List Wr), D ++ rest = fl ++ mo → 5100 + 2 * rest.length ≤ k → At g O fl D n S W → (recsL g 0 D).length ≤ 128 → (fl.length < D.length → Behind g O fl (mo.take (D.length - fl.length)) S W) →
    weirkeeperlaw08_JournalCrashes.l1 k (fl.map B) (mo.map B) kept (g : Int) (((recsL g 0 D).length : Nat) : Int) ((fl ++ mo).map B) ((fl ++ mo).map B) ((fl ++ mo).length : Int) (D.length : Int) S W = some true
  | [], D, k, n, S, W, hD, hk, hA, h128, hB => by
    obtain ⟨k, rfl⟩ : ∃ j, k = j + 1 := ⟨k - 1, by omega⟩
    rw [List.append_nil] at hD
    subst hD
    rw [weirkeeperlaw08_JournalCrashes.l1, if_neg (by omega), List.length_map]
    by_cases c : mo.length = 0
    · obtain rfl := List.eq_nil_of_length_eq_zero c
      obtain ⟨f1, f2⟩ := at_flush hA (by have := hA.2.2; omega)
      rw [if_pos (by omega), f1, Option.bind_some]
      exact last g hg O fl [] hO hb hf hm hfl hml 0 _ _ kept f2 ⟨by rw [List.append_nil], by rw [recsL]; rfl⟩ h128 k (by omega)
    · rw [if_neg (by omega)]
      have hB2 := hB (by rw [List.length_append]; omega)
      rw [List.length_append, show fl.length + mo.length - fl.length = mo.length by omega, List.take_length] at hB2
      exact last g hg O fl mo hO hb hf hm hfl hml n S W kept hA hB2 h128 k (by omega)
  | t :: rest, D, k, n, S, W, hD, hk, hA, h128, hB => by
    rw [List.length_cons] at hk
    obtain ⟨k, rfl⟩ : ∃ j, k = j + 2 := ⟨k - 2, by omega⟩
    have hml2 : (fl ++ mo).length = D.length + (rest.length + 1) := by rw [← hD, List.length_append, List.length_cons]
    have hlt : D.length < (fl ++ mo).length := by omega
    have hget : (fl ++ mo)[D.length] = t := by simp only [← hD, List.getElem_append_right (Nat.le_refl _), Nat.sub_self, List.getElem_cons_zero]
    have hl2 : (fl ++ mo).length ≤ 20 := by rw [List.length_append]; omega
    have ht : t.length ≤ 300 := by
      have : t ∈ fl ++ mo := by rw [← hD]; exact List.mem_append_right _ List.mem_cons_self
      rcases List.mem_append.1 this with h | h
      · exact hf t h
      · exact hm t h
    have hsn : recsL g 0 D ++ recL g (recsL g 0 D).length t = recsL g 0 (D ++ [t]) := by
      rw [recsL_append, Nat.zero_add, recsL, recsL, List.append_nil]
    have hrl := recL_length t.length g (recsL g 0 D).length t (Nat.le_refl _)
    have hr1 : recsL g (recsL g 0 D).length [t] = recL g (recsL g 0 D).length t := by rw [recsL, recsL, List.append_nil]
    have hln : (recsL g 0 (D ++ [t])).length = (recsL g 0 D).length + needL t.length := by rw [← hsn, List.length_append, hrl]
    have step : ∀ (n : Nat) (S : List ByteArray) (W : List Wr), At g O fl D n S W → (fl.length ≤ D.length → Behind g O fl (mo.take (D.length - fl.length)) S W) → weirkeeperlaw08_JournalCrashes.j3 (k + 1) (fl.map B) (mo.map B) kept (g : Int) (((recsL g 0 D).length : Nat) : Int) ((fl ++ mo).map B) (B t) ((fl ++ mo).map B) ((fl ++ mo).length : Int) (D.length : Int) S W = some true := by
      intro n S W hA hB
      obtain ⟨hI, h130, hn⟩ := hA
      have hap := hI.append (by omega) h130 g (recsL g 0 D).length (by omega) (by omega) [t] (by simp) (fun x hx => by rw [List.mem_singleton.1 hx]; omega) k (by omega)
      rw [hr1, hrl, List.map_singleton] at hap
      rw [weirkeeperlaw08_JournalCrashes.j3, hap]
      by_cases c2 : (recsL g 0 D).length + needL t.length ≤ 128
      · have hp := (hI.put (by omega) (2 + (recsL g 0 D).length) (recL g (recsL g 0 D).length t) (by rw [hrl]; omega) (recL_32 _ g _ t (Nat.le_refl _))).2
        rw [ovr_ovr 2 _ _ _ (by rw [hO, hrl]; omega), hsn, hrl] at hp
        rw [if_pos c2, Option.bind_some]
        simp only
        rw [if_pos trivial, ← hln]
        have e4 : wrap64 ((D.length : Int) + 1) = (((D ++ [t]).length : Nat) : Int) := by rw [wrap64_in (by omega) (by omega), List.length_append, List.length_singleton]; omega
        rw [e4]
        clear e4
        refine loop g hg O fl mo hO hb hf hm hfl hml kept rest (D ++ [t]) k (n + needL t.length) S _ (by rw [List.append_assoc]; exact hD) (by omega) ⟨hp, h130, by rw [hln]; omega⟩ (by rw [hln]; exact c2) fun hlt2 => ?_
        rw [List.length_append, List.length_singleton] at hlt2 ⊢
        obtain ⟨hS, hW⟩ := hB (by omega)
        refine ⟨hS, ?_⟩
        have hm1 : mo.take (D.length + 1 - fl.length) = mo.take (D.length - fl.length) ++ [t] := by
          have hd2 : D.length - fl.length < mo.length := by rw [List.length_append] at hlt; omega
          rw [show D.length + 1 - fl.length = (D.length - fl.length) + 1 by omega, List.take_succ_eq_append_getElem hd2]
          have : mo[D.length - fl.length] = t := by rw [← hget, List.getElem_append_right (by omega)]
          rw [this]
        have hDeq : D = fl ++ mo.take (D.length - fl.length) := by
          have := congrArg (List.take D.length) hD
          rw [List.take_left, List.take_append, List.take_of_length_le (by omega)] at this
          exact this
        have hlD : (recsL g 0 D).length = (recsL g 0 fl).length + (recsL g (recsL g 0 fl).length (mo.take (D.length - fl.length))).length := by
          conv => lhs; rw [hDeq, recsL_append, List.length_append, Nat.zero_add]
        rw [hm1, recsL_append, List.map_append, putW_append, hW, List.length_map, ← hlD, hr1]
        congr 2
        omega
      · rw [if_neg c2, Option.bind_some]
        simp only
        rw [if_neg (by decide), if_pos trivial, awakeAt k (by omega)]
        rfl
    rw [weirkeeperlaw08_JournalCrashes.l1, if_pos (by omega), if_pos (by omega), if_pos (by rw [List.length_map]; omega), rdOf_B _ D.length hlt, hget, List.length_map]
    by_cases c : D.length = fl.length
    · obtain ⟨f1, f2⟩ := at_flush hA (by have := hA.2.2; omega)
      have hDf : D = fl := by
        have := congrArg (List.take D.length) hD
        rw [List.take_left, c, List.take_left] at this
        exact this
      rw [if_pos (by omega), f1, Option.bind_some]
      refine step 0 _ _ f2 fun _ => ⟨by rw [hDf], ?_⟩
      rw [c, Nat.sub_self, List.take_zero, recsL]
      rfl
    · rw [if_neg (by omega)]
      exact step n S W hA fun h => hB (by omega)
theorem pure : ∀ (a0 : Int) (l1 : List ByteArray) (l2 : List ByteArray) (l3 : List ByteArray) (l4 : List Bool), (Lit.int .u32 a0).wf = true → ((∀ yy ∈ l1, yy.size ≤ maxLen) ∧ l1.length ≤ maxLen) → ((∀ yy ∈ l2, yy.size ≤ maxLen) ∧ l2.length ≤ maxLen) → ((∀ yy ∈ l3, yy.size ≤ maxLen) ∧ l3.length ≤ maxLen) → ((∀ yy ∈ l4, True) ∧ l4.length ≤ maxLen) → ∃ k, F.weirkeeperlaw08_JournalCrashes.f k a0 l1 l2 l3 l4 = some true := by
  intro a0 l1 l2 l3 l4 h0 h1 h2 h3 h4
  refine ⟨6000, ?_⟩
  have hj : ∀ (l1 l2 l3 : List ByteArray) (l4 : List Bool), weirkeeperlaw08_JournalCrashes.j0 6000 a0 l1 l2 l3 l4 true = some true := fun l1 l2 l3 l4 => by
    rw [weirkeeperlaw08_JournalCrashes.j0, if_pos rfl, awakeAt _ (by omega)]
    rfl
  unfold weirkeeperlaw08_JournalCrashes.f
  by_cases c1 : (l1.length : Int) > 10
  · rw [if_pos c1, hj]
  · rw [if_neg c1]
    by_cases c2 : (l2.length : Int) > 10
    · rw [if_pos c2, hj]
    · rw [if_neg c2]
      by_cases c3 : (l3.length : Int) > 10
      · rw [if_pos c3, hj]
      · rw [if_neg c3]
        by_cases c4 : (l4.length : Int) > 100
        · rw [decide_eq_true c4, hj]
        · rw [decide_eq_false c4]
          rw [strs_of l1] at c1 ⊢
          rw [strs_of l2] at c2 ⊢
          rw [strs_of l3] at c3 ⊢
          generalize (l1.map fun s => s.data.toList) = old at c1 ⊢
          generalize (l2.map fun s => s.data.toList) = fl at c2 ⊢
          generalize (l3.map fun s => s.data.toList) = mo at c3 ⊢
          rw [List.length_map] at c1 c2 c3
          have hb : 0 ≤ a0 ∧ a0 < 4294967296 := wf_u32 h0
          have hg : ∃ g : Nat, wrap64 (2 + wrap64 (Int.tmod a0 2147483645)) = (g : Int) ∧ 2 ≤ g ∧ g ≤ 2147483646 := by
            rw [Int.tmod_eq_emod_of_nonneg hb.1]
            refine ⟨(2 + a0 % 2147483645).toNat, ?_, by omega, by omega⟩
            have h2 : wrap64 (a0 % 2147483645) = a0 % 2147483645 := wrap64_in (by omega) (by omega)
            rw [h2, wrap64_in (by omega) (by omega)]
            omega
          obtain ⟨g, hw, hg⟩ := hg
          rw [weirkeeperlaw08_JournalCrashes.j0, if_neg (by decide), New_ok (by omega) (by omega), Option.bind_some, Option.bind_some, if_pos (by simp; omega), Option.bind_some, List.nil_append, if_pos (by simp; omega), Option.bind_some, ← List.map_append, if_pos (by simp; omega), Option.bind_some, ← List.map_append, List.length_map, hw]
          refine short_loop (g := fun k i => weirkeeperlaw08_JournalCrashes.l0 k (old.map B) (fl.map B) (mo.map B) l4 (g : Int) 0 ((old ++ fl ++ mo).map B) ((old ++ fl ++ mo).length : Int) i (List.replicate 130 zero32) []) (old ++ fl ++ mo) 300 5500 _ rfl (fun _ _ => rfl) (fun k hk => by rw [awakeAt k (by omega)]; rfl) ?_ (by simp; omega) (old ++ fl ++ mo).length 0 5999 (by omega) (by simp; omega) (by simp)
          intro hs k hk
          have e1 : wrap64 ((g : Int) - 1) = ((g - 1 : Nat) : Int) := by rw [wrap64_in (by omega) (by omega)]; omega
          rw [e1]
          clear e1
          have hI := Img.new
          have h130 : (List.replicate 130 zero32).length = 130 := by simp
          have a1 := hI.append (by omega) h130 (g - 1) 0 (by omega) (by omega) old (by omega) (fun t h => by have := hs t (List.mem_append_left _ (List.mem_append_left _ h)); omega) k (by omega)
          rw [Nat.zero_add, show ((0 : Nat) : Int) = 0 from rfl] at a1
          have key : ∀ (S : List ByteArray) (W : List Wr) (O : List (List UInt8)) (n : Nat), S.length = 130 → Bad g O → Img n S W O → n ≤ 128 → O.length = 130 →
              ((some (([] : List ByteArray) : List ByteArray)).bind fun y623 => (if y623.length + (fl.map B).length < 8796093022208 then ((some (y623 ++ fl.map B : List ByteArray)).bind fun y626 => (if y626.length + (mo.map B).length < 8796093022208 then ((some (y626 ++ mo.map B : List ByteArray)).bind fun y629 => (weirkeeperlaw08_JournalCrashes.l1 k (fl.map B) (mo.map B) l4 (g : Int) 0 y629 y629 (y629.length : Int) 0 S W)) else (none))) else (none))) = some true := by
            intro S W O n hS hb hI hn hO
            rw [Option.bind_some, if_pos (by simp; omega), Option.bind_some, List.nil_append, if_pos (by simp; omega), Option.bind_some, ← List.map_append, List.length_map]
            have := loop g hg O fl mo hO hb (fun t h => hs t (List.mem_append_left _ (List.mem_append_right _ h))) (fun t h => hs t (List.mem_append_right _ h)) (by omega) (by omega) l4 (fl ++ mo) [] k n S W rfl (by simp; omega)
              ⟨by rw [recsL, ovr_nil]; exact hI, hS, by omega⟩ (by simp [recsL]) (fun h => absurd h (by simp))
            simpa [recsL] using this
          rw [a1]
          by_cases c : (recsL (g - 1) 0 old).length ≤ 128
          · rw [if_pos c, Option.bind_some]
            have hp1 := (hI.put (by omega) 2 (recsL (g - 1) 0 old) (by rw [List.length_replicate]; omega) (recsL_32 (g - 1) old 0)).2
            refine key _ _ _ _ h130 ?_ hp1 (by omega) (by rw [ovr_length _ _ _ (by rw [List.length_replicate]; omega), List.length_replicate])
            unfold ovr
            exact bad_append (bad_append (bad_sub (fun s hs => List.mem_of_mem_take hs) (bad_zeros g 130 (by omega) (by omega))) (bad_recs g (g - 1) old 0 (by omega) (by omega) (by omega))) (bad_sub (fun s hs => List.mem_of_mem_drop hs) (bad_zeros g 130 (by omega) (by omega)))
          · rw [if_neg c, Option.bind_some]
            exact key _ _ _ _ h130 (bad_zeros g 130 (by omega) (by omega)) hI (by omega) (by simp)
end Go.Proofs.Ytpkapldkmleppaa.PlJournalCrashes
