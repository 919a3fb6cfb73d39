/- Contracts of Go functions of the seat Ytpkapldkmleppaa: what a call comes to; no condition but those that each theorem names. -/
import Derived.Test.YtpkapldkmleppaaFPre
import Derived.Test.YtpkapldkmleppaaFdiskC
import Derived.Test.YtpkapldkmleppaaFdiskN
import Derived.Test.YtpkapldkmleppaaFjournalx2
import Derived.Test.YtpkapldkmleppaaFjournalx1
import Derived.Test.YtpkapldkmleppaaFlaw08awake
import Derived.Test.YtpkapldkmleppaaFref01
namespace Go.Proofs.Ytpkapldkmleppaa.F
open Go.RowKit Go.Proofs.YtpkapldkmleppaaW.PrintWords Go.Proofs.YtpkapldkmleppaaW.PrintLast Go.Proofs.YtpkapldkmleppaaW.PrintMore
attribute [local go_sem] max2_int min2_int max_two min_two max_three min_three max_four min_four   -- for this text's walks alone
set_option linter.unusedVariables false
set_option linter.unusedSimpArgs false

attribute [local go_sem] fieldD25_0 fieldD25_1
/-! ### weirkeeperlaw08_JournalCrashes: function 14 -/
mutual
def weirkeeperlaw08_JournalCrashes.j0 : Nat → Int → List ByteArray → List ByteArray → List ByteArray → List Bool → Bool → Option (Bool)
  | 0, _, _, _, _, _, _ => none
  | k + 1, x0, x1, x2, x3, x4, x43 => if x43 = true then ((weirkeeperlaw08_awake.f k).bind fun t592 => (some t592)) else ((disk_New.f 130).bind fun bt593 => ((some (([] : List ByteArray) : List ByteArray)).bind fun y601 => (if y601.length + x1.length < 8796093022208 then ((some (y601 ++ x1 : List ByteArray)).bind fun y604 => (if y604.length + x2.length < 8796093022208 then ((some (y604 ++ x2 : List ByteArray)).bind fun y607 => (if y607.length + x3.length < 8796093022208 then ((some (y607 ++ x3 : List ByteArray)).bind fun y610 => (weirkeeperlaw08_JournalCrashes.l0 k x1 x2 x3 x4 (wrap64 (2 + (wrap64 (Int.tmod x0 2147483645)))) 0 y610 (y610.length : Int) 0 bt593.1 bt593.2.1)) else (none))) else (none))) else (none))))
def weirkeeperlaw08_JournalCrashes.l0 : Nat → List ByteArray → List ByteArray → List ByteArray → List Bool → Int → Int → List ByteArray → Int → Int → List ByteArray → List (S76) → Option (Bool)
  | 0, _, _, _, _, _, _, _, _, _, _, _ => none
  | k + 1, x1, x2, x3, x4, x11, x14, x59, x60, x61, x601000, x601001 => if x61 < x60 then (if 0 ≤ x61 then (if x61 < (x59.length : Int) then (if ((rdOf ByteArray.empty x59 x61).size : Int) > 300 then ((weirkeeperlaw08_awake.f k).bind fun t614 => (some t614)) else (weirkeeperlaw08_JournalCrashes.l0 k x1 x2 x3 x4 x11 x14 x59 x60 (wrap64 (x61 + 1)) x601000 x601001)) else (none)) else (none)) else ((journal_Append.f k x601000 x601001 (wrap64 (x11 - 1)) 0 x1).bind fun bt615 => ((some (([] : List ByteArray) : List ByteArray)).bind fun y623 => (if y623.length + x2.length < 8796093022208 then ((some (y623 ++ x2 : List ByteArray)).bind fun y626 => (if y626.length + x3.length < 8796093022208 then ((some (y626 ++ x3 : List ByteArray)).bind fun y629 => (weirkeeperlaw08_JournalCrashes.l1 k x2 x3 x4 x11 x14 y629 y629 (y629.length : Int) 0 bt615.1 bt615.2.1)) else (none))) else (none))))
def weirkeeperlaw08_JournalCrashes.l1 : Nat → List ByteArray → List ByteArray → List Bool → Int → Int → List ByteArray → List ByteArray → Int → Int → List ByteArray → List (S76) → Option (Bool)
  | 0, _, _, _, _, _, _, _, _, _, _, _ => none
  | k + 1, x2, x3, x4, x11, x14, x17, x84, x85, x86, x601000, x601001 => if x86 < x85 then (if 0 ≤ x86 then (if x86 < (x84.length : Int) then (if x86 = (x2.length : Int) then ((disk_Flush.f x601000 x601001).bind fun bt633 => (weirkeeperlaw08_JournalCrashes.j3 k x2 x3 x4 x11 x14 x17 (rdOf ByteArray.empty x84 x86) x84 x85 x86 bt633.1 bt633.2)) else (weirkeeperlaw08_JournalCrashes.j3 k x2 x3 x4 x11 x14 x17 (rdOf ByteArray.empty x84 x86) x84 x85 x86 x601000 x601001)) else (none)) else (none)) else (if (x3.length : Int) = 0 then ((disk_Flush.f x601000 x601001).bind fun bt652 => (weirkeeperlaw08_JournalCrashes.j4 k x2 x4 x11 x17 bt652.1 bt652.2)) else (weirkeeperlaw08_JournalCrashes.j4 k x2 x4 x11 x17 x601000 x601001))
def weirkeeperlaw08_JournalCrashes.j3 : Nat → List ByteArray → List ByteArray → List Bool → Int → Int → List ByteArray → ByteArray → List ByteArray → Int → Int → List ByteArray → List (S76) → Option (Bool)
  | 0, _, _, _, _, _, _, _, _, _, _, _, _ => none
  | k + 1, x2, x3, x4, x11, x14, x17, x19, x84, x85, x86, x601000, x601001 => (journal_Append.f k x601000 x601001 x11 x14 (([x19] : List ByteArray))).bind fun bt642 => (if bt642.2.2.2 = 0 then (weirkeeperlaw08_JournalCrashes.l1 k x2 x3 x4 x11 bt642.2.2.1 x17 x84 x85 (wrap64 (x86 + 1)) bt642.1 bt642.2.1) else (if bt642.2.2.2 = 6 then ((weirkeeperlaw08_awake.f k).bind fun t651 => (some t651)) else (some false)))
def weirkeeperlaw08_JournalCrashes.j4 : Nat → List ByteArray → List Bool → Int → List ByteArray → List ByteArray → List (S76) → Option (Bool)
  | 0, _, _, _, _, _, _ => none
  | k + 1, x2, x4, x11, x17, x601000, x601001 => (disk_Crash.f x601000 x601001 x4).bind fun bt658 => ((journal_Texts.f k bt658.1 bt658.2 x11).bind fun bt664 => (if bt664.2.2 = 0 then (if (bt664.1.length : Int) ≥ (x2.length : Int) then (if (bt664.1.length : Int) ≤ (x17.length : Int) then (if 0 ≤ (bt664.1.length : Int) then ((weirkeeperref01_Same.f k bt664.1 (x17.take ((bt664.1.length : Int) : Int).toNat)).bind fun t673 => (if t673 = true then ((weirkeeperlaw08_awake.f k).bind fun t674 => (some t674)) else (some false))) else (none)) else (some false)) else (some false)) else (some false)))
end
def weirkeeperlaw08_JournalCrashes.f (k : Nat) (a0 : Int) (l1 : List ByteArray) (l2 : List ByteArray) (l3 : List ByteArray) (l4 : List Bool) : Option (Bool) := if (l1.length : Int) > 10 then (weirkeeperlaw08_JournalCrashes.j0 k a0 l1 l2 l3 l4 true) else (if (l2.length : Int) > 10 then (weirkeeperlaw08_JournalCrashes.j0 k a0 l1 l2 l3 l4 true) else (if (l3.length : Int) > 10 then (weirkeeperlaw08_JournalCrashes.j0 k a0 l1 l2 l3 l4 true) else (weirkeeperlaw08_JournalCrashes.j0 k a0 l1 l2 l3 l4 (decide ((l4.length : Int) > 100)))))
theorem weirkeeperlaw08_JournalCrashes.mono_l : ∀ k, (∀ y0 y1 y2 y3 y4 y5, LeO (weirkeeperlaw08_JournalCrashes.j0 k y0 y1 y2 y3 y4 y5) (weirkeeperlaw08_JournalCrashes.j0 (k + 1) y0 y1 y2 y3 y4 y5)) ∧ (∀ y0 y1 y2 y3 y4 y5 y6 y7 y8 y9 y10, LeO (weirkeeperlaw08_JournalCrashes.l0 k y0 y1 y2 y3 y4 y5 y6 y7 y8 y9 y10) (weirkeeperlaw08_JournalCrashes.l0 (k + 1) y0 y1 y2 y3 y4 y5 y6 y7 y8 y9 y10)) ∧ (∀ y0 y1 y2 y3 y4 y5 y6 y7 y8 y9 y10, LeO (weirkeeperlaw08_JournalCrashes.l1 k y0 y1 y2 y3 y4 y5 y6 y7 y8 y9 y10) (weirkeeperlaw08_JournalCrashes.l1 (k + 1) y0 y1 y2 y3 y4 y5 y6 y7 y8 y9 y10)) ∧ (∀ y0 y1 y2 y3 y4 y5 y6 y7 y8 y9 y10 y11, LeO (weirkeeperlaw08_JournalCrashes.j3 k y0 y1 y2 y3 y4 y5 y6 y7 y8 y9 y10 y11) (weirkeeperlaw08_JournalCrashes.j3 (k + 1) y0 y1 y2 y3 y4 y5 y6 y7 y8 y9 y10 y11)) ∧ (∀ y0 y1 y2 y3 y4 y5, LeO (weirkeeperlaw08_JournalCrashes.j4 k y0 y1 y2 y3 y4 y5) (weirkeeperlaw08_JournalCrashes.j4 (k + 1) y0 y1 y2 y3 y4 y5))
  | 0 => ⟨fun _ _ _ _ _ _ r h => by simp [weirkeeperlaw08_JournalCrashes.j0] at h, fun _ _ _ _ _ _ _ _ _ _ _ r h => by simp [weirkeeperlaw08_JournalCrashes.l0] at h, fun _ _ _ _ _ _ _ _ _ _ _ r h => by simp [weirkeeperlaw08_JournalCrashes.l1] at h, fun _ _ _ _ _ _ _ _ _ _ _ _ r h => by simp [weirkeeperlaw08_JournalCrashes.j3] at h, fun _ _ _ _ _ _ r h => by simp [weirkeeperlaw08_JournalCrashes.j4] at h⟩
  | k + 1 => by
    obtain ⟨ih0, ih1, ih2, ih3, ih4⟩ := weirkeeperlaw08_JournalCrashes.mono_l k
    refine ⟨?_, ?_, ?_, ?_, ?_⟩
    · intro y0 y1 y2 y3 y4 y5
      unfold weirkeeperlaw08_JournalCrashes.j0
      repeat' first
      | (with_reducible exact ih0 _ _ _ _ _ _)
      | (with_reducible exact ih1 _ _ _ _ _ _ _ _ _ _ _)
      | (with_reducible exact ih2 _ _ _ _ _ _ _ _ _ _ _)
      | (with_reducible exact ih3 _ _ _ _ _ _ _ _ _ _ _ _)
      | (with_reducible exact ih4 _ _ _ _ _ _)
      | (with_reducible exact journal_Append.mono _ _ _ _ _ _)
      | (with_reducible exact journal_Texts.mono _ _ _ _)
      | (with_reducible exact weirkeeperlaw08_awake.mono _)
      | (with_reducible exact weirkeeperref01_Same.mono _ _ _)
      | (with_reducible exact LeO.refl _)
      | (with_reducible exact LeO.none _)
      | (with_reducible refine LeO.ite ?_ ?_)
      | (with_reducible refine LeO.bind ?_ (fun _ => ?_))
      | exact ih0 _ _ _ _ _ _
      | exact ih1 _ _ _ _ _ _ _ _ _ _ _
      | exact ih2 _ _ _ _ _ _ _ _ _ _ _
      | exact ih3 _ _ _ _ _ _ _ _ _ _ _ _
      | exact ih4 _ _ _ _ _ _
      | exact journal_Append.mono _ _ _ _ _ _
      | exact journal_Texts.mono _ _ _ _
      | exact weirkeeperlaw08_awake.mono _
      | exact weirkeeperref01_Same.mono _ _ _
      | exact LeO.none _
      | refine LeO.ite ?_ ?_
      | refine LeO.bind ?_ (fun _ => ?_)
    · intro y0 y1 y2 y3 y4 y5 y6 y7 y8 y9 y10
      unfold weirkeeperlaw08_JournalCrashes.l0
      repeat' first
      | (with_reducible exact ih0 _ _ _ _ _ _)
      | (with_reducible exact ih1 _ _ _ _ _ _ _ _ _ _ _)
      | (with_reducible exact ih2 _ _ _ _ _ _ _ _ _ _ _)
      | (with_reducible exact ih3 _ _ _ _ _ _ _ _ _ _ _ _)
      | (with_reducible exact ih4 _ _ _ _ _ _)
      | (with_reducible exact journal_Append.mono _ _ _ _ _ _)
      | (with_reducible exact journal_Texts.mono _ _ _ _)
      | (with_reducible exact weirkeeperlaw08_awake.mono _)
      | (with_reducible exact weirkeeperref01_Same.mono _ _ _)
      | (with_reducible exact LeO.refl _)
      | (with_reducible exact LeO.none _)
      | (with_reducible refine LeO.ite ?_ ?_)
      | (with_reducible refine LeO.bind ?_ (fun _ => ?_))
      | exact ih0 _ _ _ _ _ _
      | exact ih1 _ _ _ _ _ _ _ _ _ _ _
      | exact ih2 _ _ _ _ _ _ _ _ _ _ _
      | exact ih3 _ _ _ _ _ _ _ _ _ _ _ _
      | exact ih4 _ _ _ _ _ _
      | exact journal_Append.mono _ _ _ _ _ _
      | exact journal_Texts.mono _ _ _ _
      | exact weirkeeperlaw08_awake.mono _
      | exact weirkeeperref01_Same.mono _ _ _
      | exact LeO.none _
      | refine LeO.ite ?_ ?_
      | refine LeO.bind ?_ (fun _ => ?_)
    · intro y0 y1 y2 y3 y4 y5 y6 y7 y8 y9 y10
      unfold weirkeeperlaw08_JournalCrashes.l1
      repeat' first
      | (with_reducible exact ih0 _ _ _ _ _ _)
      | (with_reducible exact ih1 _ _ _ _ _ _ _ _ _ _ _)
      | (with_reducible exact ih2 _ _ _ _ _ _ _ _ _ _ _)
      | (with_reducible exact ih3 _ _ _ _ _ _ _ _ _ _ _ _)
      | (with_reducible exact ih4 _ _ _ _ _ _)
      | (with_reducible exact journal_Append.mono _ _ _ _ _ _)
      | (with_reducible exact journal_Texts.mono _ _ _ _)
      | (with_reducible exact weirkeeperlaw08_awake.mono _)
      | (with_reducible exact weirkeeperref01_Same.mono _ _ _)
      | (with_reducible exact LeO.refl _)
      | (with_reducible exact LeO.none _)
      | (with_reducible refine LeO.ite ?_ ?_)
      | (with_reducible refine LeO.bind ?_ (fun _ => ?_))
      | exact ih0 _ _ _ _ _ _
      | exact ih1 _ _ _ _ _ _ _ _ _ _ _
      | exact ih2 _ _ _ _ _ _ _ _ _ _ _
      | exact ih3 _ _ _ _ _ _ _ _ _ _ _ _
      | exact ih4 _ _ _ _ _ _
      | exact journal_Append.mono _ _ _ _ _ _
      | exact journal_Texts.mono _ _ _ _
      | exact weirkeeperlaw08_awake.mono _
      | exact weirkeeperref01_Same.mono _ _ _
      | exact LeO.none _
      | refine LeO.ite ?_ ?_
      | refine LeO.bind ?_ (fun _ => ?_)
    · intro y0 y1 y2 y3 y4 y5 y6 y7 y8 y9 y10 y11
      unfold weirkeeperlaw08_JournalCrashes.j3
      repeat' first
      | (with_reducible exact ih0 _ _ _ _ _ _)
      | (with_reducible exact ih1 _ _ _ _ _ _ _ _ _ _ _)
      | (with_reducible exact ih2 _ _ _ _ _ _ _ _ _ _ _)
      | (with_reducible exact ih3 _ _ _ _ _ _ _ _ _ _ _ _)
      | (with_reducible exact ih4 _ _ _ _ _ _)
      | (with_reducible exact journal_Append.mono _ _ _ _ _ _)
      | (with_reducible exact journal_Texts.mono _ _ _ _)
      | (with_reducible exact weirkeeperlaw08_awake.mono _)
      | (with_reducible exact weirkeeperref01_Same.mono _ _ _)
      | (with_reducible exact LeO.refl _)
      | (with_reducible exact LeO.none _)
      | (with_reducible refine LeO.ite ?_ ?_)
      | (with_reducible refine LeO.bind ?_ (fun _ => ?_))
      | exact ih0 _ _ _ _ _ _
      | exact ih1 _ _ _ _ _ _ _ _ _ _ _
      | exact ih2 _ _ _ _ _ _ _ _ _ _ _
      | exact ih3 _ _ _ _ _ _ _ _ _ _ _ _
      | exact ih4 _ _ _ _ _ _
      | exact journal_Append.mono _ _ _ _ _ _
      | exact journal_Texts.mono _ _ _ _
      | exact weirkeeperlaw08_awake.mono _
      | exact weirkeeperref01_Same.mono _ _ _
      | exact LeO.none _
      | refine LeO.ite ?_ ?_
      | refine LeO.bind ?_ (fun _ => ?_)
    · intro y0 y1 y2 y3 y4 y5
      unfold weirkeeperlaw08_JournalCrashes.j4
      repeat' first
      | (with_reducible exact ih0 _ _ _ _ _ _)
      | (with_reducible exact ih1 _ _ _ _ _ _ _ _ _ _ _)
      | (with_reducible exact ih2 _ _ _ _ _ _ _ _ _ _ _)
      | (with_reducible exact ih3 _ _ _ _ _ _ _ _ _ _ _ _)
      | (with_reducible exact ih4 _ _ _ _ _ _)
      | (with_reducible exact journal_Append.mono _ _ _ _ _ _)
      | (with_reducible exact journal_Texts.mono _ _ _ _)
      | (with_reducible exact weirkeeperlaw08_awake.mono _)
      | (with_reducible exact weirkeeperref01_Same.mono _ _ _)
      | (with_reducible exact LeO.refl _)
      | (with_reducible exact LeO.none _)
      | (with_reducible refine LeO.ite ?_ ?_)
      | (with_reducible refine LeO.bind ?_ (fun _ => ?_))
      | exact ih0 _ _ _ _ _ _
      | exact ih1 _ _ _ _ _ _ _ _ _ _ _
      | exact ih2 _ _ _ _ _ _ _ _ _ _ _
      | exact ih3 _ _ _ _ _ _ _ _ _ _ _ _
      | exact ih4 _ _ _ _ _ _
      | exact journal_Append.mono _ _ _ _ _ _
      | exact journal_Texts.mono _ _ _ _
      | exact weirkeeperlaw08_awake.mono _
      | exact weirkeeperref01_Same.mono _ _ _
      | exact LeO.none _
      | refine LeO.ite ?_ ?_
      | refine LeO.bind ?_ (fun _ => ?_)
theorem weirkeeperlaw08_JournalCrashes.mono : ∀ a0 a1 a2 a3 a4 k, LeO (weirkeeperlaw08_JournalCrashes.f k a0 a1 a2 a3 a4) (weirkeeperlaw08_JournalCrashes.f (k + 1) a0 a1 a2 a3 a4) := by
  intro a0 a1 a2 a3 a4 k
  obtain ⟨ih0, ih1, ih2, ih3, ih4⟩ := weirkeeperlaw08_JournalCrashes.mono_l k
  unfold weirkeeperlaw08_JournalCrashes.f
  repeat' first
      | (with_reducible exact ih0 _ _ _ _ _ _)
      | (with_reducible exact ih1 _ _ _ _ _ _ _ _ _ _ _)
      | (with_reducible exact ih2 _ _ _ _ _ _ _ _ _ _ _)
      | (with_reducible exact ih3 _ _ _ _ _ _ _ _ _ _ _ _)
      | (with_reducible exact ih4 _ _ _ _ _ _)
      | (with_reducible exact journal_Append.mono _ _ _ _ _ _)
      | (with_reducible exact journal_Texts.mono _ _ _ _)
      | (with_reducible exact weirkeeperlaw08_awake.mono _)
      | (with_reducible exact weirkeeperref01_Same.mono _ _ _)
      | (with_reducible exact LeO.refl _)
      | (with_reducible exact LeO.none _)
      | (with_reducible refine LeO.ite ?_ ?_)
      | (with_reducible refine LeO.bind ?_ (fun _ => ?_))
      | exact ih0 _ _ _ _ _ _
      | exact ih1 _ _ _ _ _ _ _ _ _ _ _
      | exact ih2 _ _ _ _ _ _ _ _ _ _ _
      | exact ih3 _ _ _ _ _ _ _ _ _ _ _ _
      | exact ih4 _ _ _ _ _ _
      | exact journal_Append.mono _ _ _ _ _ _
      | exact journal_Texts.mono _ _ _ _
      | exact weirkeeperlaw08_awake.mono _
      | exact weirkeeperref01_Same.mono _ _ _
      | exact LeO.none _
      | refine LeO.ite ?_ ?_
      | refine LeO.bind ?_ (fun _ => ?_)
set_option maxHeartbeats 8000000 in
set_option maxRecDepth 100000 in
theorem weirkeeperlaw08_JournalCrashes.calls (k : Nat) (a0 : Int) (A1 : Option Addr) (c1 : Nat) (l1 : List ByteArray) (A2 : Option Addr) (c2 : Nat) (l2 : List ByteArray) (A3 : Option Addr) (c3 : Nat) (l3 : List ByteArray) (A4 : Option Addr) (c4 : Nat) (l4 : List Bool) (w : World) (hr1 : Kd.C Kd.string w A1 l1.length l1) (hc1 : l1.length ≤ c1) (hr2 : Kd.C Kd.string w A2 l2.length l2) (hc2 : l2.length ≤ c2) (hr3 : Kd.C Kd.string w A3 l3.length l3) (hc3 : l3.length ≤ c3) (hr4 : Kd.C Kd.bool w A4 l4.length l4) (hc4 : l4.length ≤ c4) (h : weirkeeperlaw08_JournalCrashes.f k a0 l1 l2 l3 l4 = some true) :
    Calls Try.prog 14 #[.int .u32 a0, .slice A1 l1.length c1, .slice A2 l2.length c2, .slice A3 l3.length c3, .slice A4 l4.length c4] w fun e w' => e = .returned (.bool true) ∧ Below w.heap.size w w' := by
  have hu25 := Try.underlying25
  have HR1 := Aside0.mk hr1
  have HC1 := Aside0.mk hc1
  clear hr1 hc1
  have HR2 := Aside0.mk hr2
  have HC2 := Aside0.mk hc2
  clear hr2 hc2
  have HR3 := Aside0.mk hr3
  have HC3 := Aside0.mk hc3
  clear hr3 hc3
  have HR4 := Aside0.mk hr4
  have HC4 := Aside0.mk hc4
  clear hr4 hc4
  have HB := Aside0.mk (Below.refl w.heap.size w)
  have H : (if (l1.length : Int) > 10 then (weirkeeperlaw08_JournalCrashes.j0 k a0 l1 l2 l3 l4 true) else (if (l2.length : Int) > 10 then (weirkeeperlaw08_JournalCrashes.j0 k a0 l1 l2 l3 l4 true) else (if (l3.length : Int) > 10 then (weirkeeperlaw08_JournalCrashes.j0 k a0 l1 l2 l3 l4 true) else (weirkeeperlaw08_JournalCrashes.j0 k a0 l1 l2 l3 l4 (decide ((l4.length : Int) > 100)))))) = some true := h
  clear h
  have HC6 := Aside0.mk H
  clear H
  go_enter Try.func14, Try.ntmps14
  go_upto_region 1 with (fail)
  go_cut [43] (fun v43 wc => ∃ (kq : Nat) (x43_5 : Bool), v43 = .bool x43_5 ∧ Aside0 (weirkeeperlaw08_JournalCrashes.j0 kq a0 l1 l2 l3 l4 x43_5 = some true) ∧ Aside0 (kq ≤ k) ∧ Aside0 (Below w.heap.size w wc))
  case first =>
    have H := HC6.out
    clear HC6
    by_cases c7 : (l1.length : Int) > 10
    · rw [if_pos c7] at H
      have c7b0 : decide (10 < (l1.length : Int)) = true := decide_eq_true c7
      have c7b1 : decide (10 < l1.length) = true := decide_eq_true (by omega)
      clear c7
      (first | rw [c7b0] | (simp only [i64_w, i32_w]; rw [c7b0]) | skip)
      have H' := Aside0.mk H
      clear H
      go_wp2
      go_meet
      case rel => exact ⟨_, (true), (by first | rfl | (simp; done) | (simp [*]; done)), H', ⟨by first | omega | exact Nat.le_refl _⟩, ⟨by repeat (first | (with_reducible first | exact HB.out | apply below_alloc | apply pw_below_drewN | apply below_drew1) | exact HB.out)⟩⟩
    · rw [if_neg c7] at H
      have c7b0 : decide (10 < (l1.length : Int)) = false := decide_eq_false c7
      have c7b1 : decide (10 < l1.length) = false := decide_eq_false (by omega)
      clear c7
      (first | rw [c7b0] | (simp only [i64_w, i32_w]; rw [c7b0]) | skip)
      by_cases c8 : (l2.length : Int) > 10
      · rw [if_pos c8] at H
        have c8b0 : decide (10 < (l2.length : Int)) = true := decide_eq_true c8
        have c8b1 : decide (10 < l2.length) = true := decide_eq_true (by omega)
        clear c8
        have H' := Aside0.mk H
        clear H
        go_wp2
        go_meet
        case rel => exact ⟨_, (true), (by first | rfl | (simp; done) | (simp [*]; done)), H', ⟨by first | omega | exact Nat.le_refl _⟩, ⟨by repeat (first | (with_reducible first | exact HB.out | apply below_alloc | apply pw_below_drewN | apply below_drew1) | exact HB.out)⟩⟩
      · rw [if_neg c8] at H
        have c8b0 : decide (10 < (l2.length : Int)) = false := decide_eq_false c8
        have c8b1 : decide (10 < l2.length) = false := decide_eq_false (by omega)
        clear c8
        by_cases c9 : (l3.length : Int) > 10
        · rw [if_pos c9] at H
          have c9b0 : decide (10 < (l3.length : Int)) = true := decide_eq_true c9
          have c9b1 : decide (10 < l3.length) = true := decide_eq_true (by omega)
          clear c9
          have H' := Aside0.mk H
          clear H
          go_wp2
          go_meet
          case rel => exact ⟨_, (true), (by first | rfl | (simp; done) | (simp [*]; done)), H', ⟨by first | omega | exact Nat.le_refl _⟩, ⟨by repeat (first | (with_reducible first | exact HB.out | apply below_alloc | apply pw_below_drewN | apply below_drew1) | exact HB.out)⟩⟩
        · rw [if_neg c9] at H
          have c9b0 : decide (10 < (l3.length : Int)) = false := decide_eq_false c9
          have c9b1 : decide (10 < l3.length) = false := decide_eq_false (by omega)
          clear c9
          have H' := Aside0.mk H
          clear H
          go_wp2
          go_meet
          case rel => exact ⟨_, (decide ((l4.length : Int) > 100)), (by first | rfl | (simp; done) | (simp [*]; done)), H', ⟨by first | omega | exact Nat.le_refl _⟩, ⟨by repeat (first | (with_reducible first | exact HB.out | apply below_alloc | apply pw_below_drewN | apply below_drew1) | exact HB.out)⟩⟩
  case rest =>
    clear HC6
    try clear c1
    try clear c2
    try clear p2
    try clear c3
    try clear c4
    try clear c7
    try clear c7b0
    try clear c7b1
    try clear c8
    try clear c8b0
    try clear c8b1
    try clear c9
    try clear c9b0
    try clear c9b1
    obtain ⟨kq, x43_5, rfl, HA, HJ5, HB⟩ := hcut
    cases kq with
    | zero => exact absurd HA.out (by simp [weirkeeperlaw08_JournalCrashes.j0])
    | succ kj5 =>
      have H := HA.out
      clear HA
      simp only [weirkeeperlaw08_JournalCrashes.j0] at H
      by_cases c10 : x43_5 = true
      · subst c10
        have H1 : ((weirkeeperlaw08_awake.f kj5).bind fun t592 => (some t592)) = some true := by rw [if_pos rfl] at H; exact H
        clear H
        have H := H1
        clear H1
        replace H := Option.bind_eq_some_iff.mp H
        obtain ⟨t592, A110, H⟩ := H
        replace H : (some t592) = some true := H
        have A11 := Aside0.mk A110
        clear A110
        (have H9_ := Option.some.inj H; first | subst H9_ | (have h9_ := Aside0.mk H9_; clear H9_))
        go_wp2_with (first | ((with_reducible refine gate_callee (f := 27) rfl ?_); refine goesL_ (some 44) rfl rfl Try.func27 (by kernel_rfl) rfl #[] rfl (by (try simp only [List.map_toArray, List.map_cons, List.map_nil]); first | done | rfl | (simp only [List.length_drop, List.length_take]; rfl)) ?_; (with_reducible refine (weirkeeperlaw08_awake.calls kj5 _ A11.out).mono ?_); rintro e w12 ⟨rfl, hb⟩; refine ⟨_, rfl, ?_⟩; have n0_ := Aside0.mk (below_step (by repeat (first | (with_reducible first | exact HB.out | apply below_alloc | apply pw_below_drewN | apply below_drew1) | exact HB.out)) hb); clear HB; have HB := n0_; clear n0_; (try clear hb); (try clear hb2); (try clear hk); (try clear hi)))
        go_ret
        exact ⟨by first | rfl | (simp only [h9_.out]; done) | (have h8_ := h9_.out; simp [h8_]; done) | (simp [errW_none, errW_some] <;> rfl) | (simp [*, errW_none, errW_some] <;> rfl), by repeat (first | (with_reducible first | exact HB.out | apply below_alloc | apply pw_below_drewN | apply below_drew1) | exact HB.out)⟩
      · replace c10 := Bool.eq_false_iff.mpr c10
        subst c10
        have H1 : ((disk_New.f 130).bind fun bt593 => ((some (([] : List ByteArray) : List ByteArray)).bind fun y601 => (if y601.length + l1.length < 8796093022208 then ((some (y601 ++ l1 : List ByteArray)).bind fun y604 => (if y604.length + l2.length < 8796093022208 then ((some (y604 ++ l2 : List ByteArray)).bind fun y607 => (if y607.length + l3.length < 8796093022208 then ((some (y607 ++ l3 : List ByteArray)).bind fun y610 => (weirkeeperlaw08_JournalCrashes.l0 kj5 l1 l2 l3 l4 (wrap64 (2 + (wrap64 (Int.tmod a0 2147483645)))) 0 y610 (y610.length : Int) 0 bt593.1 bt593.2.1)) else (none))) else (none))) else (none)))) = some true := by rw [if_neg (show ¬ (false = true) by decide)] at H; exact H
        clear H
        have H := H1
        clear H1
        replace H := Option.bind_eq_some_iff.mp H
        obtain ⟨⟨t593, t596, t599⟩, A130, H⟩ := H
        replace H : ((some (([] : List ByteArray) : List ByteArray)).bind fun y601 => (if y601.length + l1.length < 8796093022208 then ((some (y601 ++ l1 : List ByteArray)).bind fun y604 => (if y604.length + l2.length < 8796093022208 then ((some (y604 ++ l2 : List ByteArray)).bind fun y607 => (if y607.length + l3.length < 8796093022208 then ((some (y607 ++ l3 : List ByteArray)).bind fun y610 => (weirkeeperlaw08_JournalCrashes.l0 kj5 l1 l2 l3 l4 (wrap64 (2 + (wrap64 (Int.tmod a0 2147483645)))) 0 y610 (y610.length : Int) 0 t593 t596)) else (none))) else (none))) else (none))) = some true := H
        have A13 := Aside0.mk A130
        clear A130
        obtain ⟨y601, hy601⟩ : ∃ y_ : List ByteArray, y_ = (([] : List ByteArray)) := ⟨_, rfl⟩
        replace H : (if y601.length + l1.length < 8796093022208 then ((some (y601 ++ l1 : List ByteArray)).bind fun y604 => (if y604.length + l2.length < 8796093022208 then ((some (y604 ++ l2 : List ByteArray)).bind fun y607 => (if y607.length + l3.length < 8796093022208 then ((some (y607 ++ l3 : List ByteArray)).bind fun y610 => (weirkeeperlaw08_JournalCrashes.l0 kj5 l1 l2 l3 l4 (wrap64 (2 + (wrap64 (Int.tmod a0 2147483645)))) 0 y610 (y610.length : Int) 0 t593 t596)) else (none))) else (none))) else (none)) = some true := by first | (rw [hy601]; with_reducible exact H) | (have H2_ := (Option.bind_some _ _).symm.trans H; rw [hy601]; with_reducible exact H2_) | (have H2_ := (Option.bind_some _ _).symm.trans H; with_reducible exact H2_) | with_reducible exact H | (rw [hy601]; exact H) | exact H
        have Ny601 := Aside0.mk hy601
        clear hy601
        by_cases c14 : y601.length + l1.length < 8796093022208
        · rw [if_pos c14] at H
          have LMc14 := Aside0.mk c14
          clear c14
          obtain ⟨y604, hy604⟩ : ∃ y_ : List ByteArray, y_ = (y601 ++ l1) := ⟨_, rfl⟩
          replace H : (if y604.length + l2.length < 8796093022208 then ((some (y604 ++ l2 : List ByteArray)).bind fun y607 => (if y607.length + l3.length < 8796093022208 then ((some (y607 ++ l3 : List ByteArray)).bind fun y610 => (weirkeeperlaw08_JournalCrashes.l0 kj5 l1 l2 l3 l4 (wrap64 (2 + (wrap64 (Int.tmod a0 2147483645)))) 0 y610 (y610.length : Int) 0 t593 t596)) else (none))) else (none)) = some true := by first | (rw [hy604]; with_reducible exact H) | (have H2_ := (Option.bind_some _ _).symm.trans H; rw [hy604]; with_reducible exact H2_) | (have H2_ := (Option.bind_some _ _).symm.trans H; with_reducible exact H2_) | with_reducible exact H | (rw [hy604]; exact H) | exact H
          have Ny604 := Aside0.mk hy604
          clear hy604
          by_cases c15 : y604.length + l2.length < 8796093022208
          · rw [if_pos c15] at H
            have LMc15 := Aside0.mk c15
            clear c15
            obtain ⟨y607, hy607⟩ : ∃ y_ : List ByteArray, y_ = (y604 ++ l2) := ⟨_, rfl⟩
            replace H : (if y607.length + l3.length < 8796093022208 then ((some (y607 ++ l3 : List ByteArray)).bind fun y610 => (weirkeeperlaw08_JournalCrashes.l0 kj5 l1 l2 l3 l4 (wrap64 (2 + (wrap64 (Int.tmod a0 2147483645)))) 0 y610 (y610.length : Int) 0 t593 t596)) else (none)) = some true := by first | (rw [hy607]; with_reducible exact H) | (have H2_ := (Option.bind_some _ _).symm.trans H; rw [hy607]; with_reducible exact H2_) | (have H2_ := (Option.bind_some _ _).symm.trans H; with_reducible exact H2_) | with_reducible exact H | (rw [hy607]; exact H) | exact H
            have Ny607 := Aside0.mk hy607
            clear hy607
            by_cases c16 : y607.length + l3.length < 8796093022208
            · rw [if_pos c16] at H
              have LMc16 := Aside0.mk c16
              clear c16
              obtain ⟨y610, hy610⟩ : ∃ y_ : List ByteArray, y_ = (y607 ++ l3) := ⟨_, rfl⟩
              replace H : (weirkeeperlaw08_JournalCrashes.l0 kj5 l1 l2 l3 l4 (wrap64 (2 + (wrap64 (Int.tmod a0 2147483645)))) 0 y610 (y610.length : Int) 0 t593 t596) = some true := by first | (rw [hy610]; with_reducible exact H) | (have H2_ := (Option.bind_some _ _).symm.trans H; rw [hy610]; with_reducible exact H2_) | (have H2_ := (Option.bind_some _ _).symm.trans H; with_reducible exact H2_) | with_reducible exact H | (rw [hy610]; exact H) | exact H
              have Ny610 := Aside0.mk hy610
              clear hy610
              have H' := Aside0.mk H
              clear H
              go_wp2_with (first | ((with_reducible refine gate_callee (f := 24) rfl ?_); refine goesL_ (some 50) rfl rfl Try.func24 (by kernel_rfl) rfl #[.int .i64 130] rfl (by (try simp only [List.map_toArray, List.map_cons, List.map_nil]); first | done | rfl | (simp only [List.length_drop, List.length_take]; rfl)) ?_; (with_reducible refine (disk_New.calls 130 t593 t596 t599 _ A13.out).mono ?_); rintro e w17 ⟨v594, v597, rfl, ho0, ho1, hb⟩; refine ⟨_, rfl, ?_⟩; have n0_ := Aside0.mk (Kd.R_lower ho0 (below_size (by repeat (first | (with_reducible first | exact HB.out | apply below_alloc | apply pw_below_drewN | apply below_drew1) | exact HB.out)))); have n1_ := Aside0.mk (Kd.R_lower ho1 (below_size (by repeat (first | (with_reducible first | exact HB.out | apply below_alloc | apply pw_below_drewN | apply below_drew1) | exact HB.out)))); have n2_ := Aside0.mk (below_step (by repeat (first | (with_reducible first | exact HB.out | apply below_alloc | apply pw_below_drewN | apply below_drew1) | exact HB.out)) hb); clear HB; have HO595 := n0_; have HO598 := n1_; have HB := n2_; clear n0_ n1_ n2_; (try clear hb); (try clear hb2); (try clear hk); (try clear hi); (try clear ho0); (try clear ho1)) | ((with_reducible refine gate_dst (N := 12) rfl ?_); (try (refine gate_guard (by rfl) ?_; dsimp only)); refine box_event ?hg (N := 12) ?hd (cs := #[.slice none 0 0, .slice none 0 0]) (t := 25) ?hr ?_; (case hd => rfl); (case hg => rfl); (case hr => first | (go_simp; done) | (go_simp; rfl)); intro gb600 hg w18 hbox hb; have n0_ := Aside0.mk (Kd.R_below (by (with_reducible repeat (first | apply Kd.R_alloc | apply Kd.R_drewN | apply Kd.R_drew)); exact HO595.out) hb); have n1_ := Aside0.mk (Kd.R_below (by (with_reducible repeat (first | apply Kd.R_alloc | apply Kd.R_drewN | apply Kd.R_drew)); exact HO598.out) hb); have n2_ := Aside0.mk (below_step (by repeat (first | (with_reducible first | exact HB.out | apply below_alloc | apply pw_below_drewN | apply below_drew1) | exact HB.out)) hb); have n3_ := Aside0.mk (hbox); have n4_ := Aside0.mk ((by rw [hg]; exact (below_size (by repeat (first | (with_reducible first | exact HB.out | apply below_alloc | apply pw_below_drewN | apply below_drew1) | exact HB.out))) : w.heap.size ≤ gb600)); have n5_ := Aside0.mk ((by rw [hg]; exact (below_size (by repeat (first | (with_reducible first | exact HB.out | apply below_alloc | apply pw_below_drewN | apply below_drew1) | exact HB.out))) : w.heap.size ≤ gb600)); clear HO595; clear HO598; clear HB; have HO595 := n0_; have HO598 := n1_; have HB := n2_; have BK600 := n3_; have GW600 := n4_; have GE600 := n5_; clear n0_ n1_ n2_ n3_ n4_ n5_; clear hb hbox hg; obtain ⟨Ao19, co19, eo19⟩ := Kd.R_slice HO595.out; subst eo19; have hcz20_0 : w18.cell? ⟨gb600, 0, none⟩ = some (.slice none 0 0) := (blk_cell BK600.out 0).trans rfl; have hcz20_1 : w18.cell? ⟨gb600, 1, none⟩ = some (.slice none 0 0) := (blk_cell BK600.out 1).trans rfl; have hfz20_0 := blk_frozen BK600.out 0; have hfz20_1 := blk_frozen BK600.out 1; obtain ⟨Ao21, co21, eo21⟩ := Kd.R_slice HO598.out; subst eo21) | ((with_reducible refine gate_dst (N := 53) rfl ?_); (try (refine gate_guard (by rfl) ?_; dsimp only)); refine Kd.R_lit Kd.string _ 9 ?hg (N := 53) ?hd (xs := ([] : List ByteArray)) (inner := []) (ok := fun _ => True) (okp := fun _ => True) ?hr ?hp (fun _ hk => hk) trivial (Below.refl _ _) (Nat.le_refl _) (by simp) ?_; (case hd => rfl); (case hg => rfl); (case hr => first | (go_simp; done) | (go_simp; rfl)); (case hp => exact (Reps.none _ _)); intro v602 w22 ho23 hb hg_ hnew_; clear hg_ hnew_; (first | rw [← Ny601.out] at ho23 | (simp only [Int.reduceToNat] at ho23; rw [← Ny601.out] at ho23)); have n0_ := Aside0.mk (Kd.R_elder' (by (with_reducible repeat (first | apply Kd.R_alloc | apply Kd.R_drewN | apply Kd.R_drew)); exact (Kd.R_mono (Kd.R_far (p := ⟨gb600, 1, none⟩) (Kd.R_far (p := ⟨gb600, 0, none⟩) (Kd.R_types HO595.out BK600.out (by decide)) (fun _ hk => hk.2) (.slice Ao19 t593.length co19)) (fun _ hk => hk.2) (.slice Ao21 t596.length co21)) (fun _ h_ => h_.1))) (Kd.R_base ho23) hb); have n1_ := Aside0.mk (Kd.R_below (by (with_reducible repeat (first | apply Kd.R_alloc | apply Kd.R_drewN | apply Kd.R_drew)); exact (Kd.R_mono (Kd.R_far (p := ⟨gb600, 1, none⟩) (Kd.R_far (p := ⟨gb600, 0, none⟩) (Kd.R_types HO598.out BK600.out (by decide)) (fun _ hk => hk.2) (.slice Ao19 t593.length co19)) (fun _ hk => hk.2) (.slice Ao21 t596.length co21)) (fun _ h_ => h_.1))) hb); have n2_ := Aside0.mk (Kd.R_lower (Kd.R_new' ho23 (Kd.R_lt (by (with_reducible repeat (first | apply Kd.R_alloc | apply Kd.R_drewN | apply Kd.R_drew)); exact (Kd.R_mono (Kd.R_far (p := ⟨gb600, 1, none⟩) (Kd.R_far (p := ⟨gb600, 0, none⟩) (Kd.R_types HO595.out BK600.out (by decide)) (fun _ hk => hk.2) (.slice Ao19 t593.length co19)) (fun _ hk => hk.2) (.slice Ao21 t596.length co21)) (fun _ h_ => h_.1))))) (below_size (by repeat (first | (with_reducible first | exact HB.out | apply below_alloc | apply pw_below_drewN | apply below_drew1 | refine below_set ?_ GE600.out) | exact HB.out)))); have n3_ := Aside0.mk (blk_below (g := gb600) (o := .cells #[.slice Ao19 t593.length co19, .slice Ao21 t596.length co21] 25 (0, 0)) (by (with_reducible repeat (first | refine blk_drewN ?_ _ | refine blk_drew ?_ | refine blk_alloc ?_ _)); refine blk_put (cs := #[.slice Ao19 t593.length co19, .slice none 0 0]) ?_ 1 _ rfl; (with_reducible repeat (first | refine blk_drewN ?_ _ | refine blk_drew ?_ | refine blk_alloc ?_ _)); refine blk_put (cs := #[.slice none 0 0, .slice none 0 0]) ?_ 0 _ rfl; (with_reducible repeat (first | refine blk_drewN ?_ _ | refine blk_drew ?_ | refine blk_alloc ?_ _)); exact BK600.out) hb); have n4_ := Aside0.mk (below_step (by repeat (first | (with_reducible first | exact HB.out | apply below_alloc | apply pw_below_drewN | apply below_drew1 | refine below_set ?_ GE600.out) | exact HB.out)) hb); clear HO595; clear HO598; clear BK600; clear HB; have HO595 := n0_; have HO598 := n1_; have HO603 := n2_; have BK600 := n3_; have HB := n4_; clear n0_ n1_ n2_ n3_ n4_; clear hb ho23) | ((with_reducible refine gate_builtin (b := .append) (xs := #[.tmp 53, .tmp 54]) rfl ?_); (try (refine gate_guard (by rfl) ?_; dsimp only)); at_builtin; refine Kd.R_append_rows Kd.string (w0 := w) w.heap.size rfl (.tmp 53) (.tmp 54) 22 9 (.string ⟨#[]⟩) 16 rfl Try.underlying22 info9 rfl (by decide) (by omega) v602 y601 l1 _ _ _ (fun k_ => some k_ ≠ (.slice Ao19 t593.length co19 : Value).ownBlock) (fun _ => False) rfl rfl ?aO ?aR (fun _ _ h => h) (fun _ h => h.elim) ?aF ?aB ?aS ?aL ?_; (case aR => repeat (first | exact (Kd.C_below HR1.out HB.out) | (with_reducible refine Kd.C_alloc ?_ _) | (with_reducible refine Kd.C_drewN ?_ _) | (with_reducible refine Kd.C_drew ?_))); (case aB => exact (by repeat (first | (with_reducible first | exact HB.out | apply below_alloc | apply pw_below_drewN | apply below_drew1 | refine below_set ?_ GE600.out) | exact HB.out))); (case aF => exact (fun k_ hk => Kd.fresh' (Kd.R_lt (by (with_reducible repeat (first | apply Kd.R_alloc | apply Kd.R_drewN | apply Kd.R_drew)); exact HO595.out)) k_ hk)); (case aO => exact (by (with_reducible repeat (first | apply Kd.R_alloc | apply Kd.R_drewN | apply Kd.R_drew)); exact Kd.R_mono HO603.out (fun _ hk => hk.2))); (case aS => exact (below_size (by repeat (first | (with_reducible first | exact HB.out | apply below_alloc | apply pw_below_drewN | apply below_drew1 | refine below_set ?_ GE600.out) | exact HB.out)))); (case aL => have := LMc14.out; omega); intro v605 w24 ho hb hg hat; rw [← Ny604.out] at ho; have n0_ := Aside0.mk (Kd.R_after (ok := (fun _ => True)) (by (with_reducible repeat (first | apply Kd.R_alloc | apply Kd.R_drewN | apply Kd.R_drew)); exact HO595.out) hg hat); have n1_ := Aside0.mk (Kd.R_over' (by (with_reducible repeat (first | apply Kd.R_alloc | apply Kd.R_drewN | apply Kd.R_drew)); exact HO598.out) (Kd.R_typed (by (with_reducible repeat (first | apply Kd.R_alloc | apply Kd.R_drewN | apply Kd.R_drew)); exact HO603.out)) (by decide) hg); have n2_ := Aside0.mk (blk_grown (g := gb600) (o := .cells #[.slice Ao19 t593.length co19, .slice Ao21 t596.length co21] 25 (0, 0)) (by (with_reducible repeat (first | refine blk_drewN ?_ _ | refine blk_drew ?_ | refine blk_alloc ?_ _)); exact BK600.out) hg (Kd.R_ne HO603.out BK600.out (by decide))); have n3_ := Aside0.mk (hb); have n4_ := Aside0.mk (ho); clear HO595; clear HO598; clear BK600; clear HB; clear HO603; have HO595 := n0_; have HO598 := n1_; have BK600 := n2_; have HB := n3_; have HO606 := n4_; clear n0_ n1_ n2_ n3_ n4_; clear ho hb hg hat) | ((with_reducible refine gate_builtin (b := .append) (xs := #[.tmp 55, .tmp 56]) rfl ?_); (try (refine gate_guard (by rfl) ?_; dsimp only)); at_builtin; refine Kd.R_append_rows Kd.string (w0 := w) w.heap.size rfl (.tmp 55) (.tmp 56) 22 9 (.string ⟨#[]⟩) 16 rfl Try.underlying22 info9 rfl (by decide) (by omega) v605 y604 l2 _ _ _ (fun k_ => some k_ ≠ (.slice Ao19 t593.length co19 : Value).ownBlock) (fun _ => False) rfl rfl ?aO ?aR (fun _ _ h => h) (fun _ h => h.elim) ?aF ?aB ?aS ?aL ?_; (case aR => repeat (first | exact (Kd.C_below HR2.out HB.out) | (with_reducible refine Kd.C_alloc ?_ _) | (with_reducible refine Kd.C_drewN ?_ _) | (with_reducible refine Kd.C_drew ?_))); (case aB => exact (by repeat (first | (with_reducible first | exact HB.out | apply below_alloc | apply pw_below_drewN | apply below_drew1 | refine below_set ?_ GE600.out) | exact HB.out))); (case aF => exact (fun k_ hk => Kd.fresh' (Kd.R_lt (by (with_reducible repeat (first | apply Kd.R_alloc | apply Kd.R_drewN | apply Kd.R_drew)); exact HO595.out)) k_ hk)); (case aO => exact (by (with_reducible repeat (first | apply Kd.R_alloc | apply Kd.R_drewN | apply Kd.R_drew)); exact HO606.out)); (case aS => exact (below_size (by repeat (first | (with_reducible first | exact HB.out | apply below_alloc | apply pw_below_drewN | apply below_drew1 | refine below_set ?_ GE600.out) | exact HB.out)))); (case aL => have := LMc15.out; omega); intro v608 w25 ho hb hg hat; rw [← Ny607.out] at ho; have n0_ := Aside0.mk (Kd.R_after (ok := (fun _ => True)) (by (with_reducible repeat (first | apply Kd.R_alloc | apply Kd.R_drewN | apply Kd.R_drew)); exact HO595.out) hg hat); have n1_ := Aside0.mk (Kd.R_over' (by (with_reducible repeat (first | apply Kd.R_alloc | apply Kd.R_drewN | apply Kd.R_drew)); exact HO598.out) (Kd.R_typed (by (with_reducible repeat (first | apply Kd.R_alloc | apply Kd.R_drewN | apply Kd.R_drew)); exact HO606.out)) (by decide) hg); have n2_ := Aside0.mk (blk_grown (g := gb600) (o := .cells #[.slice Ao19 t593.length co19, .slice Ao21 t596.length co21] 25 (0, 0)) (by (with_reducible repeat (first | refine blk_drewN ?_ _ | refine blk_drew ?_ | refine blk_alloc ?_ _)); exact BK600.out) hg (Kd.R_ne HO606.out BK600.out (by decide))); have n3_ := Aside0.mk (hb); have n4_ := Aside0.mk (ho); clear HO595; clear HO598; clear BK600; clear HB; clear HO606; have HO595 := n0_; have HO598 := n1_; have BK600 := n2_; have HB := n3_; have HO609 := n4_; clear n0_ n1_ n2_ n3_ n4_; clear ho hb hg hat) | ((with_reducible refine gate_builtin (b := .append) (xs := #[.tmp 57, .tmp 58]) rfl ?_); (try (refine gate_guard (by rfl) ?_; dsimp only)); at_builtin; refine Kd.R_append_rows Kd.string (w0 := w) w.heap.size rfl (.tmp 57) (.tmp 58) 22 9 (.string ⟨#[]⟩) 16 rfl Try.underlying22 info9 rfl (by decide) (by omega) v608 y607 l3 _ _ _ (fun k_ => some k_ ≠ (.slice Ao19 t593.length co19 : Value).ownBlock) (fun _ => False) rfl rfl ?aO ?aR (fun _ _ h => h) (fun _ h => h.elim) ?aF ?aB ?aS ?aL ?_; (case aR => repeat (first | exact (Kd.C_below HR3.out HB.out) | (with_reducible refine Kd.C_alloc ?_ _) | (with_reducible refine Kd.C_drewN ?_ _) | (with_reducible refine Kd.C_drew ?_))); (case aB => exact (by repeat (first | (with_reducible first | exact HB.out | apply below_alloc | apply pw_below_drewN | apply below_drew1 | refine below_set ?_ GE600.out) | exact HB.out))); (case aF => exact (fun k_ hk => Kd.fresh' (Kd.R_lt (by (with_reducible repeat (first | apply Kd.R_alloc | apply Kd.R_drewN | apply Kd.R_drew)); exact HO595.out)) k_ hk)); (case aO => exact (by (with_reducible repeat (first | apply Kd.R_alloc | apply Kd.R_drewN | apply Kd.R_drew)); exact HO609.out)); (case aS => exact (below_size (by repeat (first | (with_reducible first | exact HB.out | apply below_alloc | apply pw_below_drewN | apply below_drew1 | refine below_set ?_ GE600.out) | exact HB.out)))); (case aL => have := LMc16.out; omega); intro v611 w26 ho hb hg hat; rw [← Ny610.out] at ho; have n0_ := Aside0.mk (Kd.R_after (ok := (fun _ => True)) (by (with_reducible repeat (first | apply Kd.R_alloc | apply Kd.R_drewN | apply Kd.R_drew)); exact HO595.out) hg hat); have n1_ := Aside0.mk (Kd.R_over' (by (with_reducible repeat (first | apply Kd.R_alloc | apply Kd.R_drewN | apply Kd.R_drew)); exact HO598.out) (Kd.R_typed (by (with_reducible repeat (first | apply Kd.R_alloc | apply Kd.R_drewN | apply Kd.R_drew)); exact HO609.out)) (by decide) hg); have n2_ := Aside0.mk (blk_grown (g := gb600) (o := .cells #[.slice Ao19 t593.length co19, .slice Ao21 t596.length co21] 25 (0, 0)) (by (with_reducible repeat (first | refine blk_drewN ?_ _ | refine blk_drew ?_ | refine blk_alloc ?_ _)); exact BK600.out) hg (Kd.R_ne HO609.out BK600.out (by decide))); have n3_ := Aside0.mk (hb); have n4_ := Aside0.mk (ho); clear HO595; clear HO598; clear BK600; clear HB; clear HO609; have HO595 := n0_; have HO598 := n1_; have BK600 := n2_; have HB := n3_; have HO612 := n4_; clear n0_ n1_ n2_ n3_ n4_; clear ho hb hg hat; obtain ⟨Ao27, co27, eo27⟩ := Kd.R_slice HO612.out; subst eo27))
              go_loopg [61] kj5 (fun kq v61 w' => ∃ (x61_2 : Int), v61 = .int .i64 x61_2 ∧ Aside0 (weirkeeperlaw08_JournalCrashes.l0 kq l1 l2 l3 l4 (wrap64 (2 + (wrap64 (Int.tmod a0 2147483645)))) 0 y610 (y610.length : Int) x61_2 t593 t596 = some true) ∧ Aside0 (kq ≤ kj5) ∧ Aside0 (Kd.R Kd.string 9 w' w.heap.size (fun k_ => some k_ ≠ ((.slice Ao19 t593.length co19) : Value).ownBlock) (.slice Ao27 y610.length co27) y610) ∧ Aside0 (Kd.R Kd.string 9 w' w.heap.size (fun k_ => some k_ ≠ ((.slice Ao27 y610.length co27) : Value).ownBlock) (.slice Ao19 t593.length co19) t593) ∧ Aside0 (Kd.R k76 76 w' w.heap.size (fun _ => True) (.slice Ao21 t596.length co21) t596) ∧ Aside0 (w'.heap[gb600]? = some (.cells #[(.slice Ao19 t593.length co19), (.slice Ao21 t596.length co21)] 25 (0, 0))) ∧ Aside0 (Below w.heap.size w w'))
              case atStart => exact ⟨(0), (by first | rfl | (simp; done) | (simp [*]; done)), H', ⟨Nat.le_refl _⟩, ⟨by (with_reducible repeat (first | apply Kd.R_alloc | apply Kd.R_drewN | apply Kd.R_drew)); exact HO612.out⟩, ⟨by (with_reducible repeat (first | apply Kd.R_alloc | apply Kd.R_drewN | apply Kd.R_drew)); exact Kd.R_mono HO595.out (fun _ hk => hk.2)⟩, ⟨by (with_reducible repeat (first | apply Kd.R_alloc | apply Kd.R_drewN | apply Kd.R_drew)); exact HO598.out⟩, ⟨by (with_reducible repeat (first | refine blk_drewN ?_ _ | refine blk_drew ?_ | refine blk_alloc ?_ _)); exact BK600.out⟩, ⟨by repeat (first | (with_reducible first | exact HB.out | apply below_alloc | apply pw_below_drewN | apply below_drew1 | refine below_set ?_ GE600.out) | exact HB.out)⟩⟩
              case round =>
                clear H'
                try clear c1
                try clear c2
                try clear p2
                try clear c3
                try clear c4
                try clear p6
                try clear c7
                try clear c7b0
                try clear c7b1
                try clear c8
                try clear c8b0
                try clear c8b1
                try clear c9
                try clear c9b0
                try clear c9b1
                try clear c10
                try clear c14
                try clear c15
                try clear c16
                try clear c24
                try clear c27
                try clear hcz20_0
                try clear hcz20_1
                try clear hfz20_0
                try clear hfz20_1
                try clear p2
                obtain ⟨x61_2, rfl, HA, HK2, HO_59, HO_601000, HO_601001, BK600, HB⟩ := hrel
                cases gk with
                | zero => exact absurd HA.out (by simp [weirkeeperlaw08_JournalCrashes.l0])
                | succ k2 =>
                  have H := HA.out
                  clear HA
                  simp only [weirkeeperlaw08_JournalCrashes.l0] at H
                  by_cases c28 : x61_2 < (y610.length : Int)
                  · rw [if_pos c28] at H
                    have c28b0 : decide (x61_2 < (y610.length : Int)) = true := decide_eq_true c28
                    clear c28
                    by_cases c29 : 0 ≤ x61_2
                    · rw [if_pos c29] at H
                      have c29b0 : decide (0 ≤ x61_2) = true := decide_eq_true c29
                      clear c29
                      by_cases c30 : x61_2 < (y610.length : Int)
                      · rw [if_pos c30] at H
                        have c30b0 : decide (x61_2 < (y610.length : Int)) = true := decide_eq_true c30
                        clear c30
                        by_cases c31 : ((rdOf ByteArray.empty y610 x61_2).size : Int) > 300
                        · rw [if_pos c31] at H
                          have c31b0 : decide (300 < ((rdOf ByteArray.empty y610 x61_2).size : Int)) = true := decide_eq_true c31
                          have c31b1 : decide (300 < (rdOf ByteArray.empty y610 x61_2).size) = true := decide_eq_true (by omega)
                          clear c31
                          replace H := Option.bind_eq_some_iff.mp H
                          obtain ⟨t614, A320, H⟩ := H
                          replace H : (some t614) = some true := H
                          have A32 := Aside0.mk A320
                          clear A320
                          (have H9_ := Option.some.inj H; first | subst H9_ | (have h9_ := Aside0.mk H9_; clear H9_))
                          have p613 : 0 ≤ (x61_2 : Int) := of_decide_eq_true (by first | (with_reducible assumption) | assumption)
                          have q613 : x61_2 < (y610.length : Int) := of_decide_eq_true (by first | (with_reducible assumption) | assumption)
                          obtain ⟨ad613, e613, hx613_0⟩ := Kd.at_string (Kd.R_reads' HO_59.out).2.2 x61_2 p613 q613
                          cases e613
                          replace p613 := eq_true p613
                          replace q613 := eq_true q613
                          go_wp2_with (first | ((with_reducible refine gate_callee (f := 27) rfl ?_); refine goesL_ (some 68) rfl rfl Try.func27 (by kernel_rfl) rfl #[] rfl (by (try simp only [List.map_toArray, List.map_cons, List.map_nil]); first | done | rfl | (simp only [List.length_drop, List.length_take]; rfl)) ?_; (with_reducible refine (weirkeeperlaw08_awake.calls k2 _ A32.out).mono ?_); rintro e w33 ⟨rfl, hb⟩; refine ⟨_, rfl, ?_⟩; have n0_ := Aside0.mk (Kd.R_below (by (with_reducible repeat (first | apply Kd.R_alloc | apply Kd.R_drewN | apply Kd.R_drew)); exact HO_59.out) hb); have n1_ := Aside0.mk (Kd.R_below (by (with_reducible repeat (first | apply Kd.R_alloc | apply Kd.R_drewN | apply Kd.R_drew)); exact HO_601000.out) hb); have n2_ := Aside0.mk (Kd.R_below (by (with_reducible repeat (first | apply Kd.R_alloc | apply Kd.R_drewN | apply Kd.R_drew)); exact HO_601001.out) hb); have n3_ := Aside0.mk (blk_below (g := gb600) (o := .cells #[.slice Ao19 t593.length co19, .slice Ao21 t596.length co21] 25 (0, 0)) (by (with_reducible repeat (first | refine blk_drewN ?_ _ | refine blk_drew ?_ | refine blk_alloc ?_ _)); exact BK600.out) hb); have n4_ := Aside0.mk (below_step (by repeat (first | (with_reducible first | exact HB.out | apply below_alloc | apply pw_below_drewN | apply below_drew1 | refine below_set ?_ GE600.out) | exact HB.out)) hb); clear HO_59; clear HO_601000; clear HO_601001; clear BK600; clear HB; have HO_59 := n0_; have HO_601000 := n1_; have HO_601001 := n2_; have BK600 := n3_; have HB := n4_; clear n0_ n1_ n2_ n3_ n4_; (try clear hb); (try clear hb2); (try clear hk); (try clear hi)))
                          go_ret
                          exact ⟨by first | rfl | (simp only [h9_.out]; done) | (have h8_ := h9_.out; simp [h8_]; done) | (simp [errW_none, errW_some] <;> rfl) | (simp [*, errW_none, errW_some] <;> rfl), by repeat (first | (with_reducible first | exact HB.out | apply below_alloc | apply pw_below_drewN | apply below_drew1 | refine below_set ?_ GE600.out) | exact HB.out)⟩
                        · rw [if_neg c31] at H
                          have c31b0 : decide (300 < ((rdOf ByteArray.empty y610 x61_2).size : Int)) = false := decide_eq_false c31
                          have c31b1 : decide (300 < (rdOf ByteArray.empty y610 x61_2).size) = false := decide_eq_false (by omega)
                          clear c31
                          have H' := Aside0.mk H
                          clear H
                          have p613 : 0 ≤ (x61_2 : Int) := of_decide_eq_true (by first | (with_reducible assumption) | assumption)
                          have q613 : x61_2 < (y610.length : Int) := of_decide_eq_true (by first | (with_reducible assumption) | assumption)
                          obtain ⟨ad613, e613, hx613_0⟩ := Kd.at_string (Kd.R_reads' HO_59.out).2.2 x61_2 p613 q613
                          cases e613
                          replace p613 := eq_true p613
                          replace q613 := eq_true q613
                          go_wp2
                          go_roundg k2
                          case measure => have := HJ5.out; have := HK2.out; omega
                          case rel => exact ⟨(wrap64 (x61_2 + 1)), (by first | rfl | (simp; done) | (simp [*]; done)), H', ⟨by have := HJ5.out; have := HK2.out; omega⟩, ⟨by (with_reducible repeat (first | apply Kd.R_alloc | apply Kd.R_drewN | apply Kd.R_drew)); exact HO_59.out⟩, ⟨by (with_reducible repeat (first | apply Kd.R_alloc | apply Kd.R_drewN | apply Kd.R_drew)); exact HO_601000.out⟩, ⟨by (with_reducible repeat (first | apply Kd.R_alloc | apply Kd.R_drewN | apply Kd.R_drew)); exact HO_601001.out⟩, ⟨by (with_reducible repeat (first | refine blk_drewN ?_ _ | refine blk_drew ?_ | refine blk_alloc ?_ _)); exact BK600.out⟩, ⟨by repeat (first | (with_reducible first | exact HB.out | apply below_alloc | apply pw_below_drewN | apply below_drew1 | refine below_set ?_ GE600.out) | exact HB.out)⟩⟩
                      · rw [if_neg c30] at H
                        exact absurd H (by simp)
                    · rw [if_neg c29] at H
                      exact absurd H (by simp)
                  · rw [if_neg c28] at H
                    have c28b0 : decide (x61_2 < (y610.length : Int)) = false := decide_eq_false c28
                    clear c28
                    replace H := Option.bind_eq_some_iff.mp H
                    obtain ⟨⟨t615, t618, t621, t622⟩, A340, H⟩ := H
                    replace H : ((some (([] : List ByteArray) : List ByteArray)).bind fun y623 => (if y623.length + l2.length < 8796093022208 then ((some (y623 ++ l2 : List ByteArray)).bind fun y626 => (if y626.length + l3.length < 8796093022208 then ((some (y626 ++ l3 : List ByteArray)).bind fun y629 => (weirkeeperlaw08_JournalCrashes.l1 k2 l2 l3 l4 (wrap64 (2 + (wrap64 (Int.tmod a0 2147483645)))) 0 y629 y629 (y629.length : Int) 0 t615 t618)) else (none))) else (none))) = some true := H
                    have A34 := Aside0.mk A340
                    clear A340
                    obtain ⟨y623, hy623⟩ : ∃ y_ : List ByteArray, y_ = (([] : List ByteArray)) := ⟨_, rfl⟩
                    replace H : (if y623.length + l2.length < 8796093022208 then ((some (y623 ++ l2 : List ByteArray)).bind fun y626 => (if y626.length + l3.length < 8796093022208 then ((some (y626 ++ l3 : List ByteArray)).bind fun y629 => (weirkeeperlaw08_JournalCrashes.l1 k2 l2 l3 l4 (wrap64 (2 + (wrap64 (Int.tmod a0 2147483645)))) 0 y629 y629 (y629.length : Int) 0 t615 t618)) else (none))) else (none)) = some true := by first | (rw [hy623]; with_reducible exact H) | (have H2_ := (Option.bind_some _ _).symm.trans H; rw [hy623]; with_reducible exact H2_) | (have H2_ := (Option.bind_some _ _).symm.trans H; with_reducible exact H2_) | with_reducible exact H | (rw [hy623]; exact H) | exact H
                    have Ny623 := Aside0.mk hy623
                    clear hy623
                    by_cases c35 : y623.length + l2.length < 8796093022208
                    · rw [if_pos c35] at H
                      have LMc35 := Aside0.mk c35
                      clear c35
                      obtain ⟨y626, hy626⟩ : ∃ y_ : List ByteArray, y_ = (y623 ++ l2) := ⟨_, rfl⟩
                      replace H : (if y626.length + l3.length < 8796093022208 then ((some (y626 ++ l3 : List ByteArray)).bind fun y629 => (weirkeeperlaw08_JournalCrashes.l1 k2 l2 l3 l4 (wrap64 (2 + (wrap64 (Int.tmod a0 2147483645)))) 0 y629 y629 (y629.length : Int) 0 t615 t618)) else (none)) = some true := by first | (rw [hy626]; with_reducible exact H) | (have H2_ := (Option.bind_some _ _).symm.trans H; rw [hy626]; with_reducible exact H2_) | (have H2_ := (Option.bind_some _ _).symm.trans H; with_reducible exact H2_) | with_reducible exact H | (rw [hy626]; exact H) | exact H
                      have Ny626 := Aside0.mk hy626
                      clear hy626
                      by_cases c36 : y626.length + l3.length < 8796093022208
                      · rw [if_pos c36] at H
                        have LMc36 := Aside0.mk c36
                        clear c36
                        obtain ⟨y629, hy629⟩ : ∃ y_ : List ByteArray, y_ = (y626 ++ l3) := ⟨_, rfl⟩
                        replace H : (weirkeeperlaw08_JournalCrashes.l1 k2 l2 l3 l4 (wrap64 (2 + (wrap64 (Int.tmod a0 2147483645)))) 0 y629 y629 (y629.length : Int) 0 t615 t618) = some true := by first | (rw [hy629]; with_reducible exact H) | (have H2_ := (Option.bind_some _ _).symm.trans H; rw [hy629]; with_reducible exact H2_) | (have H2_ := (Option.bind_some _ _).symm.trans H; with_reducible exact H2_) | with_reducible exact H | (rw [hy629]; exact H) | exact H
                        have Ny629 := Aside0.mk hy629
                        clear hy629
                        have H' := Aside0.mk H
                        clear H
                        have hcz37_0 : wr.cell? ⟨gb600, 0, none⟩ = some (.slice Ao19 t593.length co19) := (blk_cell BK600.out 0).trans rfl
                        have hcz37_1 : wr.cell? ⟨gb600, 1, none⟩ = some (.slice Ao21 t596.length co21) := (blk_cell BK600.out 1).trans rfl
                        have hfz37_0 := blk_frozen BK600.out 0
                        have hfz37_1 := blk_frozen BK600.out 1
                        go_wp2_with (first | ((with_reducible refine gate_callee (f := 37) rfl ?_); refine goesL_ (some 75) rfl rfl Try.func37 (by kernel_rfl) rfl #[.agg #[.slice Ao19 t593.length co19, .slice Ao21 t596.length co21], .int .i64 (wrap64 ((wrap64 (2 + (wrap64 (Int.tmod a0 2147483645)))) - 1)), .int .i64 0, .slice A1 l1.length c1] rfl (by (try simp only [List.map_toArray, List.map_cons, List.map_nil]); first | done | rfl | (simp only [List.length_drop, List.length_take]; rfl)) ?_; (with_reducible refine (journal_Append.calls k2 (fun k_ => some k_ = (.slice Ao19 t593.length co19 : Value).ownBlock) (.slice Ao19 t593.length co19) t593 (fun k_ => some k_ = (.slice Ao21 t596.length co21 : Value).ownBlock) (.slice Ao21 t596.length co21) t596 (wrap64 ((wrap64 (2 + (wrap64 (Int.tmod a0 2147483645)))) - 1)) 0 _ _ l1 t615 t618 t621 t622 w _ ?side1 ?side2 ?side3 ?side4 ?side5 A34.out).mono ?_); (case side1 => repeat (first | (with_reducible first | exact HB.out | apply below_alloc | apply pw_below_drewN | apply below_drew1 | refine below_set ?_ GE600.out) | exact HB.out)); (case side2 => exact Kd.R_tight rfl HO_601000.out); (case side3 => exact Kd.R_tight rfl HO_601001.out); (case side4 => exact Kd.C_kept_came Kd.heap_string HR1.out (by repeat (first | (with_reducible first | exact HB.out | apply below_alloc | apply pw_below_drewN | apply below_drew1 | refine below_set ?_ GE600.out) | exact HB.out)) (fun k_ hs_ => Or.elim hs_ (fun e_ => (fun e_ => Kd.R_base HO_601000.out k_ e_.symm) e_) (fun e_ => (fun e_ => Kd.R_base HO_601001.out k_ e_.symm) e_))); (case side5 => exact HC1.out); rintro e w38 ⟨v616, v619, rfl, ho0, ho1, hb, hkp⟩; refine ⟨_, rfl, ?_⟩; have n0_ := Aside0.mk (Kd.R_mono (ok' := fun k_ => some k_ ≠ (v616 : Value).ownBlock) (Kd.R_keptB ((Kd.R_apart' HO_59.out (Kd.R_typed HO_601001.out) (by decide))) hkp (fun k_ hk_ hs_ => Or.elim hs_ (fun e_ => (hk_.1) e_) (fun e_ => (hk_.2) e_))) (fun k_ hk_ => fun e_ => Or.elim (ho0.1 k_ e_.symm) (fun hs_ => hk_.2.1 hs_) (fun hn_ => Nat.not_le.2 hk_.2.2 hn_))); have n1_ := Aside0.mk (blk_kept (by (with_reducible repeat (first | refine blk_drewN ?_ _ | refine blk_drew ?_ | refine blk_alloc ?_ _)); exact BK600.out) hkp (fun hs_ => Or.elim hs_ (fun e_ => (fun e_ => (Kd.R_ne HO_601000.out BK600.out (by decide)) e_) e_) (fun e_ => (fun e_ => (Kd.R_ne HO_601001.out BK600.out (by decide)) e_) e_))); have n2_ := Aside0.mk (Kd.R_mono (ok' := fun k_ => some k_ ≠ (.slice Ao27 y610.length co27 : Value).ownBlock) ho0 (fun k_ hk_ => Or.elim hk_ (fun hs_ => Or.elim hs_ (fun hs_ => fun e_ => ((((Kd.R_apart' HO_59.out (Kd.R_typed HO_601001.out) (by decide))).1 k_ e_.symm).1) hs_) (fun hs_ => fun e_ => ((((Kd.R_apart' HO_59.out (Kd.R_typed HO_601001.out) (by decide))).1 k_ e_.symm).2) hs_)) (fun hn_ => (Kd.fresh' (Kd.R_lt (by (with_reducible repeat (first | apply Kd.R_alloc | apply Kd.R_drewN | apply Kd.R_drew)); exact HO_59.out)) k_ hn_)))); have n3_ := Aside0.mk (Kd.R_mono (ok' := fun k_ => True) ho1 (fun k_ hk_ => trivial)); have n4_ := Aside0.mk (hb); clear HO_59; clear BK600; clear HB; clear HO_601000; clear HO_601001; have HO_59 := n0_; have BK600 := n1_; have HO617 := n2_; have HO620 := n3_; have HB := n4_; clear n0_ n1_ n2_ n3_ n4_; (try clear hb); (try clear hkp); (try clear ho0); (try clear ho1); obtain ⟨Ao39, co39, eo39⟩ := Kd.R_slice HO617.out; subst eo39; have hcz40_0 : w38.cell? ⟨gb600, 0, none⟩ = some (.slice Ao19 t593.length co19) := (blk_cell BK600.out 0).trans rfl; have hcz40_1 : w38.cell? ⟨gb600, 1, none⟩ = some (.slice Ao21 t596.length co21) := (blk_cell BK600.out 1).trans rfl; have hfz40_0 := blk_frozen BK600.out 0; have hfz40_1 := blk_frozen BK600.out 1; obtain ⟨Ao41, co41, eo41⟩ := Kd.R_slice HO620.out; subst eo41) | ((with_reducible refine gate_dst (N := 79) rfl ?_); (try (refine gate_guard (by rfl) ?_; dsimp only)); refine Kd.R_lit Kd.string _ 9 ?hg (N := 79) ?hd (xs := ([] : List ByteArray)) (inner := []) (ok := fun _ => True) (okp := fun _ => True) ?hr ?hp (fun _ hk => hk) trivial (Below.refl _ _) (Nat.le_refl _) (by simp) ?_; (case hd => rfl); (case hg => rfl); (case hr => first | (go_simp; done) | (go_simp; rfl)); (case hp => exact (Reps.none _ _)); intro v624 w42 ho43 hb hg_ hnew_; clear hg_ hnew_; (first | rw [← Ny623.out] at ho43 | (simp only [Int.reduceToNat] at ho43; rw [← Ny623.out] at ho43)); have n0_ := Aside0.mk (Kd.R_elder' (by (with_reducible repeat (first | apply Kd.R_alloc | apply Kd.R_drewN | apply Kd.R_drew)); exact (Kd.R_mono (Kd.R_far (p := ⟨gb600, 1, none⟩) (Kd.R_far (p := ⟨gb600, 0, none⟩) (Kd.R_types HO_59.out BK600.out (by decide)) (fun _ hk => hk.2) (.slice Ao39 t615.length co39)) (fun _ hk => hk.2) (.slice Ao41 t618.length co41)) (fun _ h_ => h_.1))) (Kd.R_base ho43) hb); have n1_ := Aside0.mk (Kd.R_elder' (by (with_reducible repeat (first | apply Kd.R_alloc | apply Kd.R_drewN | apply Kd.R_drew)); exact (Kd.R_mono (Kd.R_far (p := ⟨gb600, 1, none⟩) (Kd.R_far (p := ⟨gb600, 0, none⟩) (Kd.R_types HO617.out BK600.out (by decide)) (fun _ hk => hk.2) (.slice Ao39 t615.length co39)) (fun _ hk => hk.2) (.slice Ao41 t618.length co41)) (fun _ h_ => h_.1))) (Kd.R_base ho43) hb); have n2_ := Aside0.mk (Kd.R_below (by (with_reducible repeat (first | apply Kd.R_alloc | apply Kd.R_drewN | apply Kd.R_drew)); exact (Kd.R_mono (Kd.R_far (p := ⟨gb600, 1, none⟩) (Kd.R_far (p := ⟨gb600, 0, none⟩) (Kd.R_types HO620.out BK600.out (by decide)) (fun _ hk => hk.2) (.slice Ao39 t615.length co39)) (fun _ hk => hk.2) (.slice Ao41 t618.length co41)) (fun _ h_ => h_.1))) hb); have n3_ := Aside0.mk (Kd.R_lower (Kd.R_new' (Kd.R_new' ho43 (Kd.R_lt (by (with_reducible repeat (first | apply Kd.R_alloc | apply Kd.R_drewN | apply Kd.R_drew)); exact (Kd.R_mono (Kd.R_far (p := ⟨gb600, 1, none⟩) (Kd.R_far (p := ⟨gb600, 0, none⟩) (Kd.R_types HO_59.out BK600.out (by decide)) (fun _ hk => hk.2) (.slice Ao39 t615.length co39)) (fun _ hk => hk.2) (.slice Ao41 t618.length co41)) (fun _ h_ => h_.1))))) (Kd.R_lt (by (with_reducible repeat (first | apply Kd.R_alloc | apply Kd.R_drewN | apply Kd.R_drew)); exact (Kd.R_mono (Kd.R_far (p := ⟨gb600, 1, none⟩) (Kd.R_far (p := ⟨gb600, 0, none⟩) (Kd.R_types HO617.out BK600.out (by decide)) (fun _ hk => hk.2) (.slice Ao39 t615.length co39)) (fun _ hk => hk.2) (.slice Ao41 t618.length co41)) (fun _ h_ => h_.1))))) (below_size (by repeat (first | (with_reducible first | exact HB.out | apply below_alloc | apply pw_below_drewN | apply below_drew1 | refine below_set ?_ GE600.out) | exact HB.out)))); have n4_ := Aside0.mk (blk_below (g := gb600) (o := .cells #[.slice Ao39 t615.length co39, .slice Ao41 t618.length co41] 25 (0, 0)) (by (with_reducible repeat (first | refine blk_drewN ?_ _ | refine blk_drew ?_ | refine blk_alloc ?_ _)); refine blk_put (cs := #[.slice Ao39 t615.length co39, .slice Ao21 t596.length co21]) ?_ 1 _ rfl; (with_reducible repeat (first | refine blk_drewN ?_ _ | refine blk_drew ?_ | refine blk_alloc ?_ _)); refine blk_put (cs := #[.slice Ao19 t593.length co19, .slice Ao21 t596.length co21]) ?_ 0 _ rfl; (with_reducible repeat (first | refine blk_drewN ?_ _ | refine blk_drew ?_ | refine blk_alloc ?_ _)); exact BK600.out) hb); have n5_ := Aside0.mk (below_step (by repeat (first | (with_reducible first | exact HB.out | apply below_alloc | apply pw_below_drewN | apply below_drew1 | refine below_set ?_ GE600.out) | exact HB.out)) hb); clear HO_59; clear HO617; clear HO620; clear BK600; clear HB; have HO_59 := n0_; have HO617 := n1_; have HO620 := n2_; have HO625 := n3_; have BK600 := n4_; have HB := n5_; clear n0_ n1_ n2_ n3_ n4_ n5_; clear hb ho43) | ((with_reducible refine gate_builtin (b := .append) (xs := #[.tmp 79, .tmp 80]) rfl ?_); (try (refine gate_guard (by rfl) ?_; dsimp only)); at_builtin; refine Kd.R_append_rows Kd.string (w0 := w) w.heap.size rfl (.tmp 79) (.tmp 80) 22 9 (.string ⟨#[]⟩) 16 rfl Try.underlying22 info9 rfl (by decide) (by omega) v624 y623 l2 _ _ _ (fun k_ => some k_ ≠ (.slice Ao27 y610.length co27 : Value).ownBlock ∧ some k_ ≠ (.slice Ao39 t615.length co39 : Value).ownBlock) (fun _ => False) rfl rfl ?aO ?aR (fun _ _ h => h) (fun _ h => h.elim) ?aF ?aB ?aS ?aL ?_; (case aR => repeat (first | exact (Kd.C_below HR2.out HB.out) | (with_reducible refine Kd.C_alloc ?_ _) | (with_reducible refine Kd.C_drewN ?_ _) | (with_reducible refine Kd.C_drew ?_))); (case aB => exact (by repeat (first | (with_reducible first | exact HB.out | apply below_alloc | apply pw_below_drewN | apply below_drew1 | refine below_set ?_ GE600.out) | exact HB.out))); (case aF => exact (fun k_ hk => ⟨Kd.fresh' (Kd.R_lt (by (with_reducible repeat (first | apply Kd.R_alloc | apply Kd.R_drewN | apply Kd.R_drew)); exact HO_59.out)) k_ hk, Kd.fresh' (Kd.R_lt (by (with_reducible repeat (first | apply Kd.R_alloc | apply Kd.R_drewN | apply Kd.R_drew)); exact HO617.out)) k_ hk⟩)); (case aO => exact (by (with_reducible repeat (first | apply Kd.R_alloc | apply Kd.R_drewN | apply Kd.R_drew)); exact Kd.R_mono HO625.out (fun _ hk => ⟨hk.1.2, hk.2⟩))); (case aS => exact (below_size (by repeat (first | (with_reducible first | exact HB.out | apply below_alloc | apply pw_below_drewN | apply below_drew1 | refine below_set ?_ GE600.out) | exact HB.out)))); (case aL => have := LMc35.out; omega); intro v627 w44 ho hb hg hat; rw [← Ny626.out] at ho; have n0_ := Aside0.mk (Kd.R_after (ok := (fun k_ => some k_ ≠ (.slice Ao39 t615.length co39 : Value).ownBlock)) (by (with_reducible repeat (first | apply Kd.R_alloc | apply Kd.R_drewN | apply Kd.R_drew)); exact HO_59.out) hg hat); have n1_ := Aside0.mk (blk_grown (g := gb600) (o := .cells #[.slice Ao39 t615.length co39, .slice Ao41 t618.length co41] 25 (0, 0)) (by (with_reducible repeat (first | refine blk_drewN ?_ _ | refine blk_drew ?_ | refine blk_alloc ?_ _)); exact BK600.out) hg (Kd.R_ne HO625.out BK600.out (by decide))); have n2_ := Aside0.mk (Kd.R_after (ok := (fun k_ => some k_ ≠ (.slice Ao27 y610.length co27 : Value).ownBlock)) (by (with_reducible repeat (first | apply Kd.R_alloc | apply Kd.R_drewN | apply Kd.R_drew)); exact HO617.out) hg hat); have n3_ := Aside0.mk (Kd.R_over' (by (with_reducible repeat (first | apply Kd.R_alloc | apply Kd.R_drewN | apply Kd.R_drew)); exact HO620.out) (Kd.R_typed (by (with_reducible repeat (first | apply Kd.R_alloc | apply Kd.R_drewN | apply Kd.R_drew)); exact HO625.out)) (by decide) hg); have n4_ := Aside0.mk (hb); have n5_ := Aside0.mk (ho); clear HO_59; clear BK600; clear HO617; clear HO620; clear HB; clear HO625; have HO_59 := n0_; have BK600 := n1_; have HO617 := n2_; have HO620 := n3_; have HB := n4_; have HO628 := n5_; clear n0_ n1_ n2_ n3_ n4_ n5_; clear ho hb hg hat) | ((with_reducible refine gate_builtin (b := .append) (xs := #[.tmp 81, .tmp 82]) rfl ?_); (try (refine gate_guard (by rfl) ?_; dsimp only)); at_builtin; refine Kd.R_append_rows Kd.string (w0 := w) w.heap.size rfl (.tmp 81) (.tmp 82) 22 9 (.string ⟨#[]⟩) 16 rfl Try.underlying22 info9 rfl (by decide) (by omega) v627 y626 l3 _ _ _ (fun k_ => some k_ ≠ (.slice Ao27 y610.length co27 : Value).ownBlock ∧ some k_ ≠ (.slice Ao39 t615.length co39 : Value).ownBlock) (fun _ => False) rfl rfl ?aO ?aR (fun _ _ h => h) (fun _ h => h.elim) ?aF ?aB ?aS ?aL ?_; (case aR => repeat (first | exact (Kd.C_below HR3.out HB.out) | (with_reducible refine Kd.C_alloc ?_ _) | (with_reducible refine Kd.C_drewN ?_ _) | (with_reducible refine Kd.C_drew ?_))); (case aB => exact (by repeat (first | (with_reducible first | exact HB.out | apply below_alloc | apply pw_below_drewN | apply below_drew1 | refine below_set ?_ GE600.out) | exact HB.out))); (case aF => exact (fun k_ hk => ⟨Kd.fresh' (Kd.R_lt (by (with_reducible repeat (first | apply Kd.R_alloc | apply Kd.R_drewN | apply Kd.R_drew)); exact HO_59.out)) k_ hk, Kd.fresh' (Kd.R_lt (by (with_reducible repeat (first | apply Kd.R_alloc | apply Kd.R_drewN | apply Kd.R_drew)); exact HO617.out)) k_ hk⟩)); (case aO => exact (by (with_reducible repeat (first | apply Kd.R_alloc | apply Kd.R_drewN | apply Kd.R_drew)); exact HO628.out)); (case aS => exact (below_size (by repeat (first | (with_reducible first | exact HB.out | apply below_alloc | apply pw_below_drewN | apply below_drew1 | refine below_set ?_ GE600.out) | exact HB.out)))); (case aL => have := LMc36.out; omega); intro v630 w45 ho hb hg hat; rw [← Ny629.out] at ho; have n0_ := Aside0.mk (Kd.R_after (ok := (fun k_ => some k_ ≠ (.slice Ao39 t615.length co39 : Value).ownBlock)) (by (with_reducible repeat (first | apply Kd.R_alloc | apply Kd.R_drewN | apply Kd.R_drew)); exact HO_59.out) hg hat); have n1_ := Aside0.mk (blk_grown (g := gb600) (o := .cells #[.slice Ao39 t615.length co39, .slice Ao41 t618.length co41] 25 (0, 0)) (by (with_reducible repeat (first | refine blk_drewN ?_ _ | refine blk_drew ?_ | refine blk_alloc ?_ _)); exact BK600.out) hg (Kd.R_ne HO628.out BK600.out (by decide))); have n2_ := Aside0.mk (Kd.R_after (ok := (fun k_ => some k_ ≠ (.slice Ao27 y610.length co27 : Value).ownBlock)) (by (with_reducible repeat (first | apply Kd.R_alloc | apply Kd.R_drewN | apply Kd.R_drew)); exact HO617.out) hg hat); have n3_ := Aside0.mk (Kd.R_over' (by (with_reducible repeat (first | apply Kd.R_alloc | apply Kd.R_drewN | apply Kd.R_drew)); exact HO620.out) (Kd.R_typed (by (with_reducible repeat (first | apply Kd.R_alloc | apply Kd.R_drewN | apply Kd.R_drew)); exact HO628.out)) (by decide) hg); have n4_ := Aside0.mk (hb); have n5_ := Aside0.mk (ho); clear HO_59; clear BK600; clear HO617; clear HO620; clear HB; clear HO628; have HO_59 := n0_; have BK600 := n1_; have HO617 := n2_; have HO620 := n3_; have HB := n4_; have HO631 := n5_; clear n0_ n1_ n2_ n3_ n4_ n5_; clear ho hb hg hat; obtain ⟨Ao46, co46, eo46⟩ := Kd.R_slice HO631.out; subst eo46))
                        go_loopg [14, 86] k2 (fun kq v14 v86 w' => ∃ (x14_3 : Int) (x86_3 : Int) (x601000_3 : List ByteArray) (x601001_3 : List (S76)) (u601000 : Value) (u601001 : Value), v14 = .int .i64 x14_3 ∧ v86 = .int .i64 x86_3 ∧ Aside0 (weirkeeperlaw08_JournalCrashes.l1 kq l2 l3 l4 (wrap64 (2 + (wrap64 (Int.tmod a0 2147483645)))) x14_3 y629 y629 (y629.length : Int) x86_3 x601000_3 x601001_3 = some true) ∧ Aside0 (kq ≤ k2) ∧ Aside0 (Kd.R Kd.string 9 w' w.heap.size (fun k_ => some k_ ≠ (u601000 : Value).ownBlock) (.slice Ao46 y629.length co46) y629) ∧ Aside0 (Kd.R Kd.string 9 w' w.heap.size (fun k_ => some k_ ≠ (u601000 : Value).ownBlock) (.slice Ao46 y629.length co46) y629) ∧ Aside0 (Kd.R Kd.string 9 w' w.heap.size (fun k_ => some k_ ≠ ((.slice Ao46 y629.length co46) : Value).ownBlock ∧ some k_ ≠ ((.slice Ao46 y629.length co46) : Value).ownBlock) u601000 x601000_3) ∧ Aside0 (Kd.R k76 76 w' w.heap.size (fun _ => True) u601001 x601001_3) ∧ Aside0 (w'.heap[gb600]? = some (.cells #[u601000, u601001] 25 (0, 0))) ∧ Aside0 (Below w.heap.size w w'))
                        case atStart => exact ⟨(0), (0), (t615), (t618), (.slice Ao39 t615.length co39), (.slice Ao41 t618.length co41), (by first | rfl | (simp; done) | (simp [*]; done)), (by first | rfl | (simp; done) | (simp [*]; done)), H', ⟨Nat.le_refl _⟩, ⟨by (with_reducible repeat (first | apply Kd.R_alloc | apply Kd.R_drewN | apply Kd.R_drew)); exact Kd.R_mono HO631.out (fun _ hk => hk.2)⟩, ⟨by (with_reducible repeat (first | apply Kd.R_alloc | apply Kd.R_drewN | apply Kd.R_drew)); exact Kd.R_mono HO631.out (fun _ hk => hk.2)⟩, ⟨by (with_reducible repeat (first | apply Kd.R_alloc | apply Kd.R_drewN | apply Kd.R_drew)); exact Kd.R_mono HO617.out (fun _ hk => ⟨hk.2, hk.2⟩)⟩, ⟨by (with_reducible repeat (first | apply Kd.R_alloc | apply Kd.R_drewN | apply Kd.R_drew)); exact HO620.out⟩, ⟨by (with_reducible repeat (first | refine blk_drewN ?_ _ | refine blk_drew ?_ | refine blk_alloc ?_ _)); exact BK600.out⟩, ⟨by repeat (first | (with_reducible first | exact HB.out | apply below_alloc | apply pw_below_drewN | apply below_drew1 | refine below_set ?_ GE600.out) | exact HB.out)⟩⟩
                        case round =>
                          clear H'
                          try clear c1
                          try clear c2
                          try clear p2
                          try clear c3
                          try clear c4
                          try clear p6
                          try clear q6
                          try clear hx6
                          try clear c7
                          try clear c7b0
                          try clear c7b1
                          try clear c8
                          try clear c8b0
                          try clear c8b1
                          try clear c9
                          try clear c9b0
                          try clear c9b1
                          try clear c10
                          try clear c14
                          try clear c15
                          try clear c16
                          try clear c24
                          try clear c27
                          try clear c28
                          try clear c28b0
                          try clear c29
                          try clear c29b0
                          try clear c30
                          try clear c30b0
                          try clear c31
                          try clear c31b0
                          try clear c31b1
                          try clear c35
                          try clear c36
                          try clear c37
                          try clear hcz20_0
                          try clear hcz20_1
                          try clear hcz37_0
                          try clear hcz37_1
                          try clear hcz40_0
                          try clear hcz40_1
                          try clear hfz20_0
                          try clear hfz20_1
                          try clear hfz37_0
                          try clear hfz37_1
                          try clear hfz40_0
                          try clear hfz40_1
                          try clear hx613_0
                          try clear p2
                          try clear p6
                          try clear p613
                          try clear q613
                          obtain ⟨x14_3, x86_3, x601000_3, x601001_3, u601000, u601001, rfl, rfl, HA, HK3, HO_17, HO_84, HO_601000, HO_601001, BK600, HB⟩ := hrel
                          cases gk with
                          | zero => exact absurd HA.out (by simp [weirkeeperlaw08_JournalCrashes.l1])
                          | succ k3 =>
                            have H := HA.out
                            clear HA
                            simp only [weirkeeperlaw08_JournalCrashes.l1] at H
                            by_cases c47 : x86_3 < (y629.length : Int)
                            · rw [if_pos c47] at H
                              have c47b0 : decide (x86_3 < (y629.length : Int)) = true := decide_eq_true c47
                              clear c47
                              by_cases c48 : 0 ≤ x86_3
                              · rw [if_pos c48] at H
                                have c48b0 : decide (0 ≤ x86_3) = true := decide_eq_true c48
                                clear c48
                                by_cases c49 : x86_3 < (y629.length : Int)
                                · rw [if_pos c49] at H
                                  have c49b0 : decide (x86_3 < (y629.length : Int)) = true := decide_eq_true c49
                                  clear c49
                                  have HC50 := Aside0.mk H
                                  clear H
                                  have p632 : 0 ≤ (x86_3 : Int) := of_decide_eq_true (by first | (with_reducible assumption) | assumption)
                                  have q632 : x86_3 < (y629.length : Int) := of_decide_eq_true (by first | (with_reducible assumption) | assumption)
                                  obtain ⟨ad632, e632, hx632_0⟩ := Kd.at_string (Kd.R_reads' HO_84.out).2.2 x86_3 p632 q632
                                  cases e632
                                  replace p632 := eq_true p632
                                  replace q632 := eq_true q632
                                  go_upto_if 94 with (fail)
                                  go_cut [] (fun wc => ∃ (kq : Nat) (x601000_49 : List ByteArray) (x601001_49 : List (S76)) (u601000 : Value) (u601001 : Value), Aside0 (weirkeeperlaw08_JournalCrashes.j3 kq l2 l3 l4 (wrap64 (2 + (wrap64 (Int.tmod a0 2147483645)))) x14_3 y629 (rdOf ByteArray.empty y629 x86_3) y629 (y629.length : Int) x86_3 x601000_49 x601001_49 = some true) ∧ Aside0 (kq ≤ k3) ∧ Aside0 (Kd.R Kd.string 9 wc w.heap.size (fun k_ => some k_ ≠ (u601000 : Value).ownBlock) (.slice (some ad632) y629.length co46) y629) ∧ Aside0 (Kd.R Kd.string 9 wc w.heap.size (fun k_ => some k_ ≠ (u601000 : Value).ownBlock) (.slice (some ad632) y629.length co46) y629) ∧ Aside0 (Kd.R Kd.string 9 wc w.heap.size (fun k_ => some k_ ≠ ((.slice (some ad632) y629.length co46) : Value).ownBlock ∧ some k_ ≠ ((.slice (some ad632) y629.length co46) : Value).ownBlock) u601000 x601000_49) ∧ Aside0 (Kd.R k76 76 wc w.heap.size (fun _ => True) u601001 x601001_49) ∧ Aside0 (wc.heap[gb600]? = some (.cells #[u601000, u601001] 25 (0, 0))) ∧ Aside0 (Below w.heap.size w wc))
                                  case first =>
                                    have H := HC50.out
                                    clear HC50
                                    by_cases c51 : x86_3 = (l2.length : Int)
                                    · rw [if_pos c51] at H
                                      have c51b0 : (x86_3 == (l2.length : Int)) = true := beq_iff_eq.mpr c51
                                      have c51b1 : (x86_3 != (l2.length : Int)) = false := bne_eq_false_iff_eq.mpr c51
                                      clear c51
                                      (first | rw [c51b0] | (simp only [i64_w, i32_w]; rw [c51b0]) | skip)
                                      replace H := Option.bind_eq_some_iff.mp H
                                      obtain ⟨⟨t633, t636⟩, A520, H⟩ := H
                                      replace H : (weirkeeperlaw08_JournalCrashes.j3 k3 l2 l3 l4 (wrap64 (2 + (wrap64 (Int.tmod a0 2147483645)))) x14_3 y629 (rdOf ByteArray.empty y629 x86_3) y629 (y629.length : Int) x86_3 t633 t636) = some true := H
                                      have A52 := Aside0.mk A520
                                      clear A520
                                      have H' := Aside0.mk H
                                      clear H
                                      have hcz53_0 : wr.cell? ⟨gb600, 0, none⟩ = some (u601000) := (blk_cell BK600.out 0).trans rfl
                                      have hcz53_1 : wr.cell? ⟨gb600, 1, none⟩ = some (u601001) := (blk_cell BK600.out 1).trans rfl
                                      have hfz53_0 := blk_frozen BK600.out 0
                                      have hfz53_1 := blk_frozen BK600.out 1
                                      obtain ⟨Ao54, co54, eo54⟩ := Kd.R_slice HO_601000.out
                                      subst eo54
                                      obtain ⟨Ao55, co55, eo55⟩ := Kd.R_slice HO_601001.out
                                      subst eo55
                                      go_wp2_with (first | ((with_reducible refine gate_callee (f := 22) rfl ?_); refine goesL_ (some 96) rfl rfl Try.func22 (by kernel_rfl) rfl #[.agg #[.slice Ao54 x601000_3.length co54, .slice Ao55 x601001_3.length co55]] rfl (by (try simp only [List.map_toArray, List.map_cons, List.map_nil]); first | done | rfl | (simp only [List.length_drop, List.length_take]; rfl)) ?_; (with_reducible refine (disk_Flush.calls _ _ x601000_3 _ _ x601001_3 t633 t636 _ ?side1 ?side2 ?side3 ?side4 A52.out).mono ?_); (case side1 => repeat (first | exact (Kd.R_reads' HO_601000.out).2.2 | (with_reducible refine Kd.C_alloc ?_ _) | (with_reducible refine Kd.C_drewN ?_ _) | (with_reducible refine Kd.C_drew ?_))); (case side2 => exact (Kd.R_reads' HO_601000.out).2.1); (case side3 => repeat (first | exact (Kd.R_reads' HO_601001.out).2.2 | (with_reducible refine Kd.C_alloc ?_ _) | (with_reducible refine Kd.C_drewN ?_ _) | (with_reducible refine Kd.C_drew ?_))); (case side4 => exact (Kd.R_reads' HO_601001.out).2.1); rintro e w56 ⟨v634, v637, rfl, ho0, ho1, hb⟩; refine ⟨_, rfl, ?_⟩; have n0_ := Aside0.mk (Kd.R_elder' (by (with_reducible repeat (first | apply Kd.R_alloc | apply Kd.R_drewN | apply Kd.R_drew)); exact HO_17.out) (Kd.R_base ho0) hb); have n1_ := Aside0.mk (Kd.R_elder' (by (with_reducible repeat (first | apply Kd.R_alloc | apply Kd.R_drewN | apply Kd.R_drew)); exact HO_84.out) (Kd.R_base ho0) hb); have n2_ := Aside0.mk (Kd.R_elder' (by (with_reducible repeat (first | apply Kd.R_alloc | apply Kd.R_drewN | apply Kd.R_drew)); exact HO_601000.out) (Kd.R_base ho0) hb); have n3_ := Aside0.mk (Kd.R_elder' (by (with_reducible repeat (first | apply Kd.R_alloc | apply Kd.R_drewN | apply Kd.R_drew)); exact HO_601001.out) (Kd.R_base ho1) hb); have n4_ := Aside0.mk (Kd.R_lower (Kd.R_new' (Kd.R_new' (Kd.R_new' ho0 (Kd.R_lt (by (with_reducible repeat (first | apply Kd.R_alloc | apply Kd.R_drewN | apply Kd.R_drew)); exact HO_17.out))) (Kd.R_lt (by (with_reducible repeat (first | apply Kd.R_alloc | apply Kd.R_drewN | apply Kd.R_drew)); exact HO_84.out))) (Kd.R_lt (by (with_reducible repeat (first | apply Kd.R_alloc | apply Kd.R_drewN | apply Kd.R_drew)); exact HO_601000.out))) (below_size (by repeat (first | (with_reducible first | exact HB.out | apply below_alloc | apply pw_below_drewN | apply below_drew1 | refine below_set ?_ GE600.out) | exact HB.out)))); have n5_ := Aside0.mk (Kd.R_lower (Kd.R_new' ho1 (Kd.R_lt (by (with_reducible repeat (first | apply Kd.R_alloc | apply Kd.R_drewN | apply Kd.R_drew)); exact HO_601001.out))) (below_size (by repeat (first | (with_reducible first | exact HB.out | apply below_alloc | apply pw_below_drewN | apply below_drew1 | refine below_set ?_ GE600.out) | exact HB.out)))); have n6_ := Aside0.mk (blk_below (g := gb600) (o := .cells #[.slice Ao54 x601000_3.length co54, .slice Ao55 x601001_3.length co55] 25 (0, 0)) (by (with_reducible repeat (first | refine blk_drewN ?_ _ | refine blk_drew ?_ | refine blk_alloc ?_ _)); exact BK600.out) hb); have n7_ := Aside0.mk (below_step (by repeat (first | (with_reducible first | exact HB.out | apply below_alloc | apply pw_below_drewN | apply below_drew1 | refine below_set ?_ GE600.out) | exact HB.out)) hb); clear HO_17; clear HO_84; clear HO_601000; clear HO_601001; clear BK600; clear HB; have HO_17 := n0_; have HO_84 := n1_; have HO_601000 := n2_; have HO_601001 := n3_; have HO635 := n4_; have HO638 := n5_; have BK600 := n6_; have HB := n7_; clear n0_ n1_ n2_ n3_ n4_ n5_ n6_ n7_; (try clear hb); (try clear hb2); (try clear hk); (try clear hi); (try clear ho0); (try clear ho1); obtain ⟨Ao57, co57, eo57⟩ := Kd.R_slice HO635.out; subst eo57; have hcz58_0 : w56.cell? ⟨gb600, 0, none⟩ = some (.slice Ao54 x601000_3.length co54) := (blk_cell BK600.out 0).trans rfl; have hcz58_1 : w56.cell? ⟨gb600, 1, none⟩ = some (.slice Ao55 x601001_3.length co55) := (blk_cell BK600.out 1).trans rfl; have hfz58_0 := blk_frozen BK600.out 0; have hfz58_1 := blk_frozen BK600.out 1; obtain ⟨Ao59, co59, eo59⟩ := Kd.R_slice HO638.out; subst eo59))
                                      go_meet
                                      case rel => exact ⟨_, (t633), (t636), (.slice Ao57 t633.length co57), (.slice Ao59 t636.length co59), H', ⟨by have := HJ5.out; have := HK2.out; have := HK3.out; first | omega | exact Nat.le_refl _⟩, ⟨by (with_reducible repeat (first | apply Kd.R_alloc | apply Kd.R_drewN | apply Kd.R_drew)); exact Kd.R_mono (Kd.R_far (p := ⟨gb600, 1, none⟩) (Kd.R_far (p := ⟨gb600, 0, none⟩) (Kd.R_types HO_17.out BK600.out (by decide)) (fun _ hk => hk.2) (.slice Ao57 t633.length co57)) (fun _ hk => hk.2) (.slice Ao59 t636.length co59)) (fun _ hk => hk.1.2)⟩, ⟨by (with_reducible repeat (first | apply Kd.R_alloc | apply Kd.R_drewN | apply Kd.R_drew)); exact Kd.R_mono (Kd.R_far (p := ⟨gb600, 1, none⟩) (Kd.R_far (p := ⟨gb600, 0, none⟩) (Kd.R_types HO_84.out BK600.out (by decide)) (fun _ hk => hk.2) (.slice Ao57 t633.length co57)) (fun _ hk => hk.2) (.slice Ao59 t636.length co59)) (fun _ hk => hk.1.2)⟩, ⟨by (with_reducible repeat (first | apply Kd.R_alloc | apply Kd.R_drewN | apply Kd.R_drew)); exact Kd.R_mono (Kd.R_far (p := ⟨gb600, 1, none⟩) (Kd.R_far (p := ⟨gb600, 0, none⟩) (Kd.R_types HO635.out BK600.out (by decide)) (fun _ hk => hk.2) (.slice Ao57 t633.length co57)) (fun _ hk => hk.2) (.slice Ao59 t636.length co59)) (fun _ hk => ⟨hk.1.1.1.2, hk.1.1.2⟩)⟩, ⟨by (with_reducible repeat (first | apply Kd.R_alloc | apply Kd.R_drewN | apply Kd.R_drew)); exact Kd.R_mono (Kd.R_far (p := ⟨gb600, 1, none⟩) (Kd.R_far (p := ⟨gb600, 0, none⟩) (Kd.R_types HO638.out BK600.out (by decide)) (fun _ hk => hk.2) (.slice Ao57 t633.length co57)) (fun _ hk => hk.2) (.slice Ao59 t636.length co59)) (fun _ hk => trivial)⟩, ⟨by (with_reducible repeat (first | refine blk_drewN ?_ _ | refine blk_drew ?_ | refine blk_alloc ?_ _)); refine blk_put (cs := #[.slice Ao57 t633.length co57, .slice Ao55 x601001_3.length co55]) ?_ 1 _ rfl; (with_reducible repeat (first | refine blk_drewN ?_ _ | refine blk_drew ?_ | refine blk_alloc ?_ _)); refine blk_put (cs := #[.slice Ao54 x601000_3.length co54, .slice Ao55 x601001_3.length co55]) ?_ 0 _ rfl; (with_reducible repeat (first | refine blk_drewN ?_ _ | refine blk_drew ?_ | refine blk_alloc ?_ _)); exact BK600.out⟩, ⟨by repeat (first | (with_reducible first | exact HB.out | apply below_alloc | apply pw_below_drewN | apply below_drew1 | refine below_set ?_ GE600.out) | exact HB.out)⟩⟩
                                    · rw [if_neg c51] at H
                                      have c51b0 : (x86_3 == (l2.length : Int)) = false := beq_eq_false_iff_ne.mpr c51
                                      have c51b1 : (x86_3 != (l2.length : Int)) = true := bne_iff_ne.mpr c51
                                      (first | rw [c51b0] | (simp only [i64_w, i32_w]; rw [c51b0]) | skip)
                                      have H' := Aside0.mk H
                                      clear H
                                      go_wp2
                                      go_meet
                                      case rel => exact ⟨_, (x601000_3), (x601001_3), (u601000), (u601001), H', ⟨by have := HJ5.out; have := HK2.out; have := HK3.out; first | omega | exact Nat.le_refl _⟩, ⟨by (with_reducible repeat (first | apply Kd.R_alloc | apply Kd.R_drewN | apply Kd.R_drew)); exact HO_17.out⟩, ⟨by (with_reducible repeat (first | apply Kd.R_alloc | apply Kd.R_drewN | apply Kd.R_drew)); exact HO_84.out⟩, ⟨by (with_reducible repeat (first | apply Kd.R_alloc | apply Kd.R_drewN | apply Kd.R_drew)); exact HO_601000.out⟩, ⟨by (with_reducible repeat (first | apply Kd.R_alloc | apply Kd.R_drewN | apply Kd.R_drew)); exact HO_601001.out⟩, ⟨by (with_reducible repeat (first | refine blk_drewN ?_ _ | refine blk_drew ?_ | refine blk_alloc ?_ _)); exact BK600.out⟩, ⟨by repeat (first | (with_reducible first | exact HB.out | apply below_alloc | apply pw_below_drewN | apply below_drew1 | refine below_set ?_ GE600.out) | exact HB.out)⟩⟩
                                  case rest =>
                                    clear HC50
                                    try clear c1
                                    try clear c2
                                    try clear p2
                                    try clear c3
                                    try clear c4
                                    try clear c5
                                    try clear p6
                                    try clear q6
                                    try clear hx6
                                    try clear c7
                                    try clear c7b0
                                    try clear c7b1
                                    try clear c8
                                    try clear c8b0
                                    try clear c8b1
                                    try clear c9
                                    try clear c9b0
                                    try clear c9b1
                                    try clear c10
                                    try clear c14
                                    try clear c15
                                    try clear c16
                                    try clear c22
                                    try clear c24
                                    try clear c27
                                    try clear c28
                                    try clear c28b0
                                    try clear c29
                                    try clear c29b0
                                    try clear c30
                                    try clear c30b0
                                    try clear c31
                                    try clear c31b0
                                    try clear c31b1
                                    try clear c35
                                    try clear c36
                                    try clear c37
                                    try clear c47
                                    try clear c47b0
                                    try clear c48
                                    try clear c48b0
                                    try clear c49
                                    try clear c49b0
                                    try clear c51
                                    try clear c51b0
                                    try clear c51b1
                                    try clear hcz20_0
                                    try clear hcz20_1
                                    try clear hcz37_0
                                    try clear hcz37_1
                                    try clear hcz40_0
                                    try clear hcz40_1
                                    try clear hcz53_0
                                    try clear hcz53_1
                                    try clear hcz58_0
                                    try clear hcz58_1
                                    try clear hfz20_0
                                    try clear hfz20_1
                                    try clear hfz37_0
                                    try clear hfz37_1
                                    try clear hfz40_0
                                    try clear hfz40_1
                                    try clear hfz53_0
                                    try clear hfz53_1
                                    try clear hfz58_0
                                    try clear hfz58_1
                                    try clear hx613_0
                                    try clear hx632_0
                                    try clear p2
                                    try clear p6
                                    try clear p613
                                    try clear p632
                                    try clear q6
                                    try clear q613
                                    try clear q632
                                    obtain ⟨kq, x601000_49, x601001_49, u601000, u601001, HA, HJ49, HO_17, HO_84, HO_601000, HO_601001, BK600, HB⟩ := hcut
                                    cases kq with
                                    | zero => exact absurd HA.out (by simp [weirkeeperlaw08_JournalCrashes.j3])
                                    | succ kj49 =>
                                      have H := HA.out
                                      clear HA
                                      simp only [weirkeeperlaw08_JournalCrashes.j3] at H
                                      obtain ⟨y639, hy639⟩ : ∃ y_ : List ByteArray, y_ = (([(rdOf ByteArray.empty y629 x86_3)] : List ByteArray)) := ⟨_, rfl⟩
                                      replace H : ((journal_Append.f kj49 x601000_49 x601001_49 (wrap64 (2 + (wrap64 (Int.tmod a0 2147483645)))) x14_3 y639).bind fun bt642 => (if bt642.2.2.2 = 0 then (weirkeeperlaw08_JournalCrashes.l1 kj49 l2 l3 l4 (wrap64 (2 + (wrap64 (Int.tmod a0 2147483645)))) bt642.2.2.1 y629 y629 (y629.length : Int) (wrap64 (x86_3 + 1)) bt642.1 bt642.2.1) else (if bt642.2.2.2 = 6 then ((weirkeeperlaw08_awake.f kj49).bind fun t651 => (some t651)) else (some false)))) = some true := by first | (rw [hy639]; with_reducible exact H) | (have H2_ := (Option.bind_some _ _).symm.trans H; rw [hy639]; with_reducible exact H2_) | (have H2_ := (Option.bind_some _ _).symm.trans H; with_reducible exact H2_) | with_reducible exact H | (rw [hy639]; exact H) | exact H
                                      have Ny639 := Aside0.mk hy639
                                      clear hy639
                                      replace H := Option.bind_eq_some_iff.mp H
                                      obtain ⟨⟨t642, t645, t648, t649⟩, A600, H⟩ := H
                                      replace H : (if t649 = 0 then (weirkeeperlaw08_JournalCrashes.l1 kj49 l2 l3 l4 (wrap64 (2 + (wrap64 (Int.tmod a0 2147483645)))) t648 y629 y629 (y629.length : Int) (wrap64 (x86_3 + 1)) t642 t645) else (if t649 = 6 then ((weirkeeperlaw08_awake.f kj49).bind fun t651 => (some t651)) else (some false))) = some true := H
                                      have A60 := Aside0.mk A600
                                      clear A600
                                      by_cases c61 : t649 = 0
                                      · rw [if_pos c61] at H
                                        have c61b0 : (t649 == 0) = true := beq_iff_eq.mpr c61
                                        have c61b1 : (t649 != 0) = false := bne_eq_false_iff_eq.mpr c61
                                        clear c61
                                        have H' := Aside0.mk H
                                        clear H
                                        have hcz62_0 : wc.cell? ⟨gb600, 0, none⟩ = some (u601000) := (blk_cell BK600.out 0).trans rfl
                                        have hcz62_1 : wc.cell? ⟨gb600, 1, none⟩ = some (u601001) := (blk_cell BK600.out 1).trans rfl
                                        have hfz62_0 := blk_frozen BK600.out 0
                                        have hfz62_1 := blk_frozen BK600.out 1
                                        go_wp2_with (first | ((with_reducible refine gate_dst (N := 102) rfl ?_); (try (refine gate_guard (by rfl) ?_; dsimp only)); refine Kd.R_lit Kd.string _ 9 ?hg (N := 102) ?hd (xs := ([(rdOf ByteArray.empty y629 x86_3)] : List ByteArray)) (inner := [.string (rdOf ByteArray.empty y629 x86_3)]) (ok := fun _ => True) (okp := fun _ => True) ?hr ?hp (fun _ hk => hk) trivial (Below.refl _ _) (Nat.le_refl _) (by simp) ?_; (case hd => rfl); (case hg => rfl); (case hr => first | (go_simp; done) | (go_simp; rfl)); (case hp => exact (Reps.one (show Kd.M Kd.string _ _ _ (rdOf ByteArray.empty y629 x86_3) [.string (rdOf ByteArray.empty y629 x86_3)] from rfl) (Reps.none _ _))); intro v640 w63 ho64 hb hg_ hnew_; clear hg_ hnew_; (first | rw [← Ny639.out] at ho64 | (simp only [Int.reduceToNat] at ho64; rw [← Ny639.out] at ho64)); have n0_ := Aside0.mk (Kd.R_elder' (by (with_reducible repeat (first | apply Kd.R_alloc | apply Kd.R_drewN | apply Kd.R_drew)); exact HO_17.out) (Kd.R_base ho64) hb); have n1_ := Aside0.mk (Kd.R_elder' (by (with_reducible repeat (first | apply Kd.R_alloc | apply Kd.R_drewN | apply Kd.R_drew)); exact HO_84.out) (Kd.R_base ho64) hb); have n2_ := Aside0.mk (Kd.R_elder' (by (with_reducible repeat (first | apply Kd.R_alloc | apply Kd.R_drewN | apply Kd.R_drew)); exact HO_601000.out) (Kd.R_base ho64) hb); have n3_ := Aside0.mk (Kd.R_below (by (with_reducible repeat (first | apply Kd.R_alloc | apply Kd.R_drewN | apply Kd.R_drew)); exact HO_601001.out) hb); have n4_ := Aside0.mk (Kd.R_lower (Kd.R_new' (Kd.R_new' (Kd.R_new' ho64 (Kd.R_lt (by (with_reducible repeat (first | apply Kd.R_alloc | apply Kd.R_drewN | apply Kd.R_drew)); exact HO_17.out))) (Kd.R_lt (by (with_reducible repeat (first | apply Kd.R_alloc | apply Kd.R_drewN | apply Kd.R_drew)); exact HO_84.out))) (Kd.R_lt (by (with_reducible repeat (first | apply Kd.R_alloc | apply Kd.R_drewN | apply Kd.R_drew)); exact HO_601000.out))) (below_size (by repeat (first | (with_reducible first | exact HB.out | apply below_alloc | apply pw_below_drewN | apply below_drew1 | refine below_set ?_ GE600.out) | exact HB.out)))); have n5_ := Aside0.mk (blk_below (g := gb600) (o := .cells #[u601000, u601001] 25 (0, 0)) (by (with_reducible repeat (first | refine blk_drewN ?_ _ | refine blk_drew ?_ | refine blk_alloc ?_ _)); exact BK600.out) hb); have n6_ := Aside0.mk (below_step (by repeat (first | (with_reducible first | exact HB.out | apply below_alloc | apply pw_below_drewN | apply below_drew1 | refine below_set ?_ GE600.out) | exact HB.out)) hb); clear HO_17; clear HO_84; clear HO_601000; clear HO_601001; clear BK600; clear HB; have HO_17 := n0_; have HO_84 := n1_; have HO_601000 := n2_; have HO_601001 := n3_; have HO641 := n4_; have BK600 := n5_; have HB := n6_; clear n0_ n1_ n2_ n3_ n4_ n5_ n6_; clear hb ho64; obtain ⟨Ao65, co65, eo65⟩ := Kd.R_slice HO_601000.out; subst eo65; obtain ⟨Ao66, co66, eo66⟩ := Kd.R_slice HO_601001.out; subst eo66; obtain ⟨Ao67, co67, eo67⟩ := Kd.R_slice HO641.out; subst eo67) | ((with_reducible refine gate_callee (f := 37) rfl ?_); refine goesL_ (some 103) rfl rfl Try.func37 (by kernel_rfl) rfl #[.agg #[.slice Ao65 x601000_49.length co65, .slice Ao66 x601001_49.length co66], .int .i64 (wrap64 (2 + (wrap64 (Int.tmod a0 2147483645)))), .int .i64 x14_3, .slice Ao67 y639.length co67] rfl (by (try simp only [List.map_toArray, List.map_cons, List.map_nil]); first | done | rfl | (simp only [List.length_drop, List.length_take]; rfl)) ?_; (with_reducible refine (journal_Append.calls kj49 (fun k_ => some k_ = (.slice Ao65 x601000_49.length co65 : Value).ownBlock) (.slice Ao65 x601000_49.length co65) x601000_49 (fun k_ => some k_ = (.slice Ao66 x601001_49.length co66 : Value).ownBlock) (.slice Ao66 x601001_49.length co66) x601001_49 (wrap64 (2 + (wrap64 (Int.tmod a0 2147483645)))) x14_3 _ _ y639 t642 t645 t648 t649 w _ ?side1 ?side2 ?side3 ?side4 ?side5 A60.out).mono ?_); (case side1 => repeat (first | (with_reducible first | exact HB.out | apply below_alloc | apply pw_below_drewN | apply below_drew1 | refine below_set ?_ GE600.out) | exact HB.out)); (case side2 => exact Kd.R_tight rfl HO_601000.out); (case side3 => exact Kd.R_tight rfl HO_601001.out); (case side4 => exact Kd.C_kept_own ((Kd.R_apart' HO641.out (Kd.R_typed HO_601001.out) (by decide))) (fun k_ hk_ hs_ => Or.elim hs_ (fun e_ => (hk_.1.2) e_) (fun e_ => (hk_.2) e_))); (case side5 => exact (Kd.R_reads' HO641.out).2.1); rintro e w68 ⟨v643, v646, rfl, ho0, ho1, hb, hkp⟩; refine ⟨_, rfl, ?_⟩; have n0_ := Aside0.mk (Kd.R_mono (ok' := fun k_ => some k_ ≠ (.slice Ao67 y639.length co67 : Value).ownBlock ∧ some k_ ≠ (v643 : Value).ownBlock) (Kd.R_keptB ((Kd.R_apart' HO_17.out (Kd.R_typed HO_601001.out) (by decide))) hkp (fun k_ hk_ hs_ => Or.elim hs_ (fun e_ => (hk_.1.1) e_) (fun e_ => (hk_.2) e_))) (fun k_ hk_ => ⟨hk_.1.1.2, fun e_ => Or.elim (ho0.1 k_ e_.symm) (fun hs_ => hk_.2.1 hs_) (fun hn_ => Nat.not_le.2 hk_.2.2 hn_)⟩)); have n1_ := Aside0.mk (Kd.R_mono (ok' := fun k_ => some k_ ≠ (.slice Ao67 y639.length co67 : Value).ownBlock ∧ some k_ ≠ (v643 : Value).ownBlock) (Kd.R_keptB ((Kd.R_apart' HO_84.out (Kd.R_typed HO_601001.out) (by decide))) hkp (fun k_ hk_ hs_ => Or.elim hs_ (fun e_ => (hk_.1.1) e_) (fun e_ => (hk_.2) e_))) (fun k_ hk_ => ⟨hk_.1.1.2, fun e_ => Or.elim (ho0.1 k_ e_.symm) (fun hs_ => hk_.2.1 hs_) (fun hn_ => Nat.not_le.2 hk_.2.2 hn_)⟩)); have n2_ := Aside0.mk (blk_kept (by (with_reducible repeat (first | refine blk_drewN ?_ _ | refine blk_drew ?_ | refine blk_alloc ?_ _)); exact BK600.out) hkp (fun hs_ => Or.elim hs_ (fun e_ => (fun e_ => (Kd.R_ne HO_601000.out BK600.out (by decide)) e_) e_) (fun e_ => (fun e_ => (Kd.R_ne HO_601001.out BK600.out (by decide)) e_) e_))); have n3_ := Aside0.mk (Kd.R_mono (ok' := fun k_ => some k_ ≠ (.slice (some ad632) y629.length co46 : Value).ownBlock ∧ some k_ ≠ (.slice (some ad632) y629.length co46 : Value).ownBlock ∧ some k_ ≠ (v643 : Value).ownBlock) (Kd.R_keptB ((Kd.R_apart' HO641.out (Kd.R_typed HO_601001.out) (by decide))) hkp (fun k_ hk_ hs_ => Or.elim hs_ (fun e_ => (hk_.1.2) e_) (fun e_ => (hk_.2) e_))) (fun k_ hk_ => ⟨hk_.1.1.1.1.2, hk_.1.1.1.2, fun e_ => Or.elim (ho0.1 k_ e_.symm) (fun hs_ => hk_.2.1 hs_) (fun hn_ => Nat.not_le.2 hk_.2.2 hn_)⟩)); have n4_ := Aside0.mk (Kd.R_mono (ok' := fun k_ => some k_ ≠ (.slice (some ad632) y629.length co46 : Value).ownBlock ∧ some k_ ≠ (.slice (some ad632) y629.length co46 : Value).ownBlock ∧ some k_ ≠ (.slice Ao67 y639.length co67 : Value).ownBlock) ho0 (fun k_ hk_ => ⟨Or.elim hk_ (fun hs_ => Or.elim hs_ (fun hs_ => fun e_ => ((((Kd.R_apart' HO_17.out (Kd.R_typed HO_601001.out) (by decide))).1 k_ e_.symm).1.1) hs_) (fun hs_ => fun e_ => ((((Kd.R_apart' HO_17.out (Kd.R_typed HO_601001.out) (by decide))).1 k_ e_.symm).2) hs_)) (fun hn_ => (Kd.fresh' (Kd.R_lt (by (with_reducible repeat (first | apply Kd.R_alloc | apply Kd.R_drewN | apply Kd.R_drew)); exact HO_17.out)) k_ hn_)), Or.elim hk_ (fun hs_ => Or.elim hs_ (fun hs_ => fun e_ => ((((Kd.R_apart' HO_84.out (Kd.R_typed HO_601001.out) (by decide))).1 k_ e_.symm).1.1) hs_) (fun hs_ => fun e_ => ((((Kd.R_apart' HO_84.out (Kd.R_typed HO_601001.out) (by decide))).1 k_ e_.symm).2) hs_)) (fun hn_ => (Kd.fresh' (Kd.R_lt (by (with_reducible repeat (first | apply Kd.R_alloc | apply Kd.R_drewN | apply Kd.R_drew)); exact HO_84.out)) k_ hn_)), Or.elim hk_ (fun hs_ => Or.elim hs_ (fun hs_ => fun e_ => ((((Kd.R_apart' HO641.out (Kd.R_typed HO_601001.out) (by decide))).1 k_ e_.symm).1.2) hs_) (fun hs_ => fun e_ => ((((Kd.R_apart' HO641.out (Kd.R_typed HO_601001.out) (by decide))).1 k_ e_.symm).2) hs_)) (fun hn_ => (Kd.fresh' (Kd.R_lt (by (with_reducible repeat (first | apply Kd.R_alloc | apply Kd.R_drewN | apply Kd.R_drew)); exact HO641.out)) k_ hn_))⟩)); have n5_ := Aside0.mk (Kd.R_mono (ok' := fun k_ => True) ho1 (fun k_ hk_ => trivial)); have n6_ := Aside0.mk (hb); clear HO_17; clear HO_84; clear BK600; clear HO641; clear HB; clear HO_601000; clear HO_601001; have HO_17 := n0_; have HO_84 := n1_; have BK600 := n2_; have HO641 := n3_; have HO644 := n4_; have HO647 := n5_; have HB := n6_; clear n0_ n1_ n2_ n3_ n4_ n5_ n6_; (try clear hb); (try clear hkp); (try clear ho0); (try clear ho1)) | ((with_reducible refine gate_dst (N := 20) rfl ?_); (try (refine gate_guard (by rfl) ?_; dsimp only)); refine box_event ?hg (N := 20) ?hd (cs := #[.slice none 0 0, .slice none 0 0]) (t := 25) ?hr ?_; (case hd => rfl); (case hg => rfl); (case hr => first | (go_simp; done) | (go_simp; rfl)); intro gb650 hg w69 hbox hb; have n0_ := Aside0.mk (Kd.R_below (by (with_reducible repeat (first | apply Kd.R_alloc | apply Kd.R_drewN | apply Kd.R_drew)); exact HO_17.out) hb); have n1_ := Aside0.mk (Kd.R_below (by (with_reducible repeat (first | apply Kd.R_alloc | apply Kd.R_drewN | apply Kd.R_drew)); exact HO_84.out) hb); have n2_ := Aside0.mk (Kd.R_below (by (with_reducible repeat (first | apply Kd.R_alloc | apply Kd.R_drewN | apply Kd.R_drew)); exact HO641.out) hb); have n3_ := Aside0.mk (Kd.R_below (by (with_reducible repeat (first | apply Kd.R_alloc | apply Kd.R_drewN | apply Kd.R_drew)); exact HO644.out) hb); have n4_ := Aside0.mk (Kd.R_below (by (with_reducible repeat (first | apply Kd.R_alloc | apply Kd.R_drewN | apply Kd.R_drew)); exact HO647.out) hb); have n5_ := Aside0.mk (blk_below (g := gb600) (o := .cells #[.slice Ao65 x601000_49.length co65, .slice Ao66 x601001_49.length co66] 25 (0, 0)) (by (with_reducible repeat (first | refine blk_drewN ?_ _ | refine blk_drew ?_ | refine blk_alloc ?_ _)); exact BK600.out) hb); have n6_ := Aside0.mk (below_step (by repeat (first | (with_reducible first | exact HB.out | apply below_alloc | apply pw_below_drewN | apply below_drew1 | refine below_set ?_ GE600.out) | exact HB.out)) hb); have n7_ := Aside0.mk (hbox); have n8_ := Aside0.mk ((by rw [hg]; exact (below_size (by repeat (first | (with_reducible first | exact HB.out | apply below_alloc | apply pw_below_drewN | apply below_drew1 | refine below_set ?_ GE600.out) | exact HB.out))) : w.heap.size ≤ gb650)); have n9_ := Aside0.mk ((by rw [hg]; exact (below_size (by repeat (first | (with_reducible first | exact HB.out | apply below_alloc | apply pw_below_drewN | apply below_drew1 | refine below_set ?_ GE600.out) | exact HB.out))) : w.heap.size ≤ gb650)); have n10_ := Aside0.mk ((by rw [hg]; exact Nat.ne_of_lt (blk_lt (g := gb600) (o := .cells #[.slice Ao65 x601000_49.length co65, .slice Ao66 x601001_49.length co66] 25 (0, 0)) (by (with_reducible repeat (first | refine blk_drewN ?_ _ | refine blk_drew ?_ | refine blk_alloc ?_ _)); exact BK600.out)) : gb600 ≠ gb650)); have n11_ := Aside0.mk ((by rw [hg]; exact Nat.ne_of_gt (blk_lt (g := gb600) (o := .cells #[.slice Ao65 x601000_49.length co65, .slice Ao66 x601001_49.length co66] 25 (0, 0)) (by (with_reducible repeat (first | refine blk_drewN ?_ _ | refine blk_drew ?_ | refine blk_alloc ?_ _)); exact BK600.out)) : gb650 ≠ gb600)); clear HO_17; clear HO_84; clear HO641; clear HO644; clear HO647; clear BK600; clear HB; have HO_17 := n0_; have HO_84 := n1_; have HO641 := n2_; have HO644 := n3_; have HO647 := n4_; have BK600 := n5_; have HB := n6_; have BK650 := n7_; have GW650 := n8_; have GE650 := n9_; have NB600_650 := n10_; have NB650_600 := n11_; clear n0_ n1_ n2_ n3_ n4_ n5_ n6_ n7_ n8_ n9_ n10_ n11_; clear hb hbox hg; obtain ⟨Ao70, co70, eo70⟩ := Kd.R_slice HO644.out; subst eo70; have hnb71 := NB650_600.out; have hnc71 := NB600_650.out; have hcz72_0 : w69.cell? ⟨gb650, 0, none⟩ = some (.slice none 0 0) := (blk_cell BK650.out 0).trans rfl; have hcz72_1 : w69.cell? ⟨gb650, 1, none⟩ = some (.slice none 0 0) := (blk_cell BK650.out 1).trans rfl; have hfz72_0 := blk_frozen BK650.out 0; have hfz72_1 := blk_frozen BK650.out 1; obtain ⟨Ao73, co73, eo73⟩ := Kd.R_slice HO647.out; subst eo73; have hcz74_0 : w69.cell? ⟨gb600, 0, none⟩ = some (.slice Ao65 x601000_49.length co65) := (blk_cell BK600.out 0).trans rfl; have hcz74_1 : w69.cell? ⟨gb600, 1, none⟩ = some (.slice Ao66 x601001_49.length co66) := (blk_cell BK600.out 1).trans rfl; have hfz74_0 := blk_frozen BK600.out 0; have hfz74_1 := blk_frozen BK600.out 1))
                                        go_roundg kj49
                                        case measure => have := HJ5.out; have := HK2.out; have := HK3.out; have := HJ49.out; omega
                                        case rel => exact ⟨(t648), (wrap64 (x86_3 + 1)), (t642), (t645), (.slice Ao70 t642.length co70), (.slice Ao73 t645.length co73), (by first | rfl | (simp; done) | (simp [*]; done)), (by first | rfl | (simp; done) | (simp [*]; done)), H', ⟨by have := HJ5.out; have := HK2.out; have := HK3.out; have := HJ49.out; omega⟩, ⟨by (with_reducible repeat (first | apply Kd.R_alloc | apply Kd.R_drewN | apply Kd.R_drew)); exact Kd.R_mono (Kd.R_far (p := ⟨gb600, 1, none⟩) (Kd.R_far (p := ⟨gb600, 0, none⟩) (Kd.R_far (p := ⟨gb650, 1, none⟩) (Kd.R_far (p := ⟨gb650, 0, none⟩) (Kd.R_types (Kd.R_types HO_17.out BK650.out (by decide)) BK600.out (by decide)) (fun _ hk => hk.1.2) (.slice Ao70 t642.length co70)) (fun _ hk => hk.1.2) (.slice Ao73 t645.length co73)) (fun _ hk => hk.2) (.slice Ao70 t642.length co70)) (fun _ hk => hk.2) (.slice Ao73 t645.length co73)) (fun _ hk => hk.1.1.2)⟩, ⟨by (with_reducible repeat (first | apply Kd.R_alloc | apply Kd.R_drewN | apply Kd.R_drew)); exact Kd.R_mono (Kd.R_far (p := ⟨gb600, 1, none⟩) (Kd.R_far (p := ⟨gb600, 0, none⟩) (Kd.R_far (p := ⟨gb650, 1, none⟩) (Kd.R_far (p := ⟨gb650, 0, none⟩) (Kd.R_types (Kd.R_types HO_84.out BK650.out (by decide)) BK600.out (by decide)) (fun _ hk => hk.1.2) (.slice Ao70 t642.length co70)) (fun _ hk => hk.1.2) (.slice Ao73 t645.length co73)) (fun _ hk => hk.2) (.slice Ao70 t642.length co70)) (fun _ hk => hk.2) (.slice Ao73 t645.length co73)) (fun _ hk => hk.1.1.2)⟩, ⟨by (with_reducible repeat (first | apply Kd.R_alloc | apply Kd.R_drewN | apply Kd.R_drew)); exact Kd.R_mono (Kd.R_far (p := ⟨gb600, 1, none⟩) (Kd.R_far (p := ⟨gb600, 0, none⟩) (Kd.R_far (p := ⟨gb650, 1, none⟩) (Kd.R_far (p := ⟨gb650, 0, none⟩) (Kd.R_types (Kd.R_types HO644.out BK650.out (by decide)) BK600.out (by decide)) (fun _ hk => hk.1.2) (.slice Ao70 t642.length co70)) (fun _ hk => hk.1.2) (.slice Ao73 t645.length co73)) (fun _ hk => hk.2) (.slice Ao70 t642.length co70)) (fun _ hk => hk.2) (.slice Ao73 t645.length co73)) (fun _ hk => ⟨hk.1.1.1, hk.1.1.2.1⟩)⟩, ⟨by (with_reducible repeat (first | apply Kd.R_alloc | apply Kd.R_drewN | apply Kd.R_drew)); exact Kd.R_mono (Kd.R_far (p := ⟨gb600, 1, none⟩) (Kd.R_far (p := ⟨gb600, 0, none⟩) (Kd.R_far (p := ⟨gb650, 1, none⟩) (Kd.R_far (p := ⟨gb650, 0, none⟩) (Kd.R_types (Kd.R_types HO647.out BK650.out (by decide)) BK600.out (by decide)) (fun _ hk => hk.1.2) (.slice Ao70 t642.length co70)) (fun _ hk => hk.1.2) (.slice Ao73 t645.length co73)) (fun _ hk => hk.2) (.slice Ao70 t642.length co70)) (fun _ hk => hk.2) (.slice Ao73 t645.length co73)) (fun _ hk => trivial)⟩, ⟨by (with_reducible repeat (first | refine blk_drewN ?_ _ | refine blk_drew ?_ | refine blk_alloc ?_ _)); refine blk_put (cs := #[.slice Ao70 t642.length co70, .slice Ao66 x601001_49.length co66]) ?_ 1 _ rfl; (with_reducible repeat (first | refine blk_drewN ?_ _ | refine blk_drew ?_ | refine blk_alloc ?_ _)); refine blk_put (cs := #[.slice Ao65 x601000_49.length co65, .slice Ao66 x601001_49.length co66]) ?_ 0 _ rfl; (with_reducible repeat (first | refine blk_drewN ?_ _ | refine blk_drew ?_ | refine blk_alloc ?_ _)); refine blk_far ?_ NB600_650.out _; (with_reducible repeat (first | refine blk_drewN ?_ _ | refine blk_drew ?_ | refine blk_alloc ?_ _)); refine blk_far ?_ NB600_650.out _; (with_reducible repeat (first | refine blk_drewN ?_ _ | refine blk_drew ?_ | refine blk_alloc ?_ _)); exact BK600.out⟩, ⟨by repeat (first | (with_reducible first | exact HB.out | apply below_alloc | apply pw_below_drewN | apply below_drew1 | refine below_set ?_ GE600.out | refine below_set ?_ GE650.out) | exact HB.out)⟩⟩
                                      · rw [if_neg c61] at H
                                        have c61b0 : (t649 == 0) = false := beq_eq_false_iff_ne.mpr c61
                                        have c61b1 : (t649 != 0) = true := bne_iff_ne.mpr c61
                                        by_cases c75 : t649 = 6
                                        · rw [if_pos c75] at H
                                          have c75b0 : (t649 == 6) = true := beq_iff_eq.mpr c75
                                          have c75b1 : (t649 != 6) = false := bne_eq_false_iff_eq.mpr c75
                                          clear c75
                                          replace H := Option.bind_eq_some_iff.mp H
                                          obtain ⟨t651, A760, H⟩ := H
                                          replace H : (some t651) = some true := H
                                          have A76 := Aside0.mk A760
                                          clear A760
                                          (have H9_ := Option.some.inj H; first | subst H9_ | (have h9_ := Aside0.mk H9_; clear H9_))
                                          have hcz77_0 : wc.cell? ⟨gb600, 0, none⟩ = some (u601000) := (blk_cell BK600.out 0).trans rfl
                                          have hcz77_1 : wc.cell? ⟨gb600, 1, none⟩ = some (u601001) := (blk_cell BK600.out 1).trans rfl
                                          have hfz77_0 := blk_frozen BK600.out 0
                                          have hfz77_1 := blk_frozen BK600.out 1
                                          go_wp2_with (first | ((with_reducible refine gate_dst (N := 102) rfl ?_); (try (refine gate_guard (by rfl) ?_; dsimp only)); refine Kd.R_lit Kd.string _ 9 ?hg (N := 102) ?hd (xs := ([(rdOf ByteArray.empty y629 x86_3)] : List ByteArray)) (inner := [.string (rdOf ByteArray.empty y629 x86_3)]) (ok := fun _ => True) (okp := fun _ => True) ?hr ?hp (fun _ hk => hk) trivial (Below.refl _ _) (Nat.le_refl _) (by simp) ?_; (case hd => rfl); (case hg => rfl); (case hr => first | (go_simp; done) | (go_simp; rfl)); (case hp => exact (Reps.one (show Kd.M Kd.string _ _ _ (rdOf ByteArray.empty y629 x86_3) [.string (rdOf ByteArray.empty y629 x86_3)] from rfl) (Reps.none _ _))); intro v640 w78 ho79 hb hg_ hnew_; clear hg_ hnew_; (first | rw [← Ny639.out] at ho79 | (simp only [Int.reduceToNat] at ho79; rw [← Ny639.out] at ho79)); have n0_ := Aside0.mk (Kd.R_elder' (by (with_reducible repeat (first | apply Kd.R_alloc | apply Kd.R_drewN | apply Kd.R_drew)); exact HO_17.out) (Kd.R_base ho79) hb); have n1_ := Aside0.mk (Kd.R_elder' (by (with_reducible repeat (first | apply Kd.R_alloc | apply Kd.R_drewN | apply Kd.R_drew)); exact HO_84.out) (Kd.R_base ho79) hb); have n2_ := Aside0.mk (Kd.R_elder' (by (with_reducible repeat (first | apply Kd.R_alloc | apply Kd.R_drewN | apply Kd.R_drew)); exact HO_601000.out) (Kd.R_base ho79) hb); have n3_ := Aside0.mk (Kd.R_below (by (with_reducible repeat (first | apply Kd.R_alloc | apply Kd.R_drewN | apply Kd.R_drew)); exact HO_601001.out) hb); have n4_ := Aside0.mk (Kd.R_lower (Kd.R_new' (Kd.R_new' (Kd.R_new' ho79 (Kd.R_lt (by (with_reducible repeat (first | apply Kd.R_alloc | apply Kd.R_drewN | apply Kd.R_drew)); exact HO_17.out))) (Kd.R_lt (by (with_reducible repeat (first | apply Kd.R_alloc | apply Kd.R_drewN | apply Kd.R_drew)); exact HO_84.out))) (Kd.R_lt (by (with_reducible repeat (first | apply Kd.R_alloc | apply Kd.R_drewN | apply Kd.R_drew)); exact HO_601000.out))) (below_size (by repeat (first | (with_reducible first | exact HB.out | apply below_alloc | apply pw_below_drewN | apply below_drew1 | refine below_set ?_ GE600.out) | exact HB.out)))); have n5_ := Aside0.mk (blk_below (g := gb600) (o := .cells #[u601000, u601001] 25 (0, 0)) (by (with_reducible repeat (first | refine blk_drewN ?_ _ | refine blk_drew ?_ | refine blk_alloc ?_ _)); exact BK600.out) hb); have n6_ := Aside0.mk (below_step (by repeat (first | (with_reducible first | exact HB.out | apply below_alloc | apply pw_below_drewN | apply below_drew1 | refine below_set ?_ GE600.out) | exact HB.out)) hb); clear HO_17; clear HO_84; clear HO_601000; clear HO_601001; clear BK600; clear HB; have HO_17 := n0_; have HO_84 := n1_; have HO_601000 := n2_; have HO_601001 := n3_; have HO641 := n4_; have BK600 := n5_; have HB := n6_; clear n0_ n1_ n2_ n3_ n4_ n5_ n6_; clear hb ho79; obtain ⟨Ao80, co80, eo80⟩ := Kd.R_slice HO_601000.out; subst eo80; obtain ⟨Ao81, co81, eo81⟩ := Kd.R_slice HO_601001.out; subst eo81; obtain ⟨Ao82, co82, eo82⟩ := Kd.R_slice HO641.out; subst eo82) | ((with_reducible refine gate_callee (f := 37) rfl ?_); refine goesL_ (some 103) rfl rfl Try.func37 (by kernel_rfl) rfl #[.agg #[.slice Ao80 x601000_49.length co80, .slice Ao81 x601001_49.length co81], .int .i64 (wrap64 (2 + (wrap64 (Int.tmod a0 2147483645)))), .int .i64 x14_3, .slice Ao82 y639.length co82] rfl (by (try simp only [List.map_toArray, List.map_cons, List.map_nil]); first | done | rfl | (simp only [List.length_drop, List.length_take]; rfl)) ?_; (with_reducible refine (journal_Append.calls kj49 (fun k_ => some k_ = (.slice Ao80 x601000_49.length co80 : Value).ownBlock) (.slice Ao80 x601000_49.length co80) x601000_49 (fun k_ => some k_ = (.slice Ao81 x601001_49.length co81 : Value).ownBlock) (.slice Ao81 x601001_49.length co81) x601001_49 (wrap64 (2 + (wrap64 (Int.tmod a0 2147483645)))) x14_3 _ _ y639 t642 t645 t648 t649 w _ ?side1 ?side2 ?side3 ?side4 ?side5 A60.out).mono ?_); (case side1 => repeat (first | (with_reducible first | exact HB.out | apply below_alloc | apply pw_below_drewN | apply below_drew1 | refine below_set ?_ GE600.out) | exact HB.out)); (case side2 => exact Kd.R_tight rfl HO_601000.out); (case side3 => exact Kd.R_tight rfl HO_601001.out); (case side4 => exact Kd.C_kept_own ((Kd.R_apart' HO641.out (Kd.R_typed HO_601001.out) (by decide))) (fun k_ hk_ hs_ => Or.elim hs_ (fun e_ => (hk_.1.2) e_) (fun e_ => (hk_.2) e_))); (case side5 => exact (Kd.R_reads' HO641.out).2.1); rintro e w83 ⟨v643, v646, rfl, ho0, ho1, hb, hkp⟩; refine ⟨_, rfl, ?_⟩; have n0_ := Aside0.mk (Kd.R_mono (ok' := fun k_ => some k_ ≠ (.slice Ao82 y639.length co82 : Value).ownBlock ∧ some k_ ≠ (v643 : Value).ownBlock) (Kd.R_keptB ((Kd.R_apart' HO_17.out (Kd.R_typed HO_601001.out) (by decide))) hkp (fun k_ hk_ hs_ => Or.elim hs_ (fun e_ => (hk_.1.1) e_) (fun e_ => (hk_.2) e_))) (fun k_ hk_ => ⟨hk_.1.1.2, fun e_ => Or.elim (ho0.1 k_ e_.symm) (fun hs_ => hk_.2.1 hs_) (fun hn_ => Nat.not_le.2 hk_.2.2 hn_)⟩)); have n1_ := Aside0.mk (Kd.R_mono (ok' := fun k_ => some k_ ≠ (.slice Ao82 y639.length co82 : Value).ownBlock ∧ some k_ ≠ (v643 : Value).ownBlock) (Kd.R_keptB ((Kd.R_apart' HO_84.out (Kd.R_typed HO_601001.out) (by decide))) hkp (fun k_ hk_ hs_ => Or.elim hs_ (fun e_ => (hk_.1.1) e_) (fun e_ => (hk_.2) e_))) (fun k_ hk_ => ⟨hk_.1.1.2, fun e_ => Or.elim (ho0.1 k_ e_.symm) (fun hs_ => hk_.2.1 hs_) (fun hn_ => Nat.not_le.2 hk_.2.2 hn_)⟩)); have n2_ := Aside0.mk (blk_kept (by (with_reducible repeat (first | refine blk_drewN ?_ _ | refine blk_drew ?_ | refine blk_alloc ?_ _)); exact BK600.out) hkp (fun hs_ => Or.elim hs_ (fun e_ => (fun e_ => (Kd.R_ne HO_601000.out BK600.out (by decide)) e_) e_) (fun e_ => (fun e_ => (Kd.R_ne HO_601001.out BK600.out (by decide)) e_) e_))); have n3_ := Aside0.mk (Kd.R_mono (ok' := fun k_ => some k_ ≠ (.slice (some ad632) y629.length co46 : Value).ownBlock ∧ some k_ ≠ (.slice (some ad632) y629.length co46 : Value).ownBlock ∧ some k_ ≠ (v643 : Value).ownBlock) (Kd.R_keptB ((Kd.R_apart' HO641.out (Kd.R_typed HO_601001.out) (by decide))) hkp (fun k_ hk_ hs_ => Or.elim hs_ (fun e_ => (hk_.1.2) e_) (fun e_ => (hk_.2) e_))) (fun k_ hk_ => ⟨hk_.1.1.1.1.2, hk_.1.1.1.2, fun e_ => Or.elim (ho0.1 k_ e_.symm) (fun hs_ => hk_.2.1 hs_) (fun hn_ => Nat.not_le.2 hk_.2.2 hn_)⟩)); have n4_ := Aside0.mk (Kd.R_mono (ok' := fun k_ => some k_ ≠ (.slice (some ad632) y629.length co46 : Value).ownBlock ∧ some k_ ≠ (.slice (some ad632) y629.length co46 : Value).ownBlock ∧ some k_ ≠ (.slice Ao82 y639.length co82 : Value).ownBlock) ho0 (fun k_ hk_ => ⟨Or.elim hk_ (fun hs_ => Or.elim hs_ (fun hs_ => fun e_ => ((((Kd.R_apart' HO_17.out (Kd.R_typed HO_601001.out) (by decide))).1 k_ e_.symm).1.1) hs_) (fun hs_ => fun e_ => ((((Kd.R_apart' HO_17.out (Kd.R_typed HO_601001.out) (by decide))).1 k_ e_.symm).2) hs_)) (fun hn_ => (Kd.fresh' (Kd.R_lt (by (with_reducible repeat (first | apply Kd.R_alloc | apply Kd.R_drewN | apply Kd.R_drew)); exact HO_17.out)) k_ hn_)), Or.elim hk_ (fun hs_ => Or.elim hs_ (fun hs_ => fun e_ => ((((Kd.R_apart' HO_84.out (Kd.R_typed HO_601001.out) (by decide))).1 k_ e_.symm).1.1) hs_) (fun hs_ => fun e_ => ((((Kd.R_apart' HO_84.out (Kd.R_typed HO_601001.out) (by decide))).1 k_ e_.symm).2) hs_)) (fun hn_ => (Kd.fresh' (Kd.R_lt (by (with_reducible repeat (first | apply Kd.R_alloc | apply Kd.R_drewN | apply Kd.R_drew)); exact HO_84.out)) k_ hn_)), Or.elim hk_ (fun hs_ => Or.elim hs_ (fun hs_ => fun e_ => ((((Kd.R_apart' HO641.out (Kd.R_typed HO_601001.out) (by decide))).1 k_ e_.symm).1.2) hs_) (fun hs_ => fun e_ => ((((Kd.R_apart' HO641.out (Kd.R_typed HO_601001.out) (by decide))).1 k_ e_.symm).2) hs_)) (fun hn_ => (Kd.fresh' (Kd.R_lt (by (with_reducible repeat (first | apply Kd.R_alloc | apply Kd.R_drewN | apply Kd.R_drew)); exact HO641.out)) k_ hn_))⟩)); have n5_ := Aside0.mk (Kd.R_mono (ok' := fun k_ => True) ho1 (fun k_ hk_ => trivial)); have n6_ := Aside0.mk (hb); clear HO_17; clear HO_84; clear BK600; clear HO641; clear HB; clear HO_601000; clear HO_601001; have HO_17 := n0_; have HO_84 := n1_; have BK600 := n2_; have HO641 := n3_; have HO644 := n4_; have HO647 := n5_; have HB := n6_; clear n0_ n1_ n2_ n3_ n4_ n5_ n6_; (try clear hb); (try clear hkp); (try clear ho0); (try clear ho1)) | ((with_reducible refine gate_dst (N := 20) rfl ?_); (try (refine gate_guard (by rfl) ?_; dsimp only)); refine box_event ?hg (N := 20) ?hd (cs := #[.slice none 0 0, .slice none 0 0]) (t := 25) ?hr ?_; (case hd => rfl); (case hg => rfl); (case hr => first | (go_simp; done) | (go_simp; rfl)); intro gb650 hg w84 hbox hb; have n0_ := Aside0.mk (Kd.R_below (by (with_reducible repeat (first | apply Kd.R_alloc | apply Kd.R_drewN | apply Kd.R_drew)); exact HO_17.out) hb); have n1_ := Aside0.mk (Kd.R_below (by (with_reducible repeat (first | apply Kd.R_alloc | apply Kd.R_drewN | apply Kd.R_drew)); exact HO_84.out) hb); have n2_ := Aside0.mk (Kd.R_below (by (with_reducible repeat (first | apply Kd.R_alloc | apply Kd.R_drewN | apply Kd.R_drew)); exact HO641.out) hb); have n3_ := Aside0.mk (Kd.R_below (by (with_reducible repeat (first | apply Kd.R_alloc | apply Kd.R_drewN | apply Kd.R_drew)); exact HO644.out) hb); have n4_ := Aside0.mk (Kd.R_below (by (with_reducible repeat (first | apply Kd.R_alloc | apply Kd.R_drewN | apply Kd.R_drew)); exact HO647.out) hb); have n5_ := Aside0.mk (blk_below (g := gb600) (o := .cells #[.slice Ao80 x601000_49.length co80, .slice Ao81 x601001_49.length co81] 25 (0, 0)) (by (with_reducible repeat (first | refine blk_drewN ?_ _ | refine blk_drew ?_ | refine blk_alloc ?_ _)); exact BK600.out) hb); have n6_ := Aside0.mk (below_step (by repeat (first | (with_reducible first | exact HB.out | apply below_alloc | apply pw_below_drewN | apply below_drew1 | refine below_set ?_ GE600.out) | exact HB.out)) hb); have n7_ := Aside0.mk (hbox); have n8_ := Aside0.mk ((by rw [hg]; exact (below_size (by repeat (first | (with_reducible first | exact HB.out | apply below_alloc | apply pw_below_drewN | apply below_drew1 | refine below_set ?_ GE600.out) | exact HB.out))) : w.heap.size ≤ gb650)); have n9_ := Aside0.mk ((by rw [hg]; exact (below_size (by repeat (first | (with_reducible first | exact HB.out | apply below_alloc | apply pw_below_drewN | apply below_drew1 | refine below_set ?_ GE600.out) | exact HB.out))) : w.heap.size ≤ gb650)); have n10_ := Aside0.mk ((by rw [hg]; exact Nat.ne_of_lt (blk_lt (g := gb600) (o := .cells #[.slice Ao80 x601000_49.length co80, .slice Ao81 x601001_49.length co81] 25 (0, 0)) (by (with_reducible repeat (first | refine blk_drewN ?_ _ | refine blk_drew ?_ | refine blk_alloc ?_ _)); exact BK600.out)) : gb600 ≠ gb650)); have n11_ := Aside0.mk ((by rw [hg]; exact Nat.ne_of_gt (blk_lt (g := gb600) (o := .cells #[.slice Ao80 x601000_49.length co80, .slice Ao81 x601001_49.length co81] 25 (0, 0)) (by (with_reducible repeat (first | refine blk_drewN ?_ _ | refine blk_drew ?_ | refine blk_alloc ?_ _)); exact BK600.out)) : gb650 ≠ gb600)); clear HO_17; clear HO_84; clear HO641; clear HO644; clear HO647; clear BK600; clear HB; have HO_17 := n0_; have HO_84 := n1_; have HO641 := n2_; have HO644 := n3_; have HO647 := n4_; have BK600 := n5_; have HB := n6_; have BK650 := n7_; have GW650 := n8_; have GE650 := n9_; have NB600_650 := n10_; have NB650_600 := n11_; clear n0_ n1_ n2_ n3_ n4_ n5_ n6_ n7_ n8_ n9_ n10_ n11_; clear hb hbox hg; obtain ⟨Ao85, co85, eo85⟩ := Kd.R_slice HO644.out; subst eo85; have hnb86 := NB650_600.out; have hnc86 := NB600_650.out; have hcz87_0 : w84.cell? ⟨gb650, 0, none⟩ = some (.slice none 0 0) := (blk_cell BK650.out 0).trans rfl; have hcz87_1 : w84.cell? ⟨gb650, 1, none⟩ = some (.slice none 0 0) := (blk_cell BK650.out 1).trans rfl; have hfz87_0 := blk_frozen BK650.out 0; have hfz87_1 := blk_frozen BK650.out 1; obtain ⟨Ao88, co88, eo88⟩ := Kd.R_slice HO647.out; subst eo88) | (go_at_call 27; (with_reducible refine (weirkeeperlaw08_awake.calls kj49 _ A76.out).mono ?_); rintro e w89 ⟨rfl, hb⟩; have n0_ := Aside0.mk (Kd.R_below (by (with_reducible repeat (first | apply Kd.R_alloc | apply Kd.R_drewN | apply Kd.R_drew)); exact (Kd.R_mono (Kd.R_far (p := ⟨gb650, 1, none⟩) (Kd.R_far (p := ⟨gb650, 0, none⟩) (Kd.R_types HO_17.out BK650.out (by decide)) (fun _ hk => hk.2) (.slice Ao85 t642.length co85)) (fun _ hk => hk.2) (.slice Ao88 t645.length co88)) (fun _ h_ => h_.1))) hb); have n1_ := Aside0.mk (Kd.R_below (by (with_reducible repeat (first | apply Kd.R_alloc | apply Kd.R_drewN | apply Kd.R_drew)); exact (Kd.R_mono (Kd.R_far (p := ⟨gb650, 1, none⟩) (Kd.R_far (p := ⟨gb650, 0, none⟩) (Kd.R_types HO_84.out BK650.out (by decide)) (fun _ hk => hk.2) (.slice Ao85 t642.length co85)) (fun _ hk => hk.2) (.slice Ao88 t645.length co88)) (fun _ h_ => h_.1))) hb); have n2_ := Aside0.mk (Kd.R_below (by (with_reducible repeat (first | apply Kd.R_alloc | apply Kd.R_drewN | apply Kd.R_drew)); exact (Kd.R_mono (Kd.R_far (p := ⟨gb650, 1, none⟩) (Kd.R_far (p := ⟨gb650, 0, none⟩) (Kd.R_types HO641.out BK650.out (by decide)) (fun _ hk => hk.2) (.slice Ao85 t642.length co85)) (fun _ hk => hk.2) (.slice Ao88 t645.length co88)) (fun _ h_ => h_.1))) hb); have n3_ := Aside0.mk (Kd.R_below (by (with_reducible repeat (first | apply Kd.R_alloc | apply Kd.R_drewN | apply Kd.R_drew)); exact (Kd.R_mono (Kd.R_far (p := ⟨gb650, 1, none⟩) (Kd.R_far (p := ⟨gb650, 0, none⟩) (Kd.R_types HO644.out BK650.out (by decide)) (fun _ hk => hk.2) (.slice Ao85 t642.length co85)) (fun _ hk => hk.2) (.slice Ao88 t645.length co88)) (fun _ h_ => h_.1))) hb); have n4_ := Aside0.mk (Kd.R_below (by (with_reducible repeat (first | apply Kd.R_alloc | apply Kd.R_drewN | apply Kd.R_drew)); exact (Kd.R_mono (Kd.R_far (p := ⟨gb650, 1, none⟩) (Kd.R_far (p := ⟨gb650, 0, none⟩) (Kd.R_types HO647.out BK650.out (by decide)) (fun _ hk => hk.2) (.slice Ao85 t642.length co85)) (fun _ hk => hk.2) (.slice Ao88 t645.length co88)) (fun _ h_ => h_.1))) hb); have n5_ := Aside0.mk (blk_below (g := gb600) (o := .cells #[.slice Ao80 x601000_49.length co80, .slice Ao81 x601001_49.length co81] 25 (0, 0)) (by (with_reducible repeat (first | refine blk_drewN ?_ _ | refine blk_drew ?_ | refine blk_alloc ?_ _)); refine blk_far ?_ NB600_650.out _; (with_reducible repeat (first | refine blk_drewN ?_ _ | refine blk_drew ?_ | refine blk_alloc ?_ _)); refine blk_far ?_ NB600_650.out _; (with_reducible repeat (first | refine blk_drewN ?_ _ | refine blk_drew ?_ | refine blk_alloc ?_ _)); exact BK600.out) hb); have n6_ := Aside0.mk (blk_below (g := gb650) (o := .cells #[.slice Ao85 t642.length co85, .slice Ao88 t645.length co88] 25 (0, 0)) (by (with_reducible repeat (first | refine blk_drewN ?_ _ | refine blk_drew ?_ | refine blk_alloc ?_ _)); refine blk_put (cs := #[.slice Ao85 t642.length co85, .slice none 0 0]) ?_ 1 _ rfl; (with_reducible repeat (first | refine blk_drewN ?_ _ | refine blk_drew ?_ | refine blk_alloc ?_ _)); refine blk_put (cs := #[.slice none 0 0, .slice none 0 0]) ?_ 0 _ rfl; (with_reducible repeat (first | refine blk_drewN ?_ _ | refine blk_drew ?_ | refine blk_alloc ?_ _)); exact BK650.out) hb); have n7_ := Aside0.mk (below_step (by repeat (first | (with_reducible first | exact HB.out | apply below_alloc | apply pw_below_drewN | apply below_drew1 | refine below_set ?_ GE600.out | refine below_set ?_ GE650.out) | exact HB.out)) hb); clear HO_17; clear HO_84; clear HO641; clear HO644; clear HO647; clear BK600; clear BK650; clear HB; have HO_17 := n0_; have HO_84 := n1_; have HO641 := n2_; have HO644 := n3_; have HO647 := n4_; have BK600 := n5_; have BK650 := n6_; have HB := n7_; clear n0_ n1_ n2_ n3_ n4_ n5_ n6_ n7_; (try clear hb); (try clear hb2); (try clear hk); (try clear hi)))
                                          go_ret
                                          exact ⟨by first | rfl | (simp only [h9_.out]; done) | (have h8_ := h9_.out; simp [h8_]; done) | (simp [errW_none, errW_some] <;> rfl) | (simp [*, errW_none, errW_some] <;> rfl), by repeat (first | (with_reducible first | exact HB.out | apply below_alloc | apply pw_below_drewN | apply below_drew1 | refine below_set ?_ GE600.out | refine below_set ?_ GE650.out) | exact HB.out)⟩
                                        · rw [if_neg c75] at H
                                          have c75b0 : (t649 == 6) = false := beq_eq_false_iff_ne.mpr c75
                                          have c75b1 : (t649 != 6) = true := bne_iff_ne.mpr c75
                                          exact absurd H (by simp)
                                · rw [if_neg c49] at H
                                  exact absurd H (by simp)
                              · rw [if_neg c48] at H
                                exact absurd H (by simp)
                            · rw [if_neg c47] at H
                              have c47b0 : decide (x86_3 < (y629.length : Int)) = false := decide_eq_false c47
                              clear c47
                              have HC90 := Aside0.mk H
                              clear H
                              go_upto_if 119 with (fail)
                              go_cut [] (fun wc => ∃ (kq : Nat) (x601000_89 : List ByteArray) (x601001_89 : List (S76)) (u601000 : Value) (u601001 : Value), Aside0 (weirkeeperlaw08_JournalCrashes.j4 kq l2 l4 (wrap64 (2 + (wrap64 (Int.tmod a0 2147483645)))) y629 x601000_89 x601001_89 = some true) ∧ Aside0 (kq ≤ k3) ∧ Aside0 (Kd.R Kd.string 9 wc w.heap.size (fun k_ => some k_ ≠ (u601000 : Value).ownBlock) (.slice Ao46 y629.length co46) y629) ∧ Aside0 (Kd.R Kd.string 9 wc w.heap.size (fun k_ => some k_ ≠ ((.slice Ao46 y629.length co46) : Value).ownBlock) u601000 x601000_89) ∧ Aside0 (Kd.R k76 76 wc w.heap.size (fun _ => True) u601001 x601001_89) ∧ Aside0 (wc.heap[gb600]? = some (.cells #[u601000, u601001] 25 (0, 0))) ∧ Aside0 (Below w.heap.size w wc))
                              case first =>
                                have H := HC90.out
                                clear HC90
                                by_cases c91 : (l3.length : Int) = 0
                                · rw [if_pos c91] at H
                                  have c91b0 : ((l3.length : Int) == 0) = true := beq_iff_eq.mpr c91
                                  have c91b1 : ((l3.length : Int) != 0) = false := bne_eq_false_iff_eq.mpr c91
                                  clear c91
                                  (first | rw [c91b0] | (simp only [i64_w, i32_w]; rw [c91b0]) | skip)
                                  replace H := Option.bind_eq_some_iff.mp H
                                  obtain ⟨⟨t652, t655⟩, A920, H⟩ := H
                                  replace H : (weirkeeperlaw08_JournalCrashes.j4 k3 l2 l4 (wrap64 (2 + (wrap64 (Int.tmod a0 2147483645)))) y629 t652 t655) = some true := H
                                  have A92 := Aside0.mk A920
                                  clear A920
                                  have H' := Aside0.mk H
                                  clear H
                                  have hcz93_0 : wr.cell? ⟨gb600, 0, none⟩ = some (u601000) := (blk_cell BK600.out 0).trans rfl
                                  have hcz93_1 : wr.cell? ⟨gb600, 1, none⟩ = some (u601001) := (blk_cell BK600.out 1).trans rfl
                                  have hfz93_0 := blk_frozen BK600.out 0
                                  have hfz93_1 := blk_frozen BK600.out 1
                                  obtain ⟨Ao94, co94, eo94⟩ := Kd.R_slice HO_601000.out
                                  subst eo94
                                  obtain ⟨Ao95, co95, eo95⟩ := Kd.R_slice HO_601001.out
                                  subst eo95
                                  go_wp2_with (first | ((with_reducible refine gate_callee (f := 22) rfl ?_); refine goesL_ (some 121) rfl rfl Try.func22 (by kernel_rfl) rfl #[.agg #[.slice Ao94 x601000_3.length co94, .slice Ao95 x601001_3.length co95]] rfl (by (try simp only [List.map_toArray, List.map_cons, List.map_nil]); first | done | rfl | (simp only [List.length_drop, List.length_take]; rfl)) ?_; (with_reducible refine (disk_Flush.calls _ _ x601000_3 _ _ x601001_3 t652 t655 _ ?side1 ?side2 ?side3 ?side4 A92.out).mono ?_); (case side1 => repeat (first | exact (Kd.R_reads' HO_601000.out).2.2 | (with_reducible refine Kd.C_alloc ?_ _) | (with_reducible refine Kd.C_drewN ?_ _) | (with_reducible refine Kd.C_drew ?_))); (case side2 => exact (Kd.R_reads' HO_601000.out).2.1); (case side3 => repeat (first | exact (Kd.R_reads' HO_601001.out).2.2 | (with_reducible refine Kd.C_alloc ?_ _) | (with_reducible refine Kd.C_drewN ?_ _) | (with_reducible refine Kd.C_drew ?_))); (case side4 => exact (Kd.R_reads' HO_601001.out).2.1); rintro e w96 ⟨v653, v656, rfl, ho0, ho1, hb⟩; refine ⟨_, rfl, ?_⟩; have n0_ := Aside0.mk (Kd.R_elder' (by (with_reducible repeat (first | apply Kd.R_alloc | apply Kd.R_drewN | apply Kd.R_drew)); exact HO_17.out) (Kd.R_base ho0) hb); have n1_ := Aside0.mk (Kd.R_elder' (by (with_reducible repeat (first | apply Kd.R_alloc | apply Kd.R_drewN | apply Kd.R_drew)); exact HO_84.out) (Kd.R_base ho0) hb); have n2_ := Aside0.mk (Kd.R_elder' (by (with_reducible repeat (first | apply Kd.R_alloc | apply Kd.R_drewN | apply Kd.R_drew)); exact HO_601000.out) (Kd.R_base ho0) hb); have n3_ := Aside0.mk (Kd.R_elder' (by (with_reducible repeat (first | apply Kd.R_alloc | apply Kd.R_drewN | apply Kd.R_drew)); exact HO_601001.out) (Kd.R_base ho1) hb); have n4_ := Aside0.mk (Kd.R_lower (Kd.R_new' (Kd.R_new' (Kd.R_new' ho0 (Kd.R_lt (by (with_reducible repeat (first | apply Kd.R_alloc | apply Kd.R_drewN | apply Kd.R_drew)); exact HO_17.out))) (Kd.R_lt (by (with_reducible repeat (first | apply Kd.R_alloc | apply Kd.R_drewN | apply Kd.R_drew)); exact HO_84.out))) (Kd.R_lt (by (with_reducible repeat (first | apply Kd.R_alloc | apply Kd.R_drewN | apply Kd.R_drew)); exact HO_601000.out))) (below_size (by repeat (first | (with_reducible first | exact HB.out | apply below_alloc | apply pw_below_drewN | apply below_drew1 | refine below_set ?_ GE600.out) | exact HB.out)))); have n5_ := Aside0.mk (Kd.R_lower (Kd.R_new' ho1 (Kd.R_lt (by (with_reducible repeat (first | apply Kd.R_alloc | apply Kd.R_drewN | apply Kd.R_drew)); exact HO_601001.out))) (below_size (by repeat (first | (with_reducible first | exact HB.out | apply below_alloc | apply pw_below_drewN | apply below_drew1 | refine below_set ?_ GE600.out) | exact HB.out)))); have n6_ := Aside0.mk (blk_below (g := gb600) (o := .cells #[.slice Ao94 x601000_3.length co94, .slice Ao95 x601001_3.length co95] 25 (0, 0)) (by (with_reducible repeat (first | refine blk_drewN ?_ _ | refine blk_drew ?_ | refine blk_alloc ?_ _)); exact BK600.out) hb); have n7_ := Aside0.mk (below_step (by repeat (first | (with_reducible first | exact HB.out | apply below_alloc | apply pw_below_drewN | apply below_drew1 | refine below_set ?_ GE600.out) | exact HB.out)) hb); clear HO_17; clear HO_84; clear HO_601000; clear HO_601001; clear BK600; clear HB; have HO_17 := n0_; have HO_84 := n1_; have HO_601000 := n2_; have HO_601001 := n3_; have HO654 := n4_; have HO657 := n5_; have BK600 := n6_; have HB := n7_; clear n0_ n1_ n2_ n3_ n4_ n5_ n6_ n7_; (try clear hb); (try clear hb2); (try clear hk); (try clear hi); (try clear ho0); (try clear ho1); obtain ⟨Ao97, co97, eo97⟩ := Kd.R_slice HO654.out; subst eo97; have hcz98_0 : w96.cell? ⟨gb600, 0, none⟩ = some (.slice Ao94 x601000_3.length co94) := (blk_cell BK600.out 0).trans rfl; have hcz98_1 : w96.cell? ⟨gb600, 1, none⟩ = some (.slice Ao95 x601001_3.length co95) := (blk_cell BK600.out 1).trans rfl; have hfz98_0 := blk_frozen BK600.out 0; have hfz98_1 := blk_frozen BK600.out 1; obtain ⟨Ao99, co99, eo99⟩ := Kd.R_slice HO657.out; subst eo99))
                                  go_meet
                                  case rel => exact ⟨_, (t652), (t655), (.slice Ao97 t652.length co97), (.slice Ao99 t655.length co99), H', ⟨by have := HJ5.out; have := HK2.out; have := HK3.out; first | omega | exact Nat.le_refl _⟩, ⟨by (with_reducible repeat (first | apply Kd.R_alloc | apply Kd.R_drewN | apply Kd.R_drew)); exact Kd.R_mono (Kd.R_far (p := ⟨gb600, 1, none⟩) (Kd.R_far (p := ⟨gb600, 0, none⟩) (Kd.R_types HO_17.out BK600.out (by decide)) (fun _ hk => hk.2) (.slice Ao97 t652.length co97)) (fun _ hk => hk.2) (.slice Ao99 t655.length co99)) (fun _ hk => hk.1.2)⟩, ⟨by (with_reducible repeat (first | apply Kd.R_alloc | apply Kd.R_drewN | apply Kd.R_drew)); exact Kd.R_mono (Kd.R_far (p := ⟨gb600, 1, none⟩) (Kd.R_far (p := ⟨gb600, 0, none⟩) (Kd.R_types HO654.out BK600.out (by decide)) (fun _ hk => hk.2) (.slice Ao97 t652.length co97)) (fun _ hk => hk.2) (.slice Ao99 t655.length co99)) (fun _ hk => hk.1.1.1.2)⟩, ⟨by (with_reducible repeat (first | apply Kd.R_alloc | apply Kd.R_drewN | apply Kd.R_drew)); exact Kd.R_mono (Kd.R_far (p := ⟨gb600, 1, none⟩) (Kd.R_far (p := ⟨gb600, 0, none⟩) (Kd.R_types HO657.out BK600.out (by decide)) (fun _ hk => hk.2) (.slice Ao97 t652.length co97)) (fun _ hk => hk.2) (.slice Ao99 t655.length co99)) (fun _ hk => trivial)⟩, ⟨by (with_reducible repeat (first | refine blk_drewN ?_ _ | refine blk_drew ?_ | refine blk_alloc ?_ _)); refine blk_put (cs := #[.slice Ao97 t652.length co97, .slice Ao95 x601001_3.length co95]) ?_ 1 _ rfl; (with_reducible repeat (first | refine blk_drewN ?_ _ | refine blk_drew ?_ | refine blk_alloc ?_ _)); refine blk_put (cs := #[.slice Ao94 x601000_3.length co94, .slice Ao95 x601001_3.length co95]) ?_ 0 _ rfl; (with_reducible repeat (first | refine blk_drewN ?_ _ | refine blk_drew ?_ | refine blk_alloc ?_ _)); exact BK600.out⟩, ⟨by repeat (first | (with_reducible first | exact HB.out | apply below_alloc | apply pw_below_drewN | apply below_drew1 | refine below_set ?_ GE600.out) | exact HB.out)⟩⟩
                                · rw [if_neg c91] at H
                                  have c91b0 : ((l3.length : Int) == 0) = false := beq_eq_false_iff_ne.mpr c91
                                  have c91b1 : ((l3.length : Int) != 0) = true := bne_iff_ne.mpr c91
                                  have c91b2 : ¬ (l3 = []) := fun h_ => c91 (by rw [h_]; rfl)
                                  (first | rw [c91b0] | (simp only [i64_w, i32_w]; rw [c91b0]) | skip)
                                  have H' := Aside0.mk H
                                  clear H
                                  go_wp2
                                  go_meet
                                  case rel => exact ⟨_, (x601000_3), (x601001_3), (u601000), (u601001), H', ⟨by have := HJ5.out; have := HK2.out; have := HK3.out; first | omega | exact Nat.le_refl _⟩, ⟨by (with_reducible repeat (first | apply Kd.R_alloc | apply Kd.R_drewN | apply Kd.R_drew)); exact HO_17.out⟩, ⟨by (with_reducible repeat (first | apply Kd.R_alloc | apply Kd.R_drewN | apply Kd.R_drew)); exact Kd.R_mono HO_601000.out (fun _ hk => hk.1)⟩, ⟨by (with_reducible repeat (first | apply Kd.R_alloc | apply Kd.R_drewN | apply Kd.R_drew)); exact HO_601001.out⟩, ⟨by (with_reducible repeat (first | refine blk_drewN ?_ _ | refine blk_drew ?_ | refine blk_alloc ?_ _)); exact BK600.out⟩, ⟨by repeat (first | (with_reducible first | exact HB.out | apply below_alloc | apply pw_below_drewN | apply below_drew1 | refine below_set ?_ GE600.out) | exact HB.out)⟩⟩
                              case rest =>
                                clear HC90
                                try clear c1
                                try clear c2
                                try clear p2
                                try clear c3
                                try clear c4
                                try clear c5
                                try clear c6
                                try clear p6
                                try clear q6
                                try clear hx6
                                try clear c7
                                try clear c7b0
                                try clear c7b1
                                try clear c8
                                try clear c8b0
                                try clear c8b1
                                try clear c9
                                try clear c9b0
                                try clear c9b1
                                try clear c10
                                try clear c14
                                try clear c15
                                try clear c16
                                try clear c22
                                try clear c24
                                try clear c27
                                try clear c28
                                try clear c28b0
                                try clear c29
                                try clear c29b0
                                try clear c30
                                try clear c30b0
                                try clear c31
                                try clear c31b0
                                try clear c31b1
                                try clear c35
                                try clear c36
                                try clear c37
                                try clear c47
                                try clear c47b0
                                try clear c48
                                try clear c48b0
                                try clear c49
                                try clear c49b0
                                try clear c51
                                try clear c51b0
                                try clear c51b1
                                try clear c61
                                try clear c61b0
                                try clear c61b1
                                try clear p61
                                try clear q61
                                try clear hx61
                                try clear p63
                                try clear q63
                                try clear hx63
                                try clear p64
                                try clear c71
                                try clear c75
                                try clear c75b0
                                try clear c75b1
                                try clear c86
                                try clear c91
                                try clear c91b0
                                try clear c91b1
                                try clear c91b2
                                try clear hcz20_0
                                try clear hcz20_1
                                try clear hcz37_0
                                try clear hcz37_1
                                try clear hcz40_0
                                try clear hcz40_1
                                try clear hcz53_0
                                try clear hcz53_1
                                try clear hcz58_0
                                try clear hcz58_1
                                try clear hcz62_0
                                try clear hcz62_1
                                try clear hcz72_0
                                try clear hcz72_1
                                try clear hcz74_0
                                try clear hcz74_1
                                try clear hcz77_0
                                try clear hcz77_1
                                try clear hcz87_0
                                try clear hcz87_1
                                try clear hcz93_0
                                try clear hcz93_1
                                try clear hcz98_0
                                try clear hcz98_1
                                try clear hfz20_0
                                try clear hfz20_1
                                try clear hfz37_0
                                try clear hfz37_1
                                try clear hfz40_0
                                try clear hfz40_1
                                try clear hfz53_0
                                try clear hfz53_1
                                try clear hfz58_0
                                try clear hfz58_1
                                try clear hfz62_0
                                try clear hfz62_1
                                try clear hfz72_0
                                try clear hfz72_1
                                try clear hfz74_0
                                try clear hfz74_1
                                try clear hfz77_0
                                try clear hfz77_1
                                try clear hfz87_0
                                try clear hfz87_1
                                try clear hfz93_0
                                try clear hfz93_1
                                try clear hfz98_0
                                try clear hfz98_1
                                try clear hx613_0
                                try clear hx632_0
                                try clear p2
                                try clear p6
                                try clear p613
                                try clear p632
                                try clear q6
                                try clear q613
                                try clear q632
                                obtain ⟨kq, x601000_89, x601001_89, u601000, u601001, HA, HJ89, HO_17, HO_601000, HO_601001, BK600, HB⟩ := hcut
                                cases kq with
                                | zero => exact absurd HA.out (by simp [weirkeeperlaw08_JournalCrashes.j4])
                                | succ kj89 =>
                                  have H := HA.out
                                  clear HA
                                  simp only [weirkeeperlaw08_JournalCrashes.j4] at H
                                  replace H := Option.bind_eq_some_iff.mp H
                                  obtain ⟨⟨t658, t661⟩, A1000, H⟩ := H
                                  replace H : ((journal_Texts.f kj89 t658 t661 (wrap64 (2 + (wrap64 (Int.tmod a0 2147483645))))).bind fun bt664 => (if bt664.2.2 = 0 then (if (bt664.1.length : Int) ≥ (l2.length : Int) then (if (bt664.1.length : Int) ≤ (y629.length : Int) then (if 0 ≤ (bt664.1.length : Int) then ((weirkeeperref01_Same.f kj89 bt664.1 (y629.take ((bt664.1.length : Int) : Int).toNat)).bind fun t673 => (if t673 = true then ((weirkeeperlaw08_awake.f kj89).bind fun t674 => (some t674)) else (some false))) else (none)) else (some false)) else (some false)) else (some false))) = some true := H
                                  have A100 := Aside0.mk A1000
                                  clear A1000
                                  replace H := Option.bind_eq_some_iff.mp H
                                  obtain ⟨⟨t664, t667, t668⟩, A1010, H⟩ := H
                                  replace H : (if t668 = 0 then (if (t664.length : Int) ≥ (l2.length : Int) then (if (t664.length : Int) ≤ (y629.length : Int) then (if 0 ≤ (t664.length : Int) then ((weirkeeperref01_Same.f kj89 t664 (y629.take ((t664.length : Int) : Int).toNat)).bind fun t673 => (if t673 = true then ((weirkeeperlaw08_awake.f kj89).bind fun t674 => (some t674)) else (some false))) else (none)) else (some false)) else (some false)) else (some false)) = some true := H
                                  have A101 := Aside0.mk A1010
                                  clear A1010
                                  by_cases c102 : t668 = 0
                                  · rw [if_pos c102] at H
                                    have c102b0 : (t668 == 0) = true := beq_iff_eq.mpr c102
                                    have c102b1 : (t668 != 0) = false := bne_eq_false_iff_eq.mpr c102
                                    clear c102
                                    by_cases c103 : (t664.length : Int) ≥ (l2.length : Int)
                                    · rw [if_pos c103] at H
                                      have c103b0 : decide ((l2.length : Int) ≤ (t664.length : Int)) = true := decide_eq_true c103
                                      have c103b1 : decide (l2.length ≤ t664.length) = true := decide_eq_true (Int.ofNat_le.mp c103)
                                      clear c103
                                      by_cases c104 : (t664.length : Int) ≤ (y629.length : Int)
                                      · rw [if_pos c104] at H
                                        have c104b0 : decide ((t664.length : Int) ≤ (y629.length : Int)) = true := decide_eq_true c104
                                        have c104b1 : decide (t664.length ≤ y629.length) = true := decide_eq_true (Int.ofNat_le.mp c104)
                                        clear c104
                                        by_cases c105 : 0 ≤ (t664.length : Int)
                                        · rw [if_pos c105] at H
                                          have c105b0 := eq_true c105
                                          have c105b1 : decide (0 ≤ (t664.length : Int)) = true := decide_eq_true c105
                                          clear c105
                                          have c106b0 := eq_true (of_decide_eq_true (by first | (with_reducible assumption) | assumption) : (t664.length : Int) ≤ (y629.length : Int))
                                          obtain ⟨y669, hy669⟩ : ∃ y_ : List ByteArray, y_ = (y629.take ((t664.length : Int) : Int).toNat) := ⟨_, rfl⟩
                                          replace H : ((weirkeeperref01_Same.f kj89 t664 y669).bind fun t673 => (if t673 = true then ((weirkeeperlaw08_awake.f kj89).bind fun t674 => (some t674)) else (some false))) = some true := by first | (rw [hy669]; with_reducible exact H) | (have H2_ := (Option.bind_some _ _).symm.trans H; rw [hy669]; with_reducible exact H2_) | (have H2_ := (Option.bind_some _ _).symm.trans H; with_reducible exact H2_) | with_reducible exact H | (rw [hy669]; exact H) | exact H
                                          have Ny669 := Aside0.mk hy669
                                          clear hy669
                                          replace H := Option.bind_eq_some_iff.mp H
                                          obtain ⟨t673, A1070, H⟩ := H
                                          replace H : (if t673 = true then ((weirkeeperlaw08_awake.f kj89).bind fun t674 => (some t674)) else (some false)) = some true := H
                                          have A107 := Aside0.mk A1070
                                          clear A1070
                                          by_cases c108 : t673 = true
                                          · subst c108
                                            have H1 : ((weirkeeperlaw08_awake.f kj89).bind fun t674 => (some t674)) = some true := by rw [if_pos rfl] at H; exact H
                                            clear H
                                            have H := H1
                                            clear H1
                                            replace H := Option.bind_eq_some_iff.mp H
                                            obtain ⟨t674, A1090, H⟩ := H
                                            replace H : (some t674) = some true := H
                                            have A109 := Aside0.mk A1090
                                            clear A1090
                                            (have H9_ := Option.some.inj H; first | subst H9_ | (have h9_ := Aside0.mk H9_; clear H9_))
                                            have hcz110_0 : wc.cell? ⟨gb600, 0, none⟩ = some (u601000) := (blk_cell BK600.out 0).trans rfl
                                            have hcz110_1 : wc.cell? ⟨gb600, 1, none⟩ = some (u601001) := (blk_cell BK600.out 1).trans rfl
                                            have hfz110_0 := blk_frozen BK600.out 0
                                            have hfz110_1 := blk_frozen BK600.out 1
                                            obtain ⟨Ao111, co111, eo111⟩ := Kd.R_slice HO_601000.out
                                            subst eo111
                                            obtain ⟨Ao112, co112, eo112⟩ := Kd.R_slice HO_601001.out
                                            subst eo112
                                            go_wp2_with (first | ((with_reducible refine gate_callee (f := 39) rfl ?_); refine goesL_ (some 125) rfl rfl Try.func39 (by kernel_rfl) rfl #[.agg #[.slice Ao111 x601000_89.length co111, .slice Ao112 x601001_89.length co112], .slice A4 l4.length c4] rfl (by (try simp only [List.map_toArray, List.map_cons, List.map_nil]); first | done | rfl | (simp only [List.length_drop, List.length_take]; rfl)) ?_; (with_reducible refine (disk_Crash.calls _ _ x601000_89 _ _ x601001_89 _ _ l4 t658 t661 _ ?side1 ?side2 ?side3 ?side4 ?side5 ?side6 A100.out).mono ?_); (case side1 => repeat (first | exact (Kd.R_reads' HO_601000.out).2.2 | (with_reducible refine Kd.C_alloc ?_ _) | (with_reducible refine Kd.C_drewN ?_ _) | (with_reducible refine Kd.C_drew ?_))); (case side2 => exact (Kd.R_reads' HO_601000.out).2.1); (case side3 => repeat (first | exact (Kd.R_reads' HO_601001.out).2.2 | (with_reducible refine Kd.C_alloc ?_ _) | (with_reducible refine Kd.C_drewN ?_ _) | (with_reducible refine Kd.C_drew ?_))); (case side4 => exact (Kd.R_reads' HO_601001.out).2.1); (case side5 => repeat (first | exact (Kd.C_below HR4.out HB.out) | (with_reducible refine Kd.C_alloc ?_ _) | (with_reducible refine Kd.C_drewN ?_ _) | (with_reducible refine Kd.C_drew ?_))); (case side6 => exact HC4.out); rintro e w113 ⟨v659, v662, rfl, ho0, ho1, hb⟩; refine ⟨_, rfl, ?_⟩; have n0_ := Aside0.mk (Kd.R_elder' (by (with_reducible repeat (first | apply Kd.R_alloc | apply Kd.R_drewN | apply Kd.R_drew)); exact HO_17.out) (Kd.R_base ho0) hb); have n1_ := Aside0.mk (Kd.R_elder' (by (with_reducible repeat (first | apply Kd.R_alloc | apply Kd.R_drewN | apply Kd.R_drew)); exact HO_601000.out) (Kd.R_base ho0) hb); have n2_ := Aside0.mk (Kd.R_elder' (by (with_reducible repeat (first | apply Kd.R_alloc | apply Kd.R_drewN | apply Kd.R_drew)); exact HO_601001.out) (Kd.R_base ho1) hb); have n3_ := Aside0.mk (Kd.R_lower (Kd.R_new' (Kd.R_new' ho0 (Kd.R_lt (by (with_reducible repeat (first | apply Kd.R_alloc | apply Kd.R_drewN | apply Kd.R_drew)); exact HO_17.out))) (Kd.R_lt (by (with_reducible repeat (first | apply Kd.R_alloc | apply Kd.R_drewN | apply Kd.R_drew)); exact HO_601000.out))) (below_size (by repeat (first | (with_reducible first | exact HB.out | apply below_alloc | apply pw_below_drewN | apply below_drew1 | refine below_set ?_ GE600.out) | exact HB.out)))); have n4_ := Aside0.mk (Kd.R_lower (Kd.R_new' ho1 (Kd.R_lt (by (with_reducible repeat (first | apply Kd.R_alloc | apply Kd.R_drewN | apply Kd.R_drew)); exact HO_601001.out))) (below_size (by repeat (first | (with_reducible first | exact HB.out | apply below_alloc | apply pw_below_drewN | apply below_drew1 | refine below_set ?_ GE600.out) | exact HB.out)))); have n5_ := Aside0.mk (blk_below (g := gb600) (o := .cells #[.slice Ao111 x601000_89.length co111, .slice Ao112 x601001_89.length co112] 25 (0, 0)) (by (with_reducible repeat (first | refine blk_drewN ?_ _ | refine blk_drew ?_ | refine blk_alloc ?_ _)); exact BK600.out) hb); have n6_ := Aside0.mk (below_step (by repeat (first | (with_reducible first | exact HB.out | apply below_alloc | apply pw_below_drewN | apply below_drew1 | refine below_set ?_ GE600.out) | exact HB.out)) hb); clear HO_17; clear HO_601000; clear HO_601001; clear BK600; clear HB; have HO_17 := n0_; have HO_601000 := n1_; have HO_601001 := n2_; have HO660 := n3_; have HO663 := n4_; have BK600 := n5_; have HB := n6_; clear n0_ n1_ n2_ n3_ n4_ n5_ n6_; (try clear hb); (try clear hb2); (try clear hk); (try clear hi); (try clear ho0); (try clear ho1); obtain ⟨Ao114, co114, eo114⟩ := Kd.R_slice HO660.out; subst eo114; obtain ⟨Ao115, co115, eo115⟩ := Kd.R_slice HO663.out; subst eo115) | ((with_reducible refine gate_callee (f := 35) rfl ?_); refine goesL_ (some 127) rfl rfl Try.func35 (by kernel_rfl) rfl #[.agg #[.slice Ao114 t658.length co114, .slice Ao115 t661.length co115], .int .i64 (wrap64 (2 + (wrap64 (Int.tmod a0 2147483645))))] rfl (by (try simp only [List.map_toArray, List.map_cons, List.map_nil]); first | done | rfl | (simp only [List.length_drop, List.length_take]; rfl)) ?_; (with_reducible refine (journal_Texts.calls kj89 _ _ t658 _ _ t661 (wrap64 (2 + (wrap64 (Int.tmod a0 2147483645)))) t664 t667 t668 _ ?side1 ?side2 ?side3 ?side4 A101.out).mono ?_); (case side1 => repeat (first | exact (Kd.R_reads' HO660.out).2.2 | (with_reducible refine Kd.C_alloc ?_ _) | (with_reducible refine Kd.C_drewN ?_ _) | (with_reducible refine Kd.C_drew ?_))); (case side2 => exact (Kd.R_reads' HO660.out).2.1); (case side3 => repeat (first | exact (Kd.R_reads' HO663.out).2.2 | (with_reducible refine Kd.C_alloc ?_ _) | (with_reducible refine Kd.C_drewN ?_ _) | (with_reducible refine Kd.C_drew ?_))); (case side4 => exact (Kd.R_reads' HO663.out).2.1); rintro e w116 ⟨v665, rfl, ho0, hb⟩; refine ⟨_, rfl, ?_⟩; have n0_ := Aside0.mk (Kd.R_elder' (by (with_reducible repeat (first | apply Kd.R_alloc | apply Kd.R_drewN | apply Kd.R_drew)); exact HO_17.out) (Kd.R_base ho0) hb); have n1_ := Aside0.mk (Kd.R_elder' (by (with_reducible repeat (first | apply Kd.R_alloc | apply Kd.R_drewN | apply Kd.R_drew)); exact HO_601000.out) (Kd.R_base ho0) hb); have n2_ := Aside0.mk (Kd.R_below (by (with_reducible repeat (first | apply Kd.R_alloc | apply Kd.R_drewN | apply Kd.R_drew)); exact HO_601001.out) hb); have n3_ := Aside0.mk (Kd.R_elder' (by (with_reducible repeat (first | apply Kd.R_alloc | apply Kd.R_drewN | apply Kd.R_drew)); exact HO660.out) (Kd.R_base ho0) hb); have n4_ := Aside0.mk (Kd.R_below (by (with_reducible repeat (first | apply Kd.R_alloc | apply Kd.R_drewN | apply Kd.R_drew)); exact HO663.out) hb); have n5_ := Aside0.mk (Kd.R_lower (Kd.R_new' (Kd.R_new' (Kd.R_new' ho0 (Kd.R_lt (by (with_reducible repeat (first | apply Kd.R_alloc | apply Kd.R_drewN | apply Kd.R_drew)); exact HO_17.out))) (Kd.R_lt (by (with_reducible repeat (first | apply Kd.R_alloc | apply Kd.R_drewN | apply Kd.R_drew)); exact HO_601000.out))) (Kd.R_lt (by (with_reducible repeat (first | apply Kd.R_alloc | apply Kd.R_drewN | apply Kd.R_drew)); exact HO660.out))) (below_size (by repeat (first | (with_reducible first | exact HB.out | apply below_alloc | apply pw_below_drewN | apply below_drew1 | refine below_set ?_ GE600.out) | exact HB.out)))); have n6_ := Aside0.mk (blk_below (g := gb600) (o := .cells #[.slice Ao111 x601000_89.length co111, .slice Ao112 x601001_89.length co112] 25 (0, 0)) (by (with_reducible repeat (first | refine blk_drewN ?_ _ | refine blk_drew ?_ | refine blk_alloc ?_ _)); exact BK600.out) hb); have n7_ := Aside0.mk (below_step (by repeat (first | (with_reducible first | exact HB.out | apply below_alloc | apply pw_below_drewN | apply below_drew1 | refine below_set ?_ GE600.out) | exact HB.out)) hb); clear HO_17; clear HO_601000; clear HO_601001; clear HO660; clear HO663; clear BK600; clear HB; have HO_17 := n0_; have HO_601000 := n1_; have HO_601001 := n2_; have HO660 := n3_; have HO663 := n4_; have HO666 := n5_; have BK600 := n6_; have HB := n7_; clear n0_ n1_ n2_ n3_ n4_ n5_ n6_ n7_; (try clear hb); (try clear hb2); (try clear hk); (try clear hi); (try clear ho0); obtain ⟨Ao117, co117, eo117⟩ := Kd.R_slice HO666.out; subst eo117; have q118 : ((t664.length : Int) : Int) ≤ ((y629.length : Int) : Int) := of_decide_eq_true (by first | (with_reducible assumption) | assumption); obtain ⟨i0118, hi0118, _, hsz118, _⟩ := info_parts info9; have hroom118 : y629.length ≤ co46 := (Kd.R_reads' HO_17.out).2.1; have hC118 : Kd.C Kd.string _ Ao46 y629.length y629 := (Kd.R_reads' HO_17.out).2.2; have hcut118 := cut_to (P := Try.prog) 22 9 .i64 Try.underlying22 hi0118 Ao46 y629.length co46 (t664.length : Int) (of_decide_eq_true (by first | (with_reducible assumption) | assumption)) q118 hroom118; have hr118 := Kd.C_take (m := ((t664.length : Int) : Int).toNat) hC118 (by omega); have hy118 : y669.length = ((t664.length : Int) : Int).toNat := (by rw [Ny669.out, List.length_take]; omega); rw [← Ny669.out] at hr118; rw [← hy118] at hcut118; have HR672 := Aside0.mk hr118; have HC672 := Aside0.mk (show y669.length ≤ co46 from by omega); clear hr118 hC118 hroom118 hi0118 hsz118; have KY118 := Aside0.mk hy118; clear hy118; have KL118 := Aside0.mk (show ((t664.length : Int) : Int).toNat ≤ y629.length from by omega); replace q118 := eq_true q118) | (go_at_call 32; (with_reducible refine (weirkeeperref01_Same.calls kj89 _ _ t664 _ _ y669 true _ ?side1 ?side2 ?side3 ?side4 A107.out).mono ?_); (case side1 => repeat (first | exact (Kd.R_reads' HO666.out).2.2 | (with_reducible refine Kd.C_alloc ?_ _) | (with_reducible refine Kd.C_drewN ?_ _) | (with_reducible refine Kd.C_drew ?_))); (case side2 => exact (Kd.R_reads' HO666.out).2.1); (case side3 => repeat (first | exact (by repeat (first | (with_reducible exact HR672.out) | (with_reducible refine Kd.C_alloc ?_ _) | (with_reducible refine Kd.C_drewN ?_ _) | (with_reducible refine Kd.C_drew ?_) | exact HR672.out)) | (with_reducible refine Kd.C_alloc ?_ _) | (with_reducible refine Kd.C_drewN ?_ _) | (with_reducible refine Kd.C_drew ?_))); (case side4 => exact HC672.out); rintro e w' ⟨rfl, ⟨nd, rfl⟩⟩) | (go_at_call 27; (with_reducible refine (weirkeeperlaw08_awake.calls kj89 _ A109.out).mono ?_); rintro e w119 ⟨rfl, hb⟩; have n0_ := Aside0.mk (Kd.R_below (by (with_reducible repeat (first | apply Kd.R_alloc | apply Kd.R_drewN | apply Kd.R_drew)); exact HO_17.out) hb); have n1_ := Aside0.mk (Kd.R_below (by (with_reducible repeat (first | apply Kd.R_alloc | apply Kd.R_drewN | apply Kd.R_drew)); exact HO_601000.out) hb); have n2_ := Aside0.mk (Kd.R_below (by (with_reducible repeat (first | apply Kd.R_alloc | apply Kd.R_drewN | apply Kd.R_drew)); exact HO_601001.out) hb); have n3_ := Aside0.mk (Kd.R_below (by (with_reducible repeat (first | apply Kd.R_alloc | apply Kd.R_drewN | apply Kd.R_drew)); exact HO660.out) hb); have n4_ := Aside0.mk (Kd.R_below (by (with_reducible repeat (first | apply Kd.R_alloc | apply Kd.R_drewN | apply Kd.R_drew)); exact HO663.out) hb); have n5_ := Aside0.mk (Kd.R_below (by (with_reducible repeat (first | apply Kd.R_alloc | apply Kd.R_drewN | apply Kd.R_drew)); exact HO666.out) hb); have n6_ := Aside0.mk (blk_below (g := gb600) (o := .cells #[.slice Ao111 x601000_89.length co111, .slice Ao112 x601001_89.length co112] 25 (0, 0)) (by (with_reducible repeat (first | refine blk_drewN ?_ _ | refine blk_drew ?_ | refine blk_alloc ?_ _)); exact BK600.out) hb); have n7_ := Aside0.mk (Kd.C_below (by repeat (first | (with_reducible exact HR672.out) | (with_reducible refine Kd.C_alloc ?_ _) | (with_reducible refine Kd.C_drewN ?_ _) | (with_reducible refine Kd.C_drew ?_) | exact HR672.out)) hb); have n8_ := Aside0.mk (below_step (by repeat (first | (with_reducible first | exact HB.out | apply below_alloc | apply pw_below_drewN | apply below_drew1 | refine below_set ?_ GE600.out) | exact HB.out)) hb); clear HO_17; clear HO_601000; clear HO_601001; clear HO660; clear HO663; clear HO666; clear BK600; clear HR672; clear HB; have HO_17 := n0_; have HO_601000 := n1_; have HO_601001 := n2_; have HO660 := n3_; have HO663 := n4_; have HO666 := n5_; have BK600 := n6_; have HR672 := n7_; have HB := n8_; clear n0_ n1_ n2_ n3_ n4_ n5_ n6_ n7_ n8_; (try clear hb); (try clear hb2); (try clear hk); (try clear hi)))
                                            go_ret
                                            exact ⟨by first | rfl | (simp only [h9_.out]; done) | (have h8_ := h9_.out; simp [h8_]; done) | (simp [errW_none, errW_some] <;> rfl) | (simp [*, errW_none, errW_some] <;> rfl), by repeat (first | (with_reducible first | exact HB.out | apply below_alloc | apply pw_below_drewN | apply below_drew1 | refine below_set ?_ GE600.out) | exact HB.out)⟩
                                          · replace c108 := Bool.eq_false_iff.mpr c108
                                            subst c108
                                            have H1 : (some false) = some true := by rw [if_neg (show ¬ (false = true) by decide)] at H; exact H
                                            clear H
                                            have H := H1
                                            clear H1
                                            exact absurd H (by simp)
                                        · rw [if_neg c105] at H
                                          exact absurd H (by simp)
                                      · rw [if_neg c104] at H
                                        have c104b0 : decide ((t664.length : Int) ≤ (y629.length : Int)) = false := decide_eq_false c104
                                        have c104b1 : decide (t664.length ≤ y629.length) = false := decide_eq_false (fun h => c104 (Int.ofNat_le.mpr h))
                                        clear c104
                                        exact absurd H (by simp)
                                    · rw [if_neg c103] at H
                                      have c103b0 : decide ((l2.length : Int) ≤ (t664.length : Int)) = false := decide_eq_false c103
                                      have c103b1 : decide (l2.length ≤ t664.length) = false := decide_eq_false (fun h => c103 (Int.ofNat_le.mpr h))
                                      clear c103
                                      exact absurd H (by simp)
                                  · rw [if_neg c102] at H
                                    have c102b0 : (t668 == 0) = false := beq_eq_false_iff_ne.mpr c102
                                    have c102b1 : (t668 != 0) = true := bne_iff_ne.mpr c102
                                    exact absurd H (by simp)
                      · rw [if_neg c36] at H
                        exact absurd H (by simp)
                    · rw [if_neg c35] at H
                      exact absurd H (by simp)
            · rw [if_neg c16] at H
              exact absurd H (by simp)
          · rw [if_neg c15] at H
            exact absurd H (by simp)
        · rw [if_neg c14] at H
          exact absurd H (by simp)

end Go.Proofs.Ytpkapldkmleppaa.F
