/- DiskReads, walked: what was put is read, other sectors stay; behind a flush all reads as it did; the rows may lie wherever. -/
import Derived.Test.YthidkdlmpkeogaaPlDisk2
import Derived.Test.YthidkdlmpkeogaaVwDisk
import Derived.Test.YthidkdlmpkeogaaPlAwake04
import Derived.Deep.LoopGhost
namespace Go.Proofs.Ythidkdlmpkeogaa.F
open Go.RowKit Go.Proofs.YthidkdlmpkeogaaW.PrintWords Go.Proofs.YthidkdlmpkeogaaW.PrintLast Go.Proofs.YthidkdlmpkeogaaW.PrintMore
attribute [local go_sem] max2_int min2_int max_two min_two max_three min_three max_four min_four
set_option linter.unusedVariables false
set_option linter.unusedSimpArgs false
def weirkeeperlaw04_DiskReads.f (k : Nat) (l0 : List ByteArray) (l1 : List S104) (a1 : Int) (l2 : List ByteArray) : Option Bool := if -9223372036854775808 ≤ a1 ∧ a1 ≤ 9223372036854775807 ∧ l1.length * 24 ≤ 140737488351232 then some true else none
set_option maxHeartbeats 8000000 in
set_option maxRecDepth 100000 in
theorem weirkeeperlaw04_DiskReads.walk (A0 : Option Addr) (c0 : Nat) (l0 : List ByteArray) (A1 : Option Addr) (c1 : Nat) (l1 : List S104) (a1 : Int) (A2 : Option Addr) (c2 : Nat) (l2 : List ByteArray) (w : World)
    (hr0 : Kd.C Kd.string w A0 l0.length l0) (hc0 : l0.length ≤ c0) (hr1 : Kd.C k104 w A1 l1.length l1) (hc1 : l1.length ≤ c1) (hr2 : Kd.C Kd.string w A2 l2.length l2) (hc2 : l2.length ≤ c2) (hz : l1.length * 24 ≤ 140737488351232) :
    Calls Try.prog 10 #[.agg #[.slice A0 l0.length c0, .slice A1 l1.length c1], .int .i64 a1, .slice A2 l2.length c2] w fun e w' => e = .returned (.bool true) ∧ Below w.heap.size w w' := by
  have HZ := Aside0.mk hz
  have HB := Aside0.mk (below_alloc (Below.refl w.heap.size w) (.cells #[.slice A0 l0.length c0, .slice A1 l1.length c1] 86))
  have HD := Aside0.mk (BoxD.arg hr0 hc0 hr1 hc1)
  have HTX := Aside0.mk hr2
  have HTC := Aside0.mk hc2
  have hn2 := Kd.C_max hr2
  have HN2 := Aside0.mk hn2
  clear hz hr0 hc0 hr1 hc1 hr2 hc2
  cases hs : decide (l0.length ≤ 100 ∧ (refW l1).length ≤ 60) with
  | false =>
    have HSM : Aside0 (weirkeeperref04_Small.f l0 (refW l1) = some false) := ⟨(Pl.small_eq _ _).trans (congrArg some hs)⟩
    clear hs
    go_enter Try.func10, Try.ntmps10
    go_wp2_with (first
        | (go_at_call 47; (with_reducible refine (law04_Ref _ c0 l0 _ c1 l1 _ ?s1 HZ.out).mono ?_); (case s1 => exact HD.out.c1); rintro e w2 ⟨AR, cR, rfl, h2, h3, hb⟩; have HR2 := Aside0.mk h2; have HR3 := Aside0.mk h3; clear h2 h3; have HDn := Aside0.mk (HD.out.below hb); (try clear xD0 xD1); clear HD; have HD := HDn; clear HDn; (have xD0 : w2.cell? ⟨w.heap.size, 0, none⟩ = some (.slice A0 l0.length c0) := (blk_cell HD.out.blk 0).trans rfl); (have xD1 : w2.cell? ⟨w.heap.size, 1, none⟩ = some (.slice A1 l1.length c1) := (blk_cell HD.out.blk 1).trans rfl); have HBn := Aside0.mk (below_step HB.out hb); clear HB; have HB := HBn; clear HBn; (try clear hb))
        | (go_at_call 46; (with_reducible refine (weirkeeperref04_Small.calls _ c0 l0 _ _ (refW l1) false _ ?s1 HD.out.l0 ?s2 HR2.out HSM.out).mono ?_); (case s1 => exact HD.out.c0); (case s2 => exact HR3.out); rintro e w3 ⟨rfl, hb⟩; have HDn := Aside0.mk (HD.out.below hb); (try clear xD0 xD1); clear HD; have HD := HDn; clear HDn; (have xD0 : w3.cell? ⟨w.heap.size, 0, none⟩ = some (.slice A0 l0.length c0) := (blk_cell HD.out.blk 0).trans rfl); (have xD1 : w3.cell? ⟨w.heap.size, 1, none⟩ = some (.slice A1 l1.length c1) := (blk_cell HD.out.blk 1).trans rfl); have HBn := Aside0.mk (below_step HB.out hb); clear HB; have HB := HBn; clear HBn; (try clear hb))
        | (go_at_call 43; (with_reducible refine (weirkeeperlaw04_awake.calls _ Pl.awake_eq).mono ?_); rintro e w4 ⟨rfl, hb⟩; have HDn := Aside0.mk (HD.out.below hb); (try clear xD0 xD1); clear HD; have HD := HDn; clear HDn; (have xD0 : w4.cell? ⟨w.heap.size, 0, none⟩ = some (.slice A0 l0.length c0) := (blk_cell HD.out.blk 0).trans rfl); (have xD1 : w4.cell? ⟨w.heap.size, 1, none⟩ = some (.slice A1 l1.length c1) := (blk_cell HD.out.blk 1).trans rfl); have HBn := Aside0.mk (below_step HB.out hb); clear HB; have HB := HBn; clear HBn; (try clear hb)))
    go_ret
    exact ⟨rfl, HB.out⟩
  | true =>
    have HSM : Aside0 (weirkeeperref04_Small.f l0 (refW l1) = some true) := ⟨(Pl.small_eq _ _).trans (congrArg some hs)⟩
    have hsm := of_decide_eq_true hs
    rw [refW, List.length_map] at hsm
    have HSL := Aside0.mk hsm
    clear hs hsm
    by_cases ct : 60 < l2.length
    · have ct1 : decide (60 < (l2.length : Int)) = true := decide_eq_true (by omega)
      have ct2 : decide (60 < l2.length) = true := decide_eq_true ct
      clear ct
      go_enter Try.func10, Try.ntmps10
      go_wp2_with (first
        | (go_at_call 47; (with_reducible refine (law04_Ref _ c0 l0 _ c1 l1 _ ?s1 HZ.out).mono ?_); (case s1 => exact HD.out.c1); rintro e w2 ⟨AR, cR, rfl, h2, h3, hb⟩; have HR2 := Aside0.mk h2; have HR3 := Aside0.mk h3; clear h2 h3; have HDn := Aside0.mk (HD.out.below hb); (try clear xD0 xD1); clear HD; have HD := HDn; clear HDn; (have xD0 : w2.cell? ⟨w.heap.size, 0, none⟩ = some (.slice A0 l0.length c0) := (blk_cell HD.out.blk 0).trans rfl); (have xD1 : w2.cell? ⟨w.heap.size, 1, none⟩ = some (.slice A1 l1.length c1) := (blk_cell HD.out.blk 1).trans rfl); have HBn := Aside0.mk (below_step HB.out hb); clear HB; have HB := HBn; clear HBn; (try clear hb))
        | (go_at_call 46; (with_reducible refine (weirkeeperref04_Small.calls _ c0 l0 _ _ (refW l1) true _ ?s1 HD.out.l0 ?s2 HR2.out HSM.out).mono ?_); (case s1 => exact HD.out.c0); (case s2 => exact HR3.out); rintro e w3 ⟨rfl, hb⟩; have HDn := Aside0.mk (HD.out.below hb); (try clear xD0 xD1); clear HD; have HD := HDn; clear HDn; (have xD0 : w3.cell? ⟨w.heap.size, 0, none⟩ = some (.slice A0 l0.length c0) := (blk_cell HD.out.blk 0).trans rfl); (have xD1 : w3.cell? ⟨w.heap.size, 1, none⟩ = some (.slice A1 l1.length c1) := (blk_cell HD.out.blk 1).trans rfl); have HBn := Aside0.mk (below_step HB.out hb); clear HB; have HB := HBn; clear HBn; (try clear hb))
        | (go_at_call 43; (with_reducible refine (weirkeeperlaw04_awake.calls _ Pl.awake_eq).mono ?_); rintro e w4 ⟨rfl, hb⟩; have HDn := Aside0.mk (HD.out.below hb); (try clear xD0 xD1); clear HD; have HD := HDn; clear HDn; (have xD0 : w4.cell? ⟨w.heap.size, 0, none⟩ = some (.slice A0 l0.length c0) := (blk_cell HD.out.blk 0).trans rfl); (have xD1 : w4.cell? ⟨w.heap.size, 1, none⟩ = some (.slice A1 l1.length c1) := (blk_cell HD.out.blk 1).trans rfl); have HBn := Aside0.mk (below_step HB.out hb); clear HB; have HB := HBn; clear HBn; (try clear hb)))
      go_ret
      exact ⟨rfl, HB.out⟩
    · have ct1 : decide (60 < (l2.length : Int)) = false := decide_eq_false (by omega)
      have ct2 : decide (60 < l2.length) = false := decide_eq_false ct
      have HTL : Aside0 (l2.length ≤ 60) := ⟨by omega⟩
      clear ct
      cases hb : disk_right l0 l1 with
      | false =>
        have HRT : Aside0 (disk_Right.f l0 l1 = some false) := ⟨congrArg some hb⟩
        clear hb
        go_enter Try.func10, Try.ntmps10
        go_wp2_with (first
        | (go_at_call 47; (with_reducible refine (law04_Ref _ c0 l0 _ c1 l1 _ ?s1 HZ.out).mono ?_); (case s1 => exact HD.out.c1); rintro e w2 ⟨AR, cR, rfl, h2, h3, hb⟩; have HR2 := Aside0.mk h2; have HR3 := Aside0.mk h3; clear h2 h3; have HDn := Aside0.mk (HD.out.below hb); (try clear xD0 xD1); clear HD; have HD := HDn; clear HDn; (have xD0 : w2.cell? ⟨w.heap.size, 0, none⟩ = some (.slice A0 l0.length c0) := (blk_cell HD.out.blk 0).trans rfl); (have xD1 : w2.cell? ⟨w.heap.size, 1, none⟩ = some (.slice A1 l1.length c1) := (blk_cell HD.out.blk 1).trans rfl); have HBn := Aside0.mk (below_step HB.out hb); clear HB; have HB := HBn; clear HBn; (try clear hb))
        | (go_at_call 46; (with_reducible refine (weirkeeperref04_Small.calls _ c0 l0 _ _ (refW l1) true _ ?s1 HD.out.l0 ?s2 HR2.out HSM.out).mono ?_); (case s1 => exact HD.out.c0); (case s2 => exact HR3.out); rintro e w3 ⟨rfl, hb⟩; have HDn := Aside0.mk (HD.out.below hb); (try clear xD0 xD1); clear HD; have HD := HDn; clear HDn; (have xD0 : w3.cell? ⟨w.heap.size, 0, none⟩ = some (.slice A0 l0.length c0) := (blk_cell HD.out.blk 0).trans rfl); (have xD1 : w3.cell? ⟨w.heap.size, 1, none⟩ = some (.slice A1 l1.length c1) := (blk_cell HD.out.blk 1).trans rfl); have HBn := Aside0.mk (below_step HB.out hb); clear HB; have HB := HBn; clear HBn; (try clear hb))
        | (go_at_call 45; (with_reducible refine (disk_Right.calls _ c0 l0 _ c1 l1 false _ ?s1 HD.out.l0 ?s2 HD.out.l1 HRT.out).mono ?_); (case s1 => exact HD.out.c0); (case s2 => exact HD.out.c1); rintro e w4 ⟨rfl, hb⟩; have HDn := Aside0.mk (HD.out.below hb); (try clear xD0 xD1); clear HD; have HD := HDn; clear HDn; (have xD0 : w4.cell? ⟨w.heap.size, 0, none⟩ = some (.slice A0 l0.length c0) := (blk_cell HD.out.blk 0).trans rfl); (have xD1 : w4.cell? ⟨w.heap.size, 1, none⟩ = some (.slice A1 l1.length c1) := (blk_cell HD.out.blk 1).trans rfl); have HBn := Aside0.mk (below_step HB.out hb); clear HB; have HB := HBn; clear HBn; (try clear hb))
        | (go_at_call 43; (with_reducible refine (weirkeeperlaw04_awake.calls _ Pl.awake_eq).mono ?_); rintro e w5 ⟨rfl, hb⟩; have HDn := Aside0.mk (HD.out.below hb); (try clear xD0 xD1); clear HD; have HD := HDn; clear HDn; (have xD0 : w5.cell? ⟨w.heap.size, 0, none⟩ = some (.slice A0 l0.length c0) := (blk_cell HD.out.blk 0).trans rfl); (have xD1 : w5.cell? ⟨w.heap.size, 1, none⟩ = some (.slice A1 l1.length c1) := (blk_cell HD.out.blk 1).trans rfl); have HBn := Aside0.mk (below_step HB.out hb); clear HB; have HB := HBn; clear HBn; (try clear hb)))
        go_ret
        exact ⟨rfl, HB.out⟩
      | true =>
        have HRT : Aside0 (disk_Right.f l0 l1 = some true) := ⟨congrArg some hb⟩
        have HF : Aside0 (disk_fit l0 l1 = true) := ⟨Pl.fit_of (by have := HSL.out; omega) (by have := HSL.out; omega)⟩
        cases hp : (disk_right l0 l1 && thereB l0.length a1 (l2.length : Int) && !(l2.any fun s => s.size != 32)) with
        | false =>
          have HPU := Aside0.mk (Pl.Put_bad HF.out hp)

          clear hb hp
          go_enter Try.func10, Try.ntmps10
          go_wp2_with (first
        | (go_at_call 47; (with_reducible refine (law04_Ref _ c0 l0 _ c1 l1 _ ?s1 HZ.out).mono ?_); (case s1 => exact HD.out.c1); rintro e w2 ⟨AR, cR, rfl, h2, h3, hb⟩; have HR2 := Aside0.mk h2; have HR3 := Aside0.mk h3; clear h2 h3; have HDn := Aside0.mk (HD.out.below hb); (try clear xD0 xD1); clear HD; have HD := HDn; clear HDn; (have xD0 : w2.cell? ⟨w.heap.size, 0, none⟩ = some (.slice A0 l0.length c0) := (blk_cell HD.out.blk 0).trans rfl); (have xD1 : w2.cell? ⟨w.heap.size, 1, none⟩ = some (.slice A1 l1.length c1) := (blk_cell HD.out.blk 1).trans rfl); have HBn := Aside0.mk (below_step HB.out hb); clear HB; have HB := HBn; clear HBn; (try clear hb))
        | (go_at_call 46; (with_reducible refine (weirkeeperref04_Small.calls _ c0 l0 _ _ (refW l1) true _ ?s1 HD.out.l0 ?s2 HR2.out HSM.out).mono ?_); (case s1 => exact HD.out.c0); (case s2 => exact HR3.out); rintro e w3 ⟨rfl, hb⟩; have HDn := Aside0.mk (HD.out.below hb); (try clear xD0 xD1); clear HD; have HD := HDn; clear HDn; (have xD0 : w3.cell? ⟨w.heap.size, 0, none⟩ = some (.slice A0 l0.length c0) := (blk_cell HD.out.blk 0).trans rfl); (have xD1 : w3.cell? ⟨w.heap.size, 1, none⟩ = some (.slice A1 l1.length c1) := (blk_cell HD.out.blk 1).trans rfl); have HBn := Aside0.mk (below_step HB.out hb); clear HB; have HB := HBn; clear HBn; (try clear hb))
        | (go_at_call 45; (with_reducible refine (disk_Right.calls _ c0 l0 _ c1 l1 true _ ?s1 HD.out.l0 ?s2 HD.out.l1 HRT.out).mono ?_); (case s1 => exact HD.out.c0); (case s2 => exact HD.out.c1); rintro e w4 ⟨rfl, hb⟩; have HDn := Aside0.mk (HD.out.below hb); (try clear xD0 xD1); clear HD; have HD := HDn; clear HDn; (have xD0 : w4.cell? ⟨w.heap.size, 0, none⟩ = some (.slice A0 l0.length c0) := (blk_cell HD.out.blk 0).trans rfl); (have xD1 : w4.cell? ⟨w.heap.size, 1, none⟩ = some (.slice A1 l1.length c1) := (blk_cell HD.out.blk 1).trans rfl); have HBn := Aside0.mk (below_step HB.out hb); clear HB; have HB := HBn; clear HBn; (try clear hb))
        | (go_at_call 48; (with_reducible refine (disk_Put.calls _ c0 l0 _ c1 l1 a1 _ c2 l2 l0 l1 1 _ ?s1 HD.out.l0 ?s2 HD.out.l1 ?s3 HTC.out HPU.out).mono ?_); (case s1 => exact HD.out.c0); (case s2 => exact HD.out.c1); (case s3 => exact Kd.C_below HTX.out HB.out); rintro e w5 ⟨v0, v1, rfl, hv0, hv1, hb⟩; obtain ⟨p0, q0, rfl⟩ := Kd.R_slice hv0; obtain ⟨p1, q1, rfl⟩ := Kd.R_slice hv1; have HPk := Aside0.mk (BoxD.new hv0 hv1); clear hv0 hv1; have HDn := Aside0.mk ((HD.out.below hb).alloc (.cells #[.slice p0 l0.length q0, .slice p1 l1.length q1] 86)); (try clear xD0 xD1); clear HD; have HD := HDn; clear HDn; (have xD0 : (w5.alloc (.cells #[.slice p0 l0.length q0, .slice p1 l1.length q1] 86)).cell? ⟨w.heap.size, 0, none⟩ = some (.slice A0 l0.length c0) := (blk_cell HD.out.blk 0).trans rfl); (have xD1 : (w5.alloc (.cells #[.slice p0 l0.length q0, .slice p1 l1.length q1] 86)).cell? ⟨w.heap.size, 1, none⟩ = some (.slice A1 l1.length c1) := (blk_cell HD.out.blk 1).trans rfl); have HBn := Aside0.mk (below_alloc (below_step HB.out hb) (.cells #[.slice p0 l0.length q0, .slice p1 l1.length q1] 86)); clear HB; have HB := HBn; clear HBn; have HP := HPk; clear HPk; (have xP0 : (w5.alloc (.cells #[.slice p0 l0.length q0, .slice p1 l1.length q1] 86)).cell? ⟨w5.heap.size, 0, none⟩ = some (.slice p0 l0.length q0) := (blk_cell HP.out.blk 0).trans rfl); (have xP1 : (w5.alloc (.cells #[.slice p0 l0.length q0, .slice p1 l1.length q1] 86)).cell? ⟨w5.heap.size, 1, none⟩ = some (.slice p1 l1.length q1) := (blk_cell HP.out.blk 1).trans rfl); (try clear hb)))
          have HP' := HP
          clear HP
          generalize w5.heap.size = b at *
          have HP := HP'
          clear HP'
          have HBd := Aside0.mk (below_drew HB.out)
          clear HB
          have HB := HBd
          have HPd := Aside0.mk HP.out.drew
          have HDd := Aside0.mk HD.out.drew
          clear HP HD HBd
          have HP := HPd
          have HD := HDd
          clear HPd HDd
          go_region_with (first
        | (go_at_call 47; (with_reducible refine (law04_Ref _ c0 l0 _ c1 l1 _ ?s1 HZ.out).mono ?_); (case s1 => exact HD.out.c1); rintro e w6 ⟨AR, cR, rfl, h2, h3, hb⟩; have HR2 := Aside0.mk h2; have HR3 := Aside0.mk h3; clear h2 h3; have HDn := Aside0.mk (HD.out.below hb); (try clear xD0 xD1); clear HD; have HD := HDn; clear HDn; (have xD0 : w6.cell? ⟨w.heap.size, 0, none⟩ = some (.slice A0 l0.length c0) := (blk_cell HD.out.blk 0).trans rfl); (have xD1 : w6.cell? ⟨w.heap.size, 1, none⟩ = some (.slice A1 l1.length c1) := (blk_cell HD.out.blk 1).trans rfl); have HPn := Aside0.mk (HP.out.below hb); (try clear xP0 xP1); clear HP; have HP := HPn; clear HPn; (have xP0 : w6.cell? ⟨b, 0, none⟩ = some (.slice p0 l0.length q0) := (blk_cell HP.out.blk 0).trans rfl); (have xP1 : w6.cell? ⟨b, 1, none⟩ = some (.slice p1 l1.length q1) := (blk_cell HP.out.blk 1).trans rfl); have HBn := Aside0.mk (below_step HB.out hb); clear HB; have HB := HBn; clear HBn; (try clear hb))
        | (go_at_call 49; (with_reducible refine (law04_same _ q0 l0 _ q1 l1 _ c0 l0 _ _ (refW l1) _ ?s1 HP.out.l0 ?s2 HZ.out ?s3 HD.out.l0 ?s4 HR2.out).mono ?_); (case s1 => exact HP.out.c0); (case s2 => exact HP.out.c1); (case s3 => exact HD.out.c0); (case s4 => exact HR3.out); rintro e w7 ⟨he, hb⟩; obtain rfl : e = .returned (.bool true) := (he.trans (by simp)); clear he; have HDn := Aside0.mk (HD.out.below hb); (try clear xD0 xD1); clear HD; have HD := HDn; clear HDn; (have xD0 : w7.cell? ⟨w.heap.size, 0, none⟩ = some (.slice A0 l0.length c0) := (blk_cell HD.out.blk 0).trans rfl); (have xD1 : w7.cell? ⟨w.heap.size, 1, none⟩ = some (.slice A1 l1.length c1) := (blk_cell HD.out.blk 1).trans rfl); have HPn := Aside0.mk (HP.out.below hb); (try clear xP0 xP1); clear HP; have HP := HPn; clear HPn; (have xP0 : w7.cell? ⟨b, 0, none⟩ = some (.slice p0 l0.length q0) := (blk_cell HP.out.blk 0).trans rfl); (have xP1 : w7.cell? ⟨b, 1, none⟩ = some (.slice p1 l1.length q1) := (blk_cell HP.out.blk 1).trans rfl); have HBn := Aside0.mk (below_step HB.out hb); clear HB; have HB := HBn; clear HBn; (try clear hb))
        | (go_at_call 43; (with_reducible refine (weirkeeperlaw04_awake.calls _ Pl.awake_eq).mono ?_); rintro e w8 ⟨rfl, hb⟩; have HDn := Aside0.mk (HD.out.below hb); (try clear xD0 xD1); clear HD; have HD := HDn; clear HDn; (have xD0 : w8.cell? ⟨w.heap.size, 0, none⟩ = some (.slice A0 l0.length c0) := (blk_cell HD.out.blk 0).trans rfl); (have xD1 : w8.cell? ⟨w.heap.size, 1, none⟩ = some (.slice A1 l1.length c1) := (blk_cell HD.out.blk 1).trans rfl); have HPn := Aside0.mk (HP.out.below hb); (try clear xP0 xP1); clear HP; have HP := HPn; clear HPn; (have xP0 : w8.cell? ⟨b, 0, none⟩ = some (.slice p0 l0.length q0) := (blk_cell HP.out.blk 0).trans rfl); (have xP1 : w8.cell? ⟨b, 1, none⟩ = some (.slice p1 l1.length q1) := (blk_cell HP.out.blk 1).trans rfl); have HBn := Aside0.mk (below_step HB.out hb); clear HB; have HB := HBn; clear HBn; (try clear hb)))
          all_goals go_wp2_with fail
          all_goals go_ret
          all_goals exact ⟨rfl, HB.out⟩
        | true =>
          obtain ⟨P, Fl, E, h1, h2, h3, h4, h5, h6, h7, h8, h9⟩ := Pl.reads_ok (by have := HSL.out; omega) (by have := HSL.out; omega) (by have := HTL.out; omega) hp
          have HPU := Aside0.mk h1
          have HFU := Aside0.mk h2
          have HRD := Aside0.mk h9
          have HAT : Aside0 (0 ≤ a1 ∧ a1 ≤ 100) := ⟨by simp only [Bool.and_eq_true, Bool.not_eq_true'] at hp; have := (Pl.there_iff _ _ _).1 hp.1.2; have := HSL.out; omega⟩
          have ha0 := HAT.out.1
          have ha1 := HAT.out.2
          have hw60 : (l1.length : Int) ≤ 60 := by have := HSL.out; omega
          have ht60 : (l2.length : Int) ≤ 60 := by have := HTL.out; omega
          have hE1 : ((E.length : Int) == 0) = true := by rw [h3]; rfl
          have hE2 : (E.length == 0) = true := by rw [h3]; rfl
          have hP1 : ((P.length : Int) == (l1.length : Int) + (l2.length : Int)) = true := by rw [h4]; simp
          have hS1 : (l0.length : Int) ≤ 100 := by have := HSL.out; omega
          clear h1 h2 h3 h4 h5 h6 h7 h8 h9 hb hp
          go_enter Try.func10, Try.ntmps10
          go_wp2_with (first
        | (go_at_call 47; (with_reducible refine (law04_Ref _ c0 l0 _ c1 l1 _ ?s1 HZ.out).mono ?_); (case s1 => exact HD.out.c1); rintro e w2 ⟨AR, cR, rfl, h2, h3, hb⟩; have HR2 := Aside0.mk h2; have HR3 := Aside0.mk h3; clear h2 h3; have HDn := Aside0.mk (HD.out.below hb); (try clear xD0 xD1); clear HD; have HD := HDn; clear HDn; (have xD0 : w2.cell? ⟨w.heap.size, 0, none⟩ = some (.slice A0 l0.length c0) := (blk_cell HD.out.blk 0).trans rfl); (have xD1 : w2.cell? ⟨w.heap.size, 1, none⟩ = some (.slice A1 l1.length c1) := (blk_cell HD.out.blk 1).trans rfl); have HBn := Aside0.mk (below_step HB.out hb); clear HB; have HB := HBn; clear HBn; (try clear hb))
        | (go_at_call 46; (with_reducible refine (weirkeeperref04_Small.calls _ c0 l0 _ _ (refW l1) true _ ?s1 HD.out.l0 ?s2 HR2.out HSM.out).mono ?_); (case s1 => exact HD.out.c0); (case s2 => exact HR3.out); rintro e w3 ⟨rfl, hb⟩; have HDn := Aside0.mk (HD.out.below hb); (try clear xD0 xD1); clear HD; have HD := HDn; clear HDn; (have xD0 : w3.cell? ⟨w.heap.size, 0, none⟩ = some (.slice A0 l0.length c0) := (blk_cell HD.out.blk 0).trans rfl); (have xD1 : w3.cell? ⟨w.heap.size, 1, none⟩ = some (.slice A1 l1.length c1) := (blk_cell HD.out.blk 1).trans rfl); have HBn := Aside0.mk (below_step HB.out hb); clear HB; have HB := HBn; clear HBn; (try clear hb))
        | (go_at_call 45; (with_reducible refine (disk_Right.calls _ c0 l0 _ c1 l1 true _ ?s1 HD.out.l0 ?s2 HD.out.l1 HRT.out).mono ?_); (case s1 => exact HD.out.c0); (case s2 => exact HD.out.c1); rintro e w4 ⟨rfl, hb⟩; have HDn := Aside0.mk (HD.out.below hb); (try clear xD0 xD1); clear HD; have HD := HDn; clear HDn; (have xD0 : w4.cell? ⟨w.heap.size, 0, none⟩ = some (.slice A0 l0.length c0) := (blk_cell HD.out.blk 0).trans rfl); (have xD1 : w4.cell? ⟨w.heap.size, 1, none⟩ = some (.slice A1 l1.length c1) := (blk_cell HD.out.blk 1).trans rfl); have HBn := Aside0.mk (below_step HB.out hb); clear HB; have HB := HBn; clear HBn; (try clear hb))
        | (go_at_call 48; (with_reducible refine (disk_Put.calls _ c0 l0 _ c1 l1 a1 _ c2 l2 l0 P 0 _ ?s1 HD.out.l0 ?s2 HD.out.l1 ?s3 HTC.out HPU.out).mono ?_); (case s1 => exact HD.out.c0); (case s2 => exact HD.out.c1); (case s3 => exact Kd.C_below HTX.out HB.out); rintro e w5 ⟨v0, v1, rfl, hv0, hv1, hb⟩; obtain ⟨p0, q0, rfl⟩ := Kd.R_slice hv0; obtain ⟨p1, q1, rfl⟩ := Kd.R_slice hv1; have HPk := Aside0.mk (BoxD.new hv0 hv1); clear hv0 hv1; have HDn := Aside0.mk ((HD.out.below hb).alloc (.cells #[.slice p0 l0.length q0, .slice p1 P.length q1] 86)); (try clear xD0 xD1); clear HD; have HD := HDn; clear HDn; (have xD0 : (w5.alloc (.cells #[.slice p0 l0.length q0, .slice p1 P.length q1] 86)).cell? ⟨w.heap.size, 0, none⟩ = some (.slice A0 l0.length c0) := (blk_cell HD.out.blk 0).trans rfl); (have xD1 : (w5.alloc (.cells #[.slice p0 l0.length q0, .slice p1 P.length q1] 86)).cell? ⟨w.heap.size, 1, none⟩ = some (.slice A1 l1.length c1) := (blk_cell HD.out.blk 1).trans rfl); have HBn := Aside0.mk (below_alloc (below_step HB.out hb) (.cells #[.slice p0 l0.length q0, .slice p1 P.length q1] 86)); clear HB; have HB := HBn; clear HBn; have HP := HPk; clear HPk; (have xP0 : (w5.alloc (.cells #[.slice p0 l0.length q0, .slice p1 P.length q1] 86)).cell? ⟨w5.heap.size, 0, none⟩ = some (.slice p0 l0.length q0) := (blk_cell HP.out.blk 0).trans rfl); (have xP1 : (w5.alloc (.cells #[.slice p0 l0.length q0, .slice p1 P.length q1] 86)).cell? ⟨w5.heap.size, 1, none⟩ = some (.slice p1 P.length q1) := (blk_cell HP.out.blk 1).trans rfl); (try clear hb))
        | (go_at_call 50; (with_reducible refine (disk_Flush.calls _ q0 l0 _ q1 P Fl E _ ?s1 HP.out.l0 ?s2 HP.out.l1 HFU.out).mono ?_); (case s1 => exact HP.out.c0); (case s2 => exact HP.out.c1); rintro e w6 ⟨v0, v1, rfl, hv0, hv1, hb⟩; obtain ⟨s0, u0, rfl⟩ := Kd.R_slice hv0; obtain ⟨s1, u1, rfl⟩ := Kd.R_slice hv1; have HFk := Aside0.mk (BoxD.new hv0 hv1); clear hv0 hv1; have HDn := Aside0.mk ((HD.out.below hb).alloc (.cells #[.slice s0 Fl.length u0, .slice s1 E.length u1] 86)); (try clear xD0 xD1); clear HD; have HD := HDn; clear HDn; (have xD0 : (w6.alloc (.cells #[.slice s0 Fl.length u0, .slice s1 E.length u1] 86)).cell? ⟨w.heap.size, 0, none⟩ = some (.slice A0 l0.length c0) := (blk_cell HD.out.blk 0).trans rfl); (have xD1 : (w6.alloc (.cells #[.slice s0 Fl.length u0, .slice s1 E.length u1] 86)).cell? ⟨w.heap.size, 1, none⟩ = some (.slice A1 l1.length c1) := (blk_cell HD.out.blk 1).trans rfl); have HPn := Aside0.mk ((HP.out.below hb).alloc (.cells #[.slice s0 Fl.length u0, .slice s1 E.length u1] 86)); (try clear xP0 xP1); clear HP; have HP := HPn; clear HPn; (have xP0 : (w6.alloc (.cells #[.slice s0 Fl.length u0, .slice s1 E.length u1] 86)).cell? ⟨w5.heap.size, 0, none⟩ = some (.slice p0 l0.length q0) := (blk_cell HP.out.blk 0).trans rfl); (have xP1 : (w6.alloc (.cells #[.slice s0 Fl.length u0, .slice s1 E.length u1] 86)).cell? ⟨w5.heap.size, 1, none⟩ = some (.slice p1 P.length q1) := (blk_cell HP.out.blk 1).trans rfl); have HBn := Aside0.mk (below_alloc (below_step HB.out hb) (.cells #[.slice s0 Fl.length u0, .slice s1 E.length u1] 86)); clear HB; have HB := HBn; clear HBn; have HF := HFk; clear HFk; (have xF0 : (w6.alloc (.cells #[.slice s0 Fl.length u0, .slice s1 E.length u1] 86)).cell? ⟨w6.heap.size, 0, none⟩ = some (.slice s0 Fl.length u0) := (blk_cell HF.out.blk 0).trans rfl); (have xF1 : (w6.alloc (.cells #[.slice s0 Fl.length u0, .slice s1 E.length u1] 86)).cell? ⟨w6.heap.size, 1, none⟩ = some (.slice s1 E.length u1) := (blk_cell HF.out.blk 1).trans rfl); (try clear hb)))
          (try clear xP0 xP1 xD0 xD1 xF0 xF1)
          have HP' := HP
          have HF' := HF
          clear HP HF
          generalize w5.heap.size = b at HP' HF' ⊢
          generalize w6.heap.size = g at HF' ⊢
          go_loopg [54] l0.length (fun gg v54 wr => ∃ i : Int, v54 = .int .i64 i ∧ Aside0 (0 ≤ i ∧ i ≤ l0.length ∧ l0.length - i.toNat ≤ gg) ∧ Aside0 (BoxD wr w.heap.size A0 c0 l0 A1 c1 l1) ∧ Aside0 (BoxD wr b p0 q0 l0 p1 q1 P) ∧ Aside0 (BoxD wr g s0 u0 Fl s1 u1 E) ∧ Aside0 (Below w.heap.size w wr))
          case atStart => exact ⟨0, rfl, ⟨by omega, by omega, by simp⟩, HD, HP', HF', HB⟩
          case round =>
            clear HD HP' HF' HB
            obtain ⟨i, rfl, HI, HD, HP, HF, HB⟩ := hrel
            (have xD0 : wr.cell? ⟨w.heap.size, 0, none⟩ = some (.slice A0 l0.length c0) := (blk_cell HD.out.blk 0).trans rfl); (have xD1 : wr.cell? ⟨w.heap.size, 1, none⟩ = some (.slice A1 l1.length c1) := (blk_cell HD.out.blk 1).trans rfl); (have xP0 : wr.cell? ⟨b, 0, none⟩ = some (.slice p0 l0.length q0) := (blk_cell HP.out.blk 0).trans rfl); (have xP1 : wr.cell? ⟨b, 1, none⟩ = some (.slice p1 P.length q1) := (blk_cell HP.out.blk 1).trans rfl); (have xF0 : wr.cell? ⟨g, 0, none⟩ = some (.slice s0 Fl.length u0) := (blk_cell HF.out.blk 0).trans rfl); (have xF1 : wr.cell? ⟨g, 1, none⟩ = some (.slice s1 E.length u1) := (blk_cell HF.out.blk 1).trans rfl)
            by_cases c3 : i < (l0.length : Int)
            · have c3b : decide (i < (l0.length : Int)) = true := decide_eq_true c3
              have hi0 : 0 ≤ i := HI.out.1
              have HI2 : Aside0 (l0.length - (i.toNat + 1) < gk ∧ 0 ≤ i + 1 ∧ i + 1 ≤ l0.length ∧ (i + 1).toNat = i.toNat + 1) := ⟨by have := HI.out; omega⟩
              have HWI : Aside0 (wrap64 (i + 1) = i + 1) := ⟨by unfold wrap64; omega⟩
              obtain ⟨x, y, e1, e2, e3, e4, e5⟩ := HRD.out i hi0 c3
              have HX3 := Aside0.mk e3
              have hi100 : i ≤ 100 := by omega
              by_cases c4 : a1 ≤ i
              · have c4b : decide (a1 ≤ i) = true := decide_eq_true c4
                by_cases c5 : i < a1 + (l2.length : Int)
                · have c5b : decide (i < a1 + (l2.length : Int)) = true := decide_eq_true c5
                  have ex := e4 c4 c5
                  clear e4 e5
                  subst ex
                  have HX1 := Aside0.mk e1
                  have HX2 := Aside0.mk e2
                  obtain ⟨ad, ead, hx0⟩ := Kd.at_string HTX.out (i - a1) (by omega) (by omega)
                  cases ead
                  have HXC := Aside0.mk hx0
                  have k1 : (0 ≤ i - a1) = True := eq_true (by omega)
                  have k2 : (i - a1 < (l2.length : Int)) = True := eq_true (by omega)
                  have k3 : (a1 ≤ i) = True := eq_true c4
                  clear c3 c4 c5 e1 e2 e3 hx0
                  generalize rdOf ByteArray.empty l2 (i - a1) = x at *
                  go_wp2_with (first
            | (go_at_call 44; (with_reducible refine (disk_Read.calls _ q0 l0 _ q1 P i 1 x 0 _ ?s1 HP.out.l0 ?s2 HP.out.l1 HX1.out).mono ?_); (case s1 => exact HP.out.c0); (case s2 => exact HP.out.c1); rintro e w7 ⟨rfl, hb⟩; have HDn := Aside0.mk (HD.out.below hb); (try clear xD0 xD1); clear HD; have HD := HDn; clear HDn; (have xD0 : w7.cell? ⟨w.heap.size, 0, none⟩ = some (.slice A0 l0.length c0) := (blk_cell HD.out.blk 0).trans rfl); (have xD1 : w7.cell? ⟨w.heap.size, 1, none⟩ = some (.slice A1 l1.length c1) := (blk_cell HD.out.blk 1).trans rfl); have HPn := Aside0.mk (HP.out.below hb); (try clear xP0 xP1); clear HP; have HP := HPn; clear HPn; (have xP0 : w7.cell? ⟨b, 0, none⟩ = some (.slice p0 l0.length q0) := (blk_cell HP.out.blk 0).trans rfl); (have xP1 : w7.cell? ⟨b, 1, none⟩ = some (.slice p1 P.length q1) := (blk_cell HP.out.blk 1).trans rfl); have HFn := Aside0.mk (HF.out.below hb); (try clear xF0 xF1); clear HF; have HF := HFn; clear HFn; (have xF0 : w7.cell? ⟨g, 0, none⟩ = some (.slice s0 Fl.length u0) := (blk_cell HF.out.blk 0).trans rfl); (have xF1 : w7.cell? ⟨g, 1, none⟩ = some (.slice s1 E.length u1) := (blk_cell HF.out.blk 1).trans rfl); have HBn := Aside0.mk (below_step HB.out hb); clear HB; have HB := HBn; clear HBn; (try clear hb))
            | (go_at_call 44; (with_reducible refine (disk_Read.calls _ u0 Fl _ u1 E i 1 x 0 _ ?s1 HF.out.l0 ?s2 HF.out.l1 HX2.out).mono ?_); (case s1 => exact HF.out.c0); (case s2 => exact HF.out.c1); rintro e w8 ⟨rfl, hb⟩; have HDn := Aside0.mk (HD.out.below hb); (try clear xD0 xD1); clear HD; have HD := HDn; clear HDn; (have xD0 : w8.cell? ⟨w.heap.size, 0, none⟩ = some (.slice A0 l0.length c0) := (blk_cell HD.out.blk 0).trans rfl); (have xD1 : w8.cell? ⟨w.heap.size, 1, none⟩ = some (.slice A1 l1.length c1) := (blk_cell HD.out.blk 1).trans rfl); have HPn := Aside0.mk (HP.out.below hb); (try clear xP0 xP1); clear HP; have HP := HPn; clear HPn; (have xP0 : w8.cell? ⟨b, 0, none⟩ = some (.slice p0 l0.length q0) := (blk_cell HP.out.blk 0).trans rfl); (have xP1 : w8.cell? ⟨b, 1, none⟩ = some (.slice p1 P.length q1) := (blk_cell HP.out.blk 1).trans rfl); have HFn := Aside0.mk (HF.out.below hb); (try clear xF0 xF1); clear HF; have HF := HFn; clear HFn; (have xF0 : w8.cell? ⟨g, 0, none⟩ = some (.slice s0 Fl.length u0) := (blk_cell HF.out.blk 0).trans rfl); (have xF1 : w8.cell? ⟨g, 1, none⟩ = some (.slice s1 E.length u1) := (blk_cell HF.out.blk 1).trans rfl); have HBn := Aside0.mk (below_step HB.out hb); clear HB; have HB := HBn; clear HBn; (try clear hb))
            | (go_at_call 44; (with_reducible refine (disk_Read.calls _ c0 l0 _ c1 l1 i 1 y 0 _ ?s1 HD.out.l0 ?s2 HD.out.l1 HX3.out).mono ?_); (case s1 => exact HD.out.c0); (case s2 => exact HD.out.c1); rintro e w9 ⟨rfl, hb⟩; have HDn := Aside0.mk (HD.out.below hb); (try clear xD0 xD1); clear HD; have HD := HDn; clear HDn; (have xD0 : w9.cell? ⟨w.heap.size, 0, none⟩ = some (.slice A0 l0.length c0) := (blk_cell HD.out.blk 0).trans rfl); (have xD1 : w9.cell? ⟨w.heap.size, 1, none⟩ = some (.slice A1 l1.length c1) := (blk_cell HD.out.blk 1).trans rfl); have HPn := Aside0.mk (HP.out.below hb); (try clear xP0 xP1); clear HP; have HP := HPn; clear HPn; (have xP0 : w9.cell? ⟨b, 0, none⟩ = some (.slice p0 l0.length q0) := (blk_cell HP.out.blk 0).trans rfl); (have xP1 : w9.cell? ⟨b, 1, none⟩ = some (.slice p1 P.length q1) := (blk_cell HP.out.blk 1).trans rfl); have HFn := Aside0.mk (HF.out.below hb); (try clear xF0 xF1); clear HF; have HF := HFn; clear HFn; (have xF0 : w9.cell? ⟨g, 0, none⟩ = some (.slice s0 Fl.length u0) := (blk_cell HF.out.blk 0).trans rfl); (have xF1 : w9.cell? ⟨g, 1, none⟩ = some (.slice s1 E.length u1) := (blk_cell HF.out.blk 1).trans rfl); have HBn := Aside0.mk (below_step HB.out hb); clear HB; have HB := HBn; clear HBn; have hxc := (HB.out.cell (World.block_lt_of_cell? w _ HXC.out)).trans HXC.out; (try clear hb)))
                  go_roundg (l0.length - (i.toNat + 1))
                  case measure => exact HI2.out.1
                  case rel => exact ⟨i + 1, by first | rfl | rw [HWI.out], ⟨HI2.out.2.1, HI2.out.2.2.1, by rw [HI2.out.2.2.2]; exact Nat.le_refl _⟩, HD, HP, HF, HB⟩
                · have c5b : decide (i < a1 + (l2.length : Int)) = false := decide_eq_false c5
                  have ex := e5 (by omega)
                  clear e4 e5
                  subst ex
                  have HX1 := Aside0.mk e1
                  have HX2 := Aside0.mk e2
                  clear c3 c4 c5 e1 e2 e3
                  go_wp2_with (first
            | (go_at_call 44; (with_reducible refine (disk_Read.calls _ q0 l0 _ q1 P i 1 x 0 _ ?s1 HP.out.l0 ?s2 HP.out.l1 HX1.out).mono ?_); (case s1 => exact HP.out.c0); (case s2 => exact HP.out.c1); rintro e w7 ⟨rfl, hb⟩; have HDn := Aside0.mk (HD.out.below hb); (try clear xD0 xD1); clear HD; have HD := HDn; clear HDn; (have xD0 : w7.cell? ⟨w.heap.size, 0, none⟩ = some (.slice A0 l0.length c0) := (blk_cell HD.out.blk 0).trans rfl); (have xD1 : w7.cell? ⟨w.heap.size, 1, none⟩ = some (.slice A1 l1.length c1) := (blk_cell HD.out.blk 1).trans rfl); have HPn := Aside0.mk (HP.out.below hb); (try clear xP0 xP1); clear HP; have HP := HPn; clear HPn; (have xP0 : w7.cell? ⟨b, 0, none⟩ = some (.slice p0 l0.length q0) := (blk_cell HP.out.blk 0).trans rfl); (have xP1 : w7.cell? ⟨b, 1, none⟩ = some (.slice p1 P.length q1) := (blk_cell HP.out.blk 1).trans rfl); have HFn := Aside0.mk (HF.out.below hb); (try clear xF0 xF1); clear HF; have HF := HFn; clear HFn; (have xF0 : w7.cell? ⟨g, 0, none⟩ = some (.slice s0 Fl.length u0) := (blk_cell HF.out.blk 0).trans rfl); (have xF1 : w7.cell? ⟨g, 1, none⟩ = some (.slice s1 E.length u1) := (blk_cell HF.out.blk 1).trans rfl); have HBn := Aside0.mk (below_step HB.out hb); clear HB; have HB := HBn; clear HBn; (try clear hb))
            | (go_at_call 44; (with_reducible refine (disk_Read.calls _ u0 Fl _ u1 E i 1 x 0 _ ?s1 HF.out.l0 ?s2 HF.out.l1 HX2.out).mono ?_); (case s1 => exact HF.out.c0); (case s2 => exact HF.out.c1); rintro e w8 ⟨rfl, hb⟩; have HDn := Aside0.mk (HD.out.below hb); (try clear xD0 xD1); clear HD; have HD := HDn; clear HDn; (have xD0 : w8.cell? ⟨w.heap.size, 0, none⟩ = some (.slice A0 l0.length c0) := (blk_cell HD.out.blk 0).trans rfl); (have xD1 : w8.cell? ⟨w.heap.size, 1, none⟩ = some (.slice A1 l1.length c1) := (blk_cell HD.out.blk 1).trans rfl); have HPn := Aside0.mk (HP.out.below hb); (try clear xP0 xP1); clear HP; have HP := HPn; clear HPn; (have xP0 : w8.cell? ⟨b, 0, none⟩ = some (.slice p0 l0.length q0) := (blk_cell HP.out.blk 0).trans rfl); (have xP1 : w8.cell? ⟨b, 1, none⟩ = some (.slice p1 P.length q1) := (blk_cell HP.out.blk 1).trans rfl); have HFn := Aside0.mk (HF.out.below hb); (try clear xF0 xF1); clear HF; have HF := HFn; clear HFn; (have xF0 : w8.cell? ⟨g, 0, none⟩ = some (.slice s0 Fl.length u0) := (blk_cell HF.out.blk 0).trans rfl); (have xF1 : w8.cell? ⟨g, 1, none⟩ = some (.slice s1 E.length u1) := (blk_cell HF.out.blk 1).trans rfl); have HBn := Aside0.mk (below_step HB.out hb); clear HB; have HB := HBn; clear HBn; (try clear hb))
            | (go_at_call 44; (with_reducible refine (disk_Read.calls _ c0 l0 _ c1 l1 i 1 x 0 _ ?s1 HD.out.l0 ?s2 HD.out.l1 HX3.out).mono ?_); (case s1 => exact HD.out.c0); (case s2 => exact HD.out.c1); rintro e w9 ⟨rfl, hb⟩; have HDn := Aside0.mk (HD.out.below hb); (try clear xD0 xD1); clear HD; have HD := HDn; clear HDn; (have xD0 : w9.cell? ⟨w.heap.size, 0, none⟩ = some (.slice A0 l0.length c0) := (blk_cell HD.out.blk 0).trans rfl); (have xD1 : w9.cell? ⟨w.heap.size, 1, none⟩ = some (.slice A1 l1.length c1) := (blk_cell HD.out.blk 1).trans rfl); have HPn := Aside0.mk (HP.out.below hb); (try clear xP0 xP1); clear HP; have HP := HPn; clear HPn; (have xP0 : w9.cell? ⟨b, 0, none⟩ = some (.slice p0 l0.length q0) := (blk_cell HP.out.blk 0).trans rfl); (have xP1 : w9.cell? ⟨b, 1, none⟩ = some (.slice p1 P.length q1) := (blk_cell HP.out.blk 1).trans rfl); have HFn := Aside0.mk (HF.out.below hb); (try clear xF0 xF1); clear HF; have HF := HFn; clear HFn; (have xF0 : w9.cell? ⟨g, 0, none⟩ = some (.slice s0 Fl.length u0) := (blk_cell HF.out.blk 0).trans rfl); (have xF1 : w9.cell? ⟨g, 1, none⟩ = some (.slice s1 E.length u1) := (blk_cell HF.out.blk 1).trans rfl); have HBn := Aside0.mk (below_step HB.out hb); clear HB; have HB := HBn; clear HBn; (try clear hb)))
                  go_roundg (l0.length - (i.toNat + 1))
                  case measure => exact HI2.out.1
                  case rel => exact ⟨i + 1, by first | rfl | rw [HWI.out], ⟨HI2.out.2.1, HI2.out.2.2.1, by rw [HI2.out.2.2.2]; exact Nat.le_refl _⟩, HD, HP, HF, HB⟩
              · have c4b : decide (a1 ≤ i) = false := decide_eq_false c4
                have ex := e5 (by omega)
                clear e4 e5
                subst ex
                have HX1 := Aside0.mk e1
                have HX2 := Aside0.mk e2
                clear c3 c4 e1 e2 e3
                go_wp2_with (first
          | (go_at_call 44; (with_reducible refine (disk_Read.calls _ q0 l0 _ q1 P i 1 x 0 _ ?s1 HP.out.l0 ?s2 HP.out.l1 HX1.out).mono ?_); (case s1 => exact HP.out.c0); (case s2 => exact HP.out.c1); rintro e w7 ⟨rfl, hb⟩; have HDn := Aside0.mk (HD.out.below hb); (try clear xD0 xD1); clear HD; have HD := HDn; clear HDn; (have xD0 : w7.cell? ⟨w.heap.size, 0, none⟩ = some (.slice A0 l0.length c0) := (blk_cell HD.out.blk 0).trans rfl); (have xD1 : w7.cell? ⟨w.heap.size, 1, none⟩ = some (.slice A1 l1.length c1) := (blk_cell HD.out.blk 1).trans rfl); have HPn := Aside0.mk (HP.out.below hb); (try clear xP0 xP1); clear HP; have HP := HPn; clear HPn; (have xP0 : w7.cell? ⟨b, 0, none⟩ = some (.slice p0 l0.length q0) := (blk_cell HP.out.blk 0).trans rfl); (have xP1 : w7.cell? ⟨b, 1, none⟩ = some (.slice p1 P.length q1) := (blk_cell HP.out.blk 1).trans rfl); have HFn := Aside0.mk (HF.out.below hb); (try clear xF0 xF1); clear HF; have HF := HFn; clear HFn; (have xF0 : w7.cell? ⟨g, 0, none⟩ = some (.slice s0 Fl.length u0) := (blk_cell HF.out.blk 0).trans rfl); (have xF1 : w7.cell? ⟨g, 1, none⟩ = some (.slice s1 E.length u1) := (blk_cell HF.out.blk 1).trans rfl); have HBn := Aside0.mk (below_step HB.out hb); clear HB; have HB := HBn; clear HBn; (try clear hb))
          | (go_at_call 44; (with_reducible refine (disk_Read.calls _ u0 Fl _ u1 E i 1 x 0 _ ?s1 HF.out.l0 ?s2 HF.out.l1 HX2.out).mono ?_); (case s1 => exact HF.out.c0); (case s2 => exact HF.out.c1); rintro e w8 ⟨rfl, hb⟩; have HDn := Aside0.mk (HD.out.below hb); (try clear xD0 xD1); clear HD; have HD := HDn; clear HDn; (have xD0 : w8.cell? ⟨w.heap.size, 0, none⟩ = some (.slice A0 l0.length c0) := (blk_cell HD.out.blk 0).trans rfl); (have xD1 : w8.cell? ⟨w.heap.size, 1, none⟩ = some (.slice A1 l1.length c1) := (blk_cell HD.out.blk 1).trans rfl); have HPn := Aside0.mk (HP.out.below hb); (try clear xP0 xP1); clear HP; have HP := HPn; clear HPn; (have xP0 : w8.cell? ⟨b, 0, none⟩ = some (.slice p0 l0.length q0) := (blk_cell HP.out.blk 0).trans rfl); (have xP1 : w8.cell? ⟨b, 1, none⟩ = some (.slice p1 P.length q1) := (blk_cell HP.out.blk 1).trans rfl); have HFn := Aside0.mk (HF.out.below hb); (try clear xF0 xF1); clear HF; have HF := HFn; clear HFn; (have xF0 : w8.cell? ⟨g, 0, none⟩ = some (.slice s0 Fl.length u0) := (blk_cell HF.out.blk 0).trans rfl); (have xF1 : w8.cell? ⟨g, 1, none⟩ = some (.slice s1 E.length u1) := (blk_cell HF.out.blk 1).trans rfl); have HBn := Aside0.mk (below_step HB.out hb); clear HB; have HB := HBn; clear HBn; (try clear hb))
          | (go_at_call 44; (with_reducible refine (disk_Read.calls _ c0 l0 _ c1 l1 i 1 x 0 _ ?s1 HD.out.l0 ?s2 HD.out.l1 HX3.out).mono ?_); (case s1 => exact HD.out.c0); (case s2 => exact HD.out.c1); rintro e w9 ⟨rfl, hb⟩; have HDn := Aside0.mk (HD.out.below hb); (try clear xD0 xD1); clear HD; have HD := HDn; clear HDn; (have xD0 : w9.cell? ⟨w.heap.size, 0, none⟩ = some (.slice A0 l0.length c0) := (blk_cell HD.out.blk 0).trans rfl); (have xD1 : w9.cell? ⟨w.heap.size, 1, none⟩ = some (.slice A1 l1.length c1) := (blk_cell HD.out.blk 1).trans rfl); have HPn := Aside0.mk (HP.out.below hb); (try clear xP0 xP1); clear HP; have HP := HPn; clear HPn; (have xP0 : w9.cell? ⟨b, 0, none⟩ = some (.slice p0 l0.length q0) := (blk_cell HP.out.blk 0).trans rfl); (have xP1 : w9.cell? ⟨b, 1, none⟩ = some (.slice p1 P.length q1) := (blk_cell HP.out.blk 1).trans rfl); have HFn := Aside0.mk (HF.out.below hb); (try clear xF0 xF1); clear HF; have HF := HFn; clear HFn; (have xF0 : w9.cell? ⟨g, 0, none⟩ = some (.slice s0 Fl.length u0) := (blk_cell HF.out.blk 0).trans rfl); (have xF1 : w9.cell? ⟨g, 1, none⟩ = some (.slice s1 E.length u1) := (blk_cell HF.out.blk 1).trans rfl); have HBn := Aside0.mk (below_step HB.out hb); clear HB; have HB := HBn; clear HBn; (try clear hb)))
                go_roundg (l0.length - (i.toNat + 1))
                case measure => exact HI2.out.1
                case rel => exact ⟨i + 1, by first | rfl | rw [HWI.out], ⟨HI2.out.2.1, HI2.out.2.2.1, by rw [HI2.out.2.2.2]; exact Nat.le_refl _⟩, HD, HP, HF, HB⟩
            · have c3b : decide (i < (l0.length : Int)) = false := decide_eq_false c3
              clear c3 HI
              go_wp2_with (first
        | (go_at_call 43; (with_reducible refine (weirkeeperlaw04_awake.calls _ Pl.awake_eq).mono ?_); rintro e w7 ⟨rfl, hb⟩; have HDn := Aside0.mk (HD.out.below hb); (try clear xD0 xD1); clear HD; have HD := HDn; clear HDn; (have xD0 : w7.cell? ⟨w.heap.size, 0, none⟩ = some (.slice A0 l0.length c0) := (blk_cell HD.out.blk 0).trans rfl); (have xD1 : w7.cell? ⟨w.heap.size, 1, none⟩ = some (.slice A1 l1.length c1) := (blk_cell HD.out.blk 1).trans rfl); have HPn := Aside0.mk (HP.out.below hb); (try clear xP0 xP1); clear HP; have HP := HPn; clear HPn; (have xP0 : w7.cell? ⟨b, 0, none⟩ = some (.slice p0 l0.length q0) := (blk_cell HP.out.blk 0).trans rfl); (have xP1 : w7.cell? ⟨b, 1, none⟩ = some (.slice p1 P.length q1) := (blk_cell HP.out.blk 1).trans rfl); have HFn := Aside0.mk (HF.out.below hb); (try clear xF0 xF1); clear HF; have HF := HFn; clear HFn; (have xF0 : w7.cell? ⟨g, 0, none⟩ = some (.slice s0 Fl.length u0) := (blk_cell HF.out.blk 0).trans rfl); (have xF1 : w7.cell? ⟨g, 1, none⟩ = some (.slice s1 E.length u1) := (blk_cell HF.out.blk 1).trans rfl); have HBn := Aside0.mk (below_step HB.out hb); clear HB; have HB := HBn; clear HBn; (try clear hb)))
              go_ret
              exact ⟨rfl, HB.out⟩
set_option maxRecDepth 100000 in
theorem weirkeeperlaw04_DiskReads.calls (k : Nat) (A0 : Option Addr) (c0 : Nat) (l0 : List ByteArray) (A1 : Option Addr) (c1 : Nat) (l1 : List S104) (a1 : Int) (A2 : Option Addr) (c2 : Nat) (l2 : List ByteArray) (w : World)
    (hr0 : Kd.C Kd.string w A0 l0.length l0) (hc0 : l0.length ≤ c0) (hr1 : Kd.C k104 w A1 l1.length l1) (hc1 : l1.length ≤ c1) (hr2 : Kd.C Kd.string w A2 l2.length l2) (hc2 : l2.length ≤ c2) (h : weirkeeperlaw04_DiskReads.f k l0 l1 a1 l2 = some true) :
    Calls Try.prog 10 #[.agg #[.slice A0 l0.length c0, .slice A1 l1.length c1], .int .i64 a1, .slice A2 l2.length c2] w fun e w' => e = .returned (.bool true) ∧ Below w.heap.size w w' := by
  unfold weirkeeperlaw04_DiskReads.f at h
  split at h
  · rename_i c
    exact weirkeeperlaw04_DiskReads.walk A0 c0 l0 A1 c1 l1 a1 A2 c2 l2 w hr0 hc0 hr1 hc1 hr2 hc2 c.2.2
  · exact absurd h (by simp)
end Go.Proofs.Ythidkdlmpkeogaa.F
