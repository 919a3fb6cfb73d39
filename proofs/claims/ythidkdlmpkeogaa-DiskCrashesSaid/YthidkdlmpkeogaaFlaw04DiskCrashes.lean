/- DiskCrashes, walked: behind a crash each sector is what lasted, or what one write that waited has; the rows may lie wherever. -/
import Derived.Test.YthidkdlmpkeogaaPlDisk2
import Derived.Test.YthidkdlmpkeogaaVwDisk
import Derived.Test.YthidkdlmpkeogaaPlAwake04
import Derived.Deep.LoopGhost
import Derived.Deep.RegionHeld3
namespace Go.Proofs.Ythidkdlmpkeogaa.F
open Go.RowKit Go.Proofs.YthidkdlmpkeogaaW.PrintWords Go.Proofs.YthidkdlmpkeogaaW.PrintLast Go.Proofs.YthidkdlmpkeogaaW.PrintMore
attribute [local go_sem] max2_int min2_int max_two min_two max_three min_three max_four min_four
set_option linter.unusedVariables false
set_option linter.unusedSimpArgs false
def weirkeeperlaw04_DiskCrashes.f (k : Nat) (l0 : List ByteArray) (l1 : List S104) (l2 : List Bool) : Option Bool := if l1.length * 24 ≤ 140737488351232 then some true else none
set_option maxHeartbeats 8000000 in
set_option maxRecDepth 100000 in
theorem weirkeeperlaw04_DiskCrashes.walk (A0 : Option Addr) (c0 : Nat) (l0 : List ByteArray) (A1 : Option Addr) (c1 : Nat) (l1 : List S104) (A2 : Option Addr) (c2 : Nat) (l2 : List Bool) (w : World)
    (hr0 : Kd.C Kd.string w A0 l0.length l0) (hc0 : l0.length ≤ c0) (hr1 : Kd.C k104 w A1 l1.length l1) (hc1 : l1.length ≤ c1) (hr2 : Kd.C Kd.bool w A2 l2.length l2) (hc2 : l2.length ≤ c2) (hz : l1.length * 24 ≤ 140737488351232) :
    Calls Try.prog 11 #[.agg #[.slice A0 l0.length c0, .slice A1 l1.length c1], .slice A2 l2.length c2] w fun e w' => e = .returned (.bool true) ∧ Below w.heap.size w w' := by
  have HZ := Aside0.mk hz
  have HB := Aside0.mk (below_alloc (Below.refl w.heap.size w) (.cells #[.slice A0 l0.length c0, .slice A1 l1.length c1] 86))
  have HD := Aside0.mk (BoxD.arg hr0 hc0 hr1 hc1)
  have HTX := Aside0.mk hr2
  have HTC := Aside0.mk hc2
  have hn2 := Kd.C_max hr2
  have tok1 := True.intro
  have HV := Aside0.mk (ViewD.mk hr0 hc0 hr1 hc1)
  clear hz hr0 hc0 hr1 hc1 hr2 hc2
  cases hs : decide (l0.length ≤ 100 ∧ (refW l1).length ≤ 60) with
  | false =>
    have HSM : Aside0 (weirkeeperref04_Small.f l0 (refW l1) = some false) := ⟨(Pl.small_eq _ _).trans (congrArg some hs)⟩
    clear hs
    go_enter Try.func11, Try.ntmps11
    go_wp2_with (first
        | (go_at_call 47; (with_reducible refine (law04_Ref _ c0 l0 _ c1 l1 _ ?s1 HZ.out).mono ?_); (case s1 => exact HD.out.c1); rintro e w2 ⟨AR, cR, rfl, h2, h3, hb⟩; have HR2 := Aside0.mk h2; have HR3 := Aside0.mk h3; clear h2 h3; have HDn := Aside0.mk (HD.out.below hb); (try clear xD0 xD1); clear HD; have HD := HDn; clear HDn; (have xD0 : w2.cell? ⟨w.heap.size, 0, none⟩ = some (.slice A0 l0.length c0) := (blk_cell HD.out.blk 0).trans rfl); (have xD1 : w2.cell? ⟨w.heap.size, 1, none⟩ = some (.slice A1 l1.length c1) := (blk_cell HD.out.blk 1).trans rfl); have HBn := Aside0.mk (below_step HB.out hb); clear HB; have HB := HBn; clear HBn; (try clear hb))
        | (go_at_call 46; (with_reducible refine (weirkeeperref04_Small.calls _ c0 l0 _ _ (refW l1) false _ ?s1 HD.out.l0 ?s2 HR2.out HSM.out).mono ?_); (case s1 => exact HD.out.c0); (case s2 => exact HR3.out); rintro e w3 ⟨rfl, hb⟩; have HDn := Aside0.mk (HD.out.below hb); (try clear xD0 xD1); clear HD; have HD := HDn; clear HDn; (have xD0 : w3.cell? ⟨w.heap.size, 0, none⟩ = some (.slice A0 l0.length c0) := (blk_cell HD.out.blk 0).trans rfl); (have xD1 : w3.cell? ⟨w.heap.size, 1, none⟩ = some (.slice A1 l1.length c1) := (blk_cell HD.out.blk 1).trans rfl); have HBn := Aside0.mk (below_step HB.out hb); clear HB; have HB := HBn; clear HBn; (try clear hb))
        | (go_at_call 43; (with_reducible refine (weirkeeperlaw04_awake.calls _ Pl.awake_eq).mono ?_); rintro e w4 ⟨rfl, hb⟩; have HDn := Aside0.mk (HD.out.below hb); (try clear xD0 xD1); clear HD; have HD := HDn; clear HDn; (have xD0 : w4.cell? ⟨w.heap.size, 0, none⟩ = some (.slice A0 l0.length c0) := (blk_cell HD.out.blk 0).trans rfl); (have xD1 : w4.cell? ⟨w.heap.size, 1, none⟩ = some (.slice A1 l1.length c1) := (blk_cell HD.out.blk 1).trans rfl); have HBn := Aside0.mk (below_step HB.out hb); clear HB; have HB := HBn; clear HBn; (try clear hb)))
    go_ret
    exact ⟨rfl, HB.out⟩
  | true =>
    have HSM : Aside0 (weirkeeperref04_Small.f l0 (refW l1) = some true) := ⟨(Pl.small_eq _ _).trans (congrArg some hs)⟩
    have hsm := of_decide_eq_true hs
    rw [refW, List.length_map] at hsm
    have HSL := Aside0.mk hsm
    clear hs hsm
    by_cases ct : 60 < l2.length
    · have ct1 : decide (60 < (l2.length : Int)) = true := decide_eq_true (by omega)
      have ct2 : decide (60 < l2.length) = true := decide_eq_true ct
      clear ct
      go_enter Try.func11, Try.ntmps11
      go_wp2_with (first
        | (go_at_call 47; (with_reducible refine (law04_Ref _ c0 l0 _ c1 l1 _ ?s1 HZ.out).mono ?_); (case s1 => exact HD.out.c1); rintro e w2 ⟨AR, cR, rfl, h2, h3, hb⟩; have HR2 := Aside0.mk h2; have HR3 := Aside0.mk h3; clear h2 h3; have HDn := Aside0.mk (HD.out.below hb); (try clear xD0 xD1); clear HD; have HD := HDn; clear HDn; (have xD0 : w2.cell? ⟨w.heap.size, 0, none⟩ = some (.slice A0 l0.length c0) := (blk_cell HD.out.blk 0).trans rfl); (have xD1 : w2.cell? ⟨w.heap.size, 1, none⟩ = some (.slice A1 l1.length c1) := (blk_cell HD.out.blk 1).trans rfl); have HBn := Aside0.mk (below_step HB.out hb); clear HB; have HB := HBn; clear HBn; (try clear hb))
        | (go_at_call 46; (with_reducible refine (weirkeeperref04_Small.calls _ c0 l0 _ _ (refW l1) true _ ?s1 HD.out.l0 ?s2 HR2.out HSM.out).mono ?_); (case s1 => exact HD.out.c0); (case s2 => exact HR3.out); rintro e w3 ⟨rfl, hb⟩; have HDn := Aside0.mk (HD.out.below hb); (try clear xD0 xD1); clear HD; have HD := HDn; clear HDn; (have xD0 : w3.cell? ⟨w.heap.size, 0, none⟩ = some (.slice A0 l0.length c0) := (blk_cell HD.out.blk 0).trans rfl); (have xD1 : w3.cell? ⟨w.heap.size, 1, none⟩ = some (.slice A1 l1.length c1) := (blk_cell HD.out.blk 1).trans rfl); have HBn := Aside0.mk (below_step HB.out hb); clear HB; have HB := HBn; clear HBn; (try clear hb))
        | (go_at_call 43; (with_reducible refine (weirkeeperlaw04_awake.calls _ Pl.awake_eq).mono ?_); rintro e w4 ⟨rfl, hb⟩; have HDn := Aside0.mk (HD.out.below hb); (try clear xD0 xD1); clear HD; have HD := HDn; clear HDn; (have xD0 : w4.cell? ⟨w.heap.size, 0, none⟩ = some (.slice A0 l0.length c0) := (blk_cell HD.out.blk 0).trans rfl); (have xD1 : w4.cell? ⟨w.heap.size, 1, none⟩ = some (.slice A1 l1.length c1) := (blk_cell HD.out.blk 1).trans rfl); have HBn := Aside0.mk (below_step HB.out hb); clear HB; have HB := HBn; clear HBn; (try clear hb)))
      go_ret
      exact ⟨rfl, HB.out⟩
    · have ct1 : decide (60 < (l2.length : Int)) = false := decide_eq_false (by omega)
      have ct2 : decide (60 < l2.length) = false := decide_eq_false ct
      clear ct
      cases hb : disk_right l0 l1 with
      | false =>
        have HRT : Aside0 (disk_Right.f l0 l1 = some false) := ⟨congrArg some hb⟩
        clear hb
        go_enter Try.func11, Try.ntmps11
        go_wp2_with (first
        | (go_at_call 47; (with_reducible refine (law04_Ref _ c0 l0 _ c1 l1 _ ?s1 HZ.out).mono ?_); (case s1 => exact HD.out.c1); rintro e w2 ⟨AR, cR, rfl, h2, h3, hb⟩; have HR2 := Aside0.mk h2; have HR3 := Aside0.mk h3; clear h2 h3; have HDn := Aside0.mk (HD.out.below hb); (try clear xD0 xD1); clear HD; have HD := HDn; clear HDn; (have xD0 : w2.cell? ⟨w.heap.size, 0, none⟩ = some (.slice A0 l0.length c0) := (blk_cell HD.out.blk 0).trans rfl); (have xD1 : w2.cell? ⟨w.heap.size, 1, none⟩ = some (.slice A1 l1.length c1) := (blk_cell HD.out.blk 1).trans rfl); have HBn := Aside0.mk (below_step HB.out hb); clear HB; have HB := HBn; clear HBn; (try clear hb))
        | (go_at_call 46; (with_reducible refine (weirkeeperref04_Small.calls _ c0 l0 _ _ (refW l1) true _ ?s1 HD.out.l0 ?s2 HR2.out HSM.out).mono ?_); (case s1 => exact HD.out.c0); (case s2 => exact HR3.out); rintro e w3 ⟨rfl, hb⟩; have HDn := Aside0.mk (HD.out.below hb); (try clear xD0 xD1); clear HD; have HD := HDn; clear HDn; (have xD0 : w3.cell? ⟨w.heap.size, 0, none⟩ = some (.slice A0 l0.length c0) := (blk_cell HD.out.blk 0).trans rfl); (have xD1 : w3.cell? ⟨w.heap.size, 1, none⟩ = some (.slice A1 l1.length c1) := (blk_cell HD.out.blk 1).trans rfl); have HBn := Aside0.mk (below_step HB.out hb); clear HB; have HB := HBn; clear HBn; (try clear hb))
        | (go_at_call 45; (with_reducible refine (disk_Right.calls _ c0 l0 _ c1 l1 false _ ?s1 HD.out.l0 ?s2 HD.out.l1 HRT.out).mono ?_); (case s1 => exact HD.out.c0); (case s2 => exact HD.out.c1); rintro e w4 ⟨rfl, hb⟩; have HDn := Aside0.mk (HD.out.below hb); (try clear xD0 xD1); clear HD; have HD := HDn; clear HDn; (have xD0 : w4.cell? ⟨w.heap.size, 0, none⟩ = some (.slice A0 l0.length c0) := (blk_cell HD.out.blk 0).trans rfl); (have xD1 : w4.cell? ⟨w.heap.size, 1, none⟩ = some (.slice A1 l1.length c1) := (blk_cell HD.out.blk 1).trans rfl); have HBn := Aside0.mk (below_step HB.out hb); clear HB; have HB := HBn; clear HBn; (try clear hb))
        | (go_at_call 43; (with_reducible refine (weirkeeperlaw04_awake.calls _ Pl.awake_eq).mono ?_); rintro e w5 ⟨rfl, hb⟩; have HDn := Aside0.mk (HD.out.below hb); (try clear xD0 xD1); clear HD; have HD := HDn; clear HDn; (have xD0 : w5.cell? ⟨w.heap.size, 0, none⟩ = some (.slice A0 l0.length c0) := (blk_cell HD.out.blk 0).trans rfl); (have xD1 : w5.cell? ⟨w.heap.size, 1, none⟩ = some (.slice A1 l1.length c1) := (blk_cell HD.out.blk 1).trans rfl); have HBn := Aside0.mk (below_step HB.out hb); clear HB; have HB := HBn; clear HBn; (try clear hb)))
        go_ret
        exact ⟨rfl, HB.out⟩
      | true =>
        have HRT : Aside0 (disk_Right.f l0 l1 = some true) := ⟨congrArg some hb⟩
        obtain ⟨Cl, Fl, E, h1, h2, h3, h4, h5, h6, h7, h8, h9⟩ := Pl.crashes_ok (by have := HSL.out; omega) (by have := HSL.out; omega) hb l2
        have HE := Aside0.mk h1
        have HEZ : Aside0 (E.length * 24 ≤ 140737488351232) := ⟨by rw [h1]; simp⟩
        have HK1 := Aside0.mk h2
        have HKR := Aside0.mk h3
        have HK2 := Aside0.mk h5
        have HK3 := Aside0.mk h6
        have HK4 := Aside0.mk h7
        have HK5 := Aside0.mk h8
        have HAN := Aside0.mk h9
        have HCL := Aside0.mk h4
        have hC1 : ((Cl.length : Int) == (l0.length : Int)) = true := by rw [h4]; simp
        have hC2 : (Cl.length == l0.length) = true := by rw [h4]; simp
        have hC3 : ((Cl.length : Int) != (l0.length : Int)) = false := by rw [h4]; simp
        have hC4 : (Cl.length != l0.length) = false := by rw [h4]; simp
        have hE1 : ((E.length : Int) != 0) = false := by rw [h1]; rfl
        have hE2 : (E.length != 0) = false := by rw [h1]; rfl
        have hE3 : ((E.length : Int) == 0) = true := by rw [h1]; rfl
        have hE4 : (E.length == 0) = true := by rw [h1]; rfl
        have hw60 : (l1.length : Int) ≤ 60 := by have := HSL.out; omega
        have hS1 : (l0.length : Int) ≤ 100 := by have := HSL.out; omega
        clear h1 h2 h3 h4 h5 h6 h7 h8 h9 hb
        go_enter Try.func11, Try.ntmps11
        go_wp2_with (first
        | (go_at_call 47; (with_reducible refine (law04_Ref _ c0 l0 _ c1 l1 _ ?s1 HZ.out).mono ?_); (case s1 => exact HD.out.c1); rintro e w2 ⟨AR, cR, rfl, h2, h3, hb⟩; have HR2 := Aside0.mk h2; have HR3 := Aside0.mk h3; clear h2 h3; have HDn := Aside0.mk (HD.out.below hb); (try clear xD0 xD1); clear HD; have HD := HDn; clear HDn; (have xD0 : w2.cell? ⟨w.heap.size, 0, none⟩ = some (.slice A0 l0.length c0) := (blk_cell HD.out.blk 0).trans rfl); (have xD1 : w2.cell? ⟨w.heap.size, 1, none⟩ = some (.slice A1 l1.length c1) := (blk_cell HD.out.blk 1).trans rfl); have HBn := Aside0.mk (below_step HB.out hb); clear HB; have HB := HBn; clear HBn; (try clear hb))
        | (go_at_call 46; (with_reducible refine (weirkeeperref04_Small.calls _ c0 l0 _ _ (refW l1) true _ ?s1 HD.out.l0 ?s2 HR2.out HSM.out).mono ?_); (case s1 => exact HD.out.c0); (case s2 => exact HR3.out); rintro e w3 ⟨rfl, hb⟩; have HDn := Aside0.mk (HD.out.below hb); (try clear xD0 xD1); clear HD; have HD := HDn; clear HDn; (have xD0 : w3.cell? ⟨w.heap.size, 0, none⟩ = some (.slice A0 l0.length c0) := (blk_cell HD.out.blk 0).trans rfl); (have xD1 : w3.cell? ⟨w.heap.size, 1, none⟩ = some (.slice A1 l1.length c1) := (blk_cell HD.out.blk 1).trans rfl); have HBn := Aside0.mk (below_step HB.out hb); clear HB; have HB := HBn; clear HBn; (try clear hb))
        | (go_at_call 45; have _t := tok1; clear _t tok1; (with_reducible refine (disk_Right.calls _ c0 l0 _ c1 l1 true _ ?s1 HD.out.l0 ?s2 HD.out.l1 HRT.out).mono ?_); (case s1 => exact HD.out.c0); (case s2 => exact HD.out.c1); rintro e w4 ⟨rfl, hb⟩; have HDn := Aside0.mk (HD.out.below hb); (try clear xD0 xD1); clear HD; have HD := HDn; clear HDn; (have xD0 : w4.cell? ⟨w.heap.size, 0, none⟩ = some (.slice A0 l0.length c0) := (blk_cell HD.out.blk 0).trans rfl); (have xD1 : w4.cell? ⟨w.heap.size, 1, none⟩ = some (.slice A1 l1.length c1) := (blk_cell HD.out.blk 1).trans rfl); have HBn := Aside0.mk (below_step HB.out hb); clear HB; have HB := HBn; clear HBn; (try clear hb))
        | (go_at_call 51; (with_reducible refine (disk_Crash.calls _ c0 l0 _ c1 l1 A2 c2 l2 Cl E _ ?s1 HD.out.l0 ?s2 HD.out.l1 ?s3 HTC.out HK1.out).mono ?_); (case s1 => exact HD.out.c0); (case s2 => exact HD.out.c1); (case s3 => exact Kd.C_below HTX.out HB.out); rintro e w5 ⟨v0, v1, rfl, hv0, hv1, hb⟩; obtain ⟨p0, q0, rfl⟩ := Kd.R_slice hv0; obtain ⟨p1, q1, rfl⟩ := Kd.R_slice hv1; have HCk := Aside0.mk (BoxD.new hv0 hv1); clear hv0 hv1; have HDn := Aside0.mk ((HD.out.below hb).alloc (.cells #[.slice p0 Cl.length q0, .slice p1 E.length q1] 86)); (try clear xD0 xD1); clear HD; have HD := HDn; clear HDn; (have xD0 : (w5.alloc (.cells #[.slice p0 Cl.length q0, .slice p1 E.length q1] 86)).cell? ⟨w.heap.size, 0, none⟩ = some (.slice A0 l0.length c0) := (blk_cell HD.out.blk 0).trans rfl); (have xD1 : (w5.alloc (.cells #[.slice p0 Cl.length q0, .slice p1 E.length q1] 86)).cell? ⟨w.heap.size, 1, none⟩ = some (.slice A1 l1.length c1) := (blk_cell HD.out.blk 1).trans rfl); have HBn := Aside0.mk (below_alloc (below_step HB.out hb) (.cells #[.slice p0 Cl.length q0, .slice p1 E.length q1] 86)); clear HB; have HB := HBn; clear HBn; have HC := HCk; clear HCk; (have xC0 : (w5.alloc (.cells #[.slice p0 Cl.length q0, .slice p1 E.length q1] 86)).cell? ⟨w5.heap.size, 0, none⟩ = some (.slice p0 Cl.length q0) := (blk_cell HC.out.blk 0).trans rfl); (have xC1 : (w5.alloc (.cells #[.slice p0 Cl.length q0, .slice p1 E.length q1] 86)).cell? ⟨w5.heap.size, 1, none⟩ = some (.slice p1 E.length q1) := (blk_cell HC.out.blk 1).trans rfl); (try clear hb))
        | (go_at_call 45; (with_reducible refine (disk_Right.calls _ q0 Cl _ q1 E true _ ?s1 HC.out.l0 ?s2 HC.out.l1 HKR.out).mono ?_); (case s1 => exact HC.out.c0); (case s2 => exact HC.out.c1); rintro e w6 ⟨rfl, hb⟩; have HDn := Aside0.mk (HD.out.below hb); (try clear xD0 xD1); clear HD; have HD := HDn; clear HDn; (have xD0 : w6.cell? ⟨w.heap.size, 0, none⟩ = some (.slice A0 l0.length c0) := (blk_cell HD.out.blk 0).trans rfl); (have xD1 : w6.cell? ⟨w.heap.size, 1, none⟩ = some (.slice A1 l1.length c1) := (blk_cell HD.out.blk 1).trans rfl); have HCn := Aside0.mk (HC.out.below hb); (try clear xC0 xC1); clear HC; have HC := HCn; clear HCn; (have xC0 : w6.cell? ⟨w5.heap.size, 0, none⟩ = some (.slice p0 Cl.length q0) := (blk_cell HC.out.blk 0).trans rfl); (have xC1 : w6.cell? ⟨w5.heap.size, 1, none⟩ = some (.slice p1 E.length q1) := (blk_cell HC.out.blk 1).trans rfl); have HBn := Aside0.mk (below_step HB.out hb); clear HB; have HB := HBn; clear HBn; (try clear hb)))
        (try clear xC0 xC1 xD0 xD1)
        have HC' := HC
        clear HC
        generalize w5.heap.size = b at HC' ⊢
        clear hC1 hC2 hC3 hC4 hE1 hE2 hE3 hE4
        go_loopg [52] Cl.length (fun gg v52 wr => ∃ i : Int, v52 = .int .i64 i ∧ Aside0 (0 ≤ i ∧ i ≤ Cl.length ∧ Cl.length - i.toNat ≤ gg) ∧ Aside0 (BoxD wr w.heap.size A0 c0 l0 A1 c1 l1) ∧ Aside0 (BoxD wr b p0 q0 Cl p1 q1 E) ∧ Aside0 (Below w.heap.size w wr))
        case atStart => exact ⟨0, rfl, ⟨by omega, by omega, by simp⟩, HD, HC', HB⟩
        case round =>
          clear HD HC' HB
          obtain ⟨i, rfl, HI, HD, HC, HB⟩ := hrel
          (have xD0 : wr.cell? ⟨w.heap.size, 0, none⟩ = some (.slice A0 l0.length c0) := (blk_cell HD.out.blk 0).trans rfl); (have xD1 : wr.cell? ⟨w.heap.size, 1, none⟩ = some (.slice A1 l1.length c1) := (blk_cell HD.out.blk 1).trans rfl); (have xC0 : wr.cell? ⟨b, 0, none⟩ = some (.slice p0 Cl.length q0) := (blk_cell HC.out.blk 0).trans rfl); (have xC1 : wr.cell? ⟨b, 1, none⟩ = some (.slice p1 E.length q1) := (blk_cell HC.out.blk 1).trans rfl)
          by_cases c3 : i < (Cl.length : Int)
          · have c3b : decide (i < (Cl.length : Int)) = true := decide_eq_true c3
            have hi0 : 0 ≤ i := HI.out.1
            have c3' : i < (l0.length : Int) := by have := HCL.out; omega
            have HI2 : Aside0 (Cl.length - (i.toNat + 1) < gk ∧ 0 ≤ i + 1 ∧ i + 1 ≤ Cl.length ∧ (i + 1).toNat = i.toNat + 1) := ⟨by have := HI.out; omega⟩
            have HWI : Aside0 (wrap64 (i + 1) = i + 1) := ⟨by have := HCL.out; unfold wrap64; omega⟩
            have han := HAN.out i hi0 c3'
            obtain ⟨ad, ead, hx0⟩ := Kd.at_string HC.out.c0 i hi0 c3
            obtain ⟨ad2, ead2, hy0⟩ := Kd.at_string HD.out.c0 i hi0 c3'
            cases ead
            cases ead2
            have k1 : (0 ≤ i) = True := eq_true hi0
            have k2 : (i < (Cl.length : Int)) = True := eq_true c3
            have k3 : (i < (l0.length : Int)) = True := eq_true c3'
            clear c3 c3' hi0
            generalize rdOf ByteArray.empty Cl i = s at *
            generalize rdOf ByteArray.empty l0 i = s0 at *
            obtain ⟨b0, hb0⟩ : ∃ b0, (s.toList == s0.toList) = b0 := ⟨_, rfl⟩
            rw [hb0] at han
            have HH := Aside0.mk han
            clear han
            go_wp2_with fail
            obtain ⟨wo, hwo⟩ : ∃ wo : World, wo = wr := ⟨_, rfl⟩
            subst hwo
            clear hx0 hy0 hb0 k1 k2 k3 xD0 xD1 xC0 xC1
            go_loopg [8, 67] l1.length (fun gg v8 v67 wi => ∃ (j : Int) (bb : Bool), v8 = .bool bb ∧ v67 = .int .i64 j ∧ Aside0 (0 ≤ j ∧ j ≤ l1.length ∧ l1.length - j.toNat ≤ gg) ∧ Aside0 (bb = (b0 || Pl.hitW i s (l1.take j.toNat))) ∧ Aside0 (BoxD wi w.heap.size (some ad2) c0 l0 A1 c1 l1) ∧ Aside0 (BoxD wi b (some ad) q0 Cl p1 q1 E) ∧ Aside0 (Below w.heap.size w wi))
            case atStart => exact ⟨0, b0, rfl, rfl, ⟨by omega, by omega, by simp⟩, ⟨by simp [Pl.hitW]⟩, HD, HC, HB⟩
            case round =>
              clear HD HC HB
              obtain ⟨j, bb, rfl, rfl, HJ, HBB, HD, HC, HB⟩ := hrel
              by_cases c4 : j < (l1.length : Int)
              · have c4b : decide (j < (l1.length : Int)) = true := decide_eq_true c4
                have hj0 : 0 ≤ j := HJ.out.1
                have HJ2 : Aside0 (l1.length - (j.toNat + 1) < gk ∧ 0 ≤ j + 1 ∧ j + 1 ≤ l1.length ∧ (j + 1).toNat = j.toNat + 1) := ⟨by have := HJ.out; omega⟩
                have HWJ : Aside0 (wrap64 (j + 1) = j + 1) := ⟨by unfold wrap64; omega⟩
                have hsn : Pl.hitW i s (l1.take (j + 1).toNat) = (Pl.hitW i s (l1.take j.toNat) || ((rd_T104 l1 j).f0 == i && (rd_T104 l1 j).f1.toList == s.toList)) := by
                  have hlt : j.toNat < l1.length := by omega
                  have e : rd_T104 l1 j = l1[j.toNat] := by rw [rd_T104, List.getD_eq_getElem?_getD, List.getElem?_eq_getElem hlt]; rfl
                  rw [HJ2.out.2.2.2, e, Pl.hit_snoc _ _ _ _ hlt]
                obtain ⟨ad3, ead3, hx0, hx1⟩ := at_T104 HD.out.c1 j hj0 c4
                cases ead3
                generalize rd_T104 l1 j = x at *
                have HSN : Aside0 ((b0 || Pl.hitW i s (l1.take (j + 1).toNat)) = (bb || (x.f0 == i && x.f1.toList == s.toList))) := ⟨by rw [hsn, HBB.out, Bool.or_assoc]⟩
                have HBA := Aside0.mk (below_alloc HB.out (.cells #[.int .i64 x.f0, .string x.f1] 104))
                have HDA := Aside0.mk (HD.out.alloc (.cells #[.int .i64 x.f0, .string x.f1] 104))
                have HCA := Aside0.mk (HC.out.alloc (.cells #[.int .i64 x.f0, .string x.f1] 104))
                have k1 : (0 ≤ j) = True := eq_true hj0
                have k2 : (j < (l1.length : Int)) = True := eq_true c4
                clear c4 hj0 hsn HD HC HB
                cases bb with
                | true =>
                  go_wp2_with fail
                  go_roundg (l1.length - (j.toNat + 1))
                  case measure => exact HJ2.out.1
                  case rel => exact ⟨j + 1, true, rfl, by first | rfl | rw [HWJ.out], ⟨HJ2.out.2.1, HJ2.out.2.2.1, by rw [HJ2.out.2.2.2]; exact Nat.le_refl _⟩, ⟨by rw [HSN.out, Bool.true_or]⟩, HDA, HCA, HBA⟩
                | false =>
                  cases e1 : (x.f0 == i) with
                  | false =>
                    have HS2 : Aside0 (false = (b0 || Pl.hitW i s (l1.take (j + 1).toNat))) := ⟨by rw [HSN.out, e1]; rfl⟩
                    have e1' : x.f0 ≠ i := by simpa using e1
                    have e1'' := eq_false e1'
                    clear e1'
                    go_wp2_with fail
                    go_roundg (l1.length - (j.toNat + 1))
                    case measure => exact HJ2.out.1
                    case rel => exact ⟨j + 1, false, rfl, by first | rfl | rw [HWJ.out], ⟨HJ2.out.2.1, HJ2.out.2.2.1, by rw [HJ2.out.2.2.2]; exact Nat.le_refl _⟩, HS2, HDA, HCA, HBA⟩
                  | true =>
                    cases e2 : (x.f1.toList == s.toList) with
                    | false =>
                      have HS2 : Aside0 (false = (b0 || Pl.hitW i s (l1.take (j + 1).toNat))) := ⟨by rw [HSN.out, e1, e2]; rfl⟩
                      go_wp2_with fail
                      go_roundg (l1.length - (j.toNat + 1))
                      case measure => exact HJ2.out.1
                      case rel => exact ⟨j + 1, false, rfl, by first | rfl | rw [HWJ.out], ⟨HJ2.out.2.1, HJ2.out.2.2.1, by rw [HJ2.out.2.2.2]; exact Nat.le_refl _⟩, HS2, HDA, HCA, HBA⟩
                    | true =>
                      have HS2 : Aside0 (true = (b0 || Pl.hitW i s (l1.take (j + 1).toNat))) := ⟨by rw [HSN.out, e1, e2]; rfl⟩
                      go_wp2_with fail
                      go_roundg (l1.length - (j.toNat + 1))
                      case measure => exact HJ2.out.1
                      case rel => exact ⟨j + 1, true, rfl, by first | rfl | rw [HWJ.out], ⟨HJ2.out.2.1, HJ2.out.2.2.1, by rw [HJ2.out.2.2.2]; exact Nat.le_refl _⟩, HS2, HDA, HCA, HBA⟩
              · have c4b : decide (j < (l1.length : Int)) = false := decide_eq_false c4
                have hbb : bb = true := by
                  have := HJ.out
                  rw [HBB.out, List.take_of_length_le (by omega)]
                  exact HH.out
                clear HBB HJ c4
                subst hbb
                go_wp2_with fail
                go_roundg (Cl.length - (i.toNat + 1))
                case measure => exact HI2.out.1
                case rel => exact ⟨i + 1, by first | rfl | rw [HWI.out], ⟨HI2.out.2.1, HI2.out.2.2.1, by rw [HI2.out.2.2.2]; exact Nat.le_refl _⟩, HD, HC, HB⟩
          · have c3b : decide (i < (Cl.length : Int)) = false := decide_eq_false c3
            clear c3 HI HC xC0 xC1
            go_wp2_with fail
            clear xD0 xD1
            obtain ⟨wo, hwo⟩ : ∃ wo : World, wo = wr := ⟨_, rfl⟩
            subst hwo
            go_loopg [11, 91] l1.length (fun gg v11 v91 wi => ∃ (j : Int) (L : List Bool), v91 = .int .i64 j ∧ Aside0 (0 ≤ j ∧ j ≤ l1.length ∧ l1.length - j.toNat ≤ gg) ∧ Aside0 (L = List.replicate j.toNat true) ∧ Aside0 (Kd.R Kd.bool 4 wi w.heap.size (fun _ => True) v11 L) ∧ Aside0 (wi.heap[w.heap.size]? = some (.cells #[.slice A0 l0.length c0, .slice A1 l1.length c1] 86 (0, 0))) ∧ Aside0 (Below w.heap.size w wi))
            case atStart => exact ⟨0, [], rfl, ⟨by omega, by omega, by simp⟩, ⟨rfl⟩, ⟨Kd.R_nil _ _ _ _ _⟩, ⟨HD.out.blk⟩, HB⟩
            case round =>
              clear HD HB
              obtain ⟨j, L, rfl, HJ, HL, HR, HD, HB⟩ := hrel
              rename_i v11 _
              obtain ⟨tA, tC, rfl⟩ := Kd.R_slice HR.out
              by_cases c4 : j < (l1.length : Int)
              · have c4b : decide (j < (l1.length : Int)) = true := decide_eq_true c4
                have HJ2 : Aside0 (l1.length - (j.toNat + 1) < gk ∧ 0 ≤ j + 1 ∧ j + 1 ≤ l1.length ∧ (j + 1).toNat = j.toNat + 1) := ⟨by have := HJ.out; omega⟩
                have HWJ : Aside0 (wrap64 (j + 1) = j + 1) := ⟨by have := HJ.out; unfold wrap64; omega⟩
                have HLL : Aside0 (L.length ≤ 60) := ⟨by have := HJ.out; have := HSL.out; rw [HL.out, List.length_replicate]; omega⟩
                have HL2 : Aside0 (L ++ [true] = List.replicate (j + 1).toNat true) := ⟨by rw [HJ2.out.2.2.2, HL.out, List.replicate_succ']⟩
                clear c4 HL
                go_wp2_with ((with_reducible refine gate_builtin (b := .append) (xs := #[.tmp 93, .tmp 94]) rfl ?_); (try (refine gate_guard (by rfl) ?_; dsimp only)); at_builtin; refine Kd.R_append Kd.bool (w0 := w) w.heap.size rfl (.tmp 93) (.tmp 94) 101 4 (.bool false) 1 rfl Try.underlying101 info4 rfl (by decide) (by omega) (.slice tA L.length tC) L true [.bool true] (fun _ => True) (fun _ => False) rfl rfl ?aP (fun _ hk => hk.elim) ?aF ?aO ?aB ?aS ?aL ?_; (case aP => exact rfl); (case aB => exact HB.out); (case aF => exact (fun _ _ => trivial)); (case aO => exact HR.out); (case aS => exact below_size HB.out); (case aL => have := HLL.out; omega); intro v3 w51 ho hb hg hat; obtain ⟨p3, q3, rfl⟩ := Kd.R_slice ho; rw [show (L ++ [true]).length = L.length + 1 from by simp] at ho; have HRN := Aside0.mk ho; have HBN := Aside0.mk hb; have HDN := Aside0.mk (blk_grown HD.out hg (Kd.R_ne HR.out HD.out (by decide))); clear ho hb hg hat HD HR HB)
                go_roundg (l1.length - (j.toNat + 1))
                case measure => exact HJ2.out.1
                case rel => exact ⟨j + 1, _, by first | rfl | rw [HWJ.out], ⟨HJ2.out.2.1, HJ2.out.2.2.1, by rw [HJ2.out.2.2.2]; exact Nat.le_refl _⟩, HL2, HRN, HDN, HBN⟩
              · have c4b : decide (j < (l1.length : Int)) = false := decide_eq_false c4
                have HLE : Aside0 (disk_Crash.f l0 l1 L = some (Fl, E)) := ⟨by have := HJ.out; rw [HL.out, show j.toNat = l1.length by omega]; exact HK3.out⟩
                have HT := Aside0.mk (Kd.R_reads' HR.out).2.2
                have HTBC := Aside0.mk (Kd.R_reads' HR.out).2.1
                have HDX := Aside0.mk (BoxD.mk HD.out (HV.out.below HB.out).c0 HV.out.l0 (HV.out.below HB.out).c1 HV.out.l1)
                clear HD
                have HD := HDX
                clear HDX
                (have xD0 : wr.cell? ⟨w.heap.size, 0, none⟩ = some (.slice A0 l0.length c0) := (blk_cell HD.out.blk 0).trans rfl); (have xD1 : wr.cell? ⟨w.heap.size, 1, none⟩ = some (.slice A1 l1.length c1) := (blk_cell HD.out.blk 1).trans rfl)
                clear HL HJ c4 HR HK3
                have HK3 := HLE
                clear HLE
                go_wp2_with (first
        | (go_at_call 51; (with_reducible refine (disk_Crash_nil _ c0 l0 _ c1 l1 l0 E _ ?s1 HD.out.l0 ?s2 HD.out.l1 HK4.out).mono ?_); (case s1 => exact HD.out.c0); (case s2 => exact HD.out.c1); rintro e w9 ⟨v0, v1, rfl, hv0, hv1, hb⟩; obtain ⟨n0, m0, rfl⟩ := Kd.R_slice hv0; obtain ⟨n1, m1, rfl⟩ := Kd.R_slice hv1; have HNk := Aside0.mk (BoxD.new hv0 hv1); clear hv0 hv1; have HDn := Aside0.mk ((HD.out.below hb).alloc (.cells #[.slice n0 l0.length m0, .slice n1 E.length m1] 86)); (try clear xD0 xD1); clear HD; have HD := HDn; clear HDn; (have xD0 : (w9.alloc (.cells #[.slice n0 l0.length m0, .slice n1 E.length m1] 86)).cell? ⟨w.heap.size, 0, none⟩ = some (.slice A0 l0.length c0) := (blk_cell HD.out.blk 0).trans rfl); (have xD1 : (w9.alloc (.cells #[.slice n0 l0.length m0, .slice n1 E.length m1] 86)).cell? ⟨w.heap.size, 1, none⟩ = some (.slice A1 l1.length c1) := (blk_cell HD.out.blk 1).trans rfl); have HTn := Aside0.mk (Kd.C_alloc (Kd.C_below HT.out hb) (.cells #[.slice n0 l0.length m0, .slice n1 E.length m1] 86)); (try clear xT0 xT1); clear HT; have HT := HTn; clear HTn; (have tokx := True.intro; clear tokx); have HBn := Aside0.mk (below_alloc (below_step HB.out hb) (.cells #[.slice n0 l0.length m0, .slice n1 E.length m1] 86)); clear HB; have HB := HBn; clear HBn; have HN := HNk; clear HNk; (have xN0 : (w9.alloc (.cells #[.slice n0 l0.length m0, .slice n1 E.length m1] 86)).cell? ⟨w9.heap.size, 0, none⟩ = some (.slice n0 l0.length m0) := (blk_cell HN.out.blk 0).trans rfl); (have xN1 : (w9.alloc (.cells #[.slice n0 l0.length m0, .slice n1 E.length m1] 86)).cell? ⟨w9.heap.size, 1, none⟩ = some (.slice n1 E.length m1) := (blk_cell HN.out.blk 1).trans rfl); (try clear hb)))
                (try clear xD0 xD1 xN0 xN1)
                have HN' := HN
                clear HN
                generalize w9.heap.size = g at HN' ⊢
                have HN := HN'
                clear HN'
                have HDn := Aside0.mk (HD.out.drew); clear HD; have HD := HDn; clear HDn; have HNn := Aside0.mk (HN.out.drew); clear HN; have HN := HNn; clear HNn; have HTn := Aside0.mk (Kd.C_drew HT.out); clear HT; have HT := HTn; clear HTn; have HBn := Aside0.mk (below_drew HB.out); clear HB; have HB := HBn; clear HBn
                have tok1 := True.intro
                go_region_held3 (fun w' => w'.cell? ⟨w.heap.size, 0, none⟩ = some (.slice A0 l0.length c0) ∧ w'.cell? ⟨w.heap.size, 1, none⟩ = some (.slice A1 l1.length c1) ∧ w'.cell? ⟨g, 0, none⟩ = some (.slice n0 l0.length m0) ∧ w'.cell? ⟨g, 1, none⟩ = some (.slice n1 E.length m1)) (exact ⟨(blk_cell HD.out.blk 0).trans rfl, (blk_cell HD.out.blk 1).trans rfl, (blk_cell HN.out.blk 0).trans rfl, (blk_cell HN.out.blk 1).trans rfl⟩) (first
        | (go_at_call 51; have _t := tok1; clear _t tok1; (with_reducible refine (disk_Crash.calls _ c0 l0 _ c1 l1 tA tC L Fl E _ ?s1 HD.out.l0 ?s2 HD.out.l1 ?s3 HTBC.out HK3.out).mono ?_); (case s1 => exact HD.out.c0); (case s2 => exact HD.out.c1); (case s3 => exact HT.out); rintro e w11 ⟨v0, v1, rfl, hv0, hv1, hb⟩; obtain ⟨a0, a1, rfl⟩ := Kd.R_slice hv0; obtain ⟨a2, a3, rfl⟩ := Kd.R_slice hv1; have HAk := Aside0.mk (ViewD.new hv0 hv1); clear hv0 hv1; have HDn := Aside0.mk (HD.out.below hb); (try clear xD0 xD1); clear HD; have HD := HDn; clear HDn; (have xD0 : w11.cell? ⟨w.heap.size, 0, none⟩ = some (.slice A0 l0.length c0) := (blk_cell HD.out.blk 0).trans rfl); (have xD1 : w11.cell? ⟨w.heap.size, 1, none⟩ = some (.slice A1 l1.length c1) := (blk_cell HD.out.blk 1).trans rfl); have HNn := Aside0.mk (HN.out.below hb); (try clear xN0 xN1); clear HN; have HN := HNn; clear HNn; (have xN0 : w11.cell? ⟨g, 0, none⟩ = some (.slice n0 l0.length m0) := (blk_cell HN.out.blk 0).trans rfl); (have xN1 : w11.cell? ⟨g, 1, none⟩ = some (.slice n1 E.length m1) := (blk_cell HN.out.blk 1).trans rfl); have HBn := Aside0.mk (below_step HB.out hb); clear HB; have HB := HBn; clear HBn; have HA := HAk; clear HAk; (try clear hb); have tok2 := True.intro)
        | (go_at_call 50; have _t := tok2; clear _t tok2; (with_reducible refine (disk_Flush.calls _ c0 l0 _ c1 l1 Fl E _ ?s1 HD.out.l0 ?s2 HD.out.l1 HK2.out).mono ?_); (case s1 => exact HD.out.c0); (case s2 => exact HD.out.c1); rintro e w12 ⟨v0, v1, rfl, hv0, hv1, hb⟩; obtain ⟨f0, f1, rfl⟩ := Kd.R_slice hv0; obtain ⟨f2, f3, rfl⟩ := Kd.R_slice hv1; have HYk := Aside0.mk (ViewD.new hv0 hv1); clear hv0 hv1; have HDn := Aside0.mk (HD.out.below hb); (try clear xD0 xD1); clear HD; have HD := HDn; clear HDn; (have xD0 : w12.cell? ⟨w.heap.size, 0, none⟩ = some (.slice A0 l0.length c0) := (blk_cell HD.out.blk 0).trans rfl); (have xD1 : w12.cell? ⟨w.heap.size, 1, none⟩ = some (.slice A1 l1.length c1) := (blk_cell HD.out.blk 1).trans rfl); have HNn := Aside0.mk (HN.out.below hb); (try clear xN0 xN1); clear HN; have HN := HNn; clear HNn; (have xN0 : w12.cell? ⟨g, 0, none⟩ = some (.slice n0 l0.length m0) := (blk_cell HN.out.blk 0).trans rfl); (have xN1 : w12.cell? ⟨g, 1, none⟩ = some (.slice n1 E.length m1) := (blk_cell HN.out.blk 1).trans rfl); have HAn := Aside0.mk (HA.out.below hb); (try clear xA0 xA1); clear HA; have HA := HAn; clear HAn; (have tokx := True.intro; clear tokx); have HBn := Aside0.mk (below_step HB.out hb); clear HB; have HB := HBn; clear HBn; have HY := HYk; clear HYk; (try clear hb); have tok3 := True.intro)
        | (go_at_call 47; have _t := tok3; clear _t tok3; (with_reducible refine (law04_Ref _ f1 Fl _ f3 E _ ?s1 HEZ.out).mono ?_); (case s1 => exact HY.out.c1); rintro e w13 ⟨AQ, cQ, rfl, h2, h3, hb⟩; have HQ2 := Aside0.mk h2; have HQ3 := Aside0.mk h3; clear h2 h3; have HDn := Aside0.mk (HD.out.below hb); (try clear xD0 xD1); clear HD; have HD := HDn; clear HDn; (have xD0 : w13.cell? ⟨w.heap.size, 0, none⟩ = some (.slice A0 l0.length c0) := (blk_cell HD.out.blk 0).trans rfl); (have xD1 : w13.cell? ⟨w.heap.size, 1, none⟩ = some (.slice A1 l1.length c1) := (blk_cell HD.out.blk 1).trans rfl); have HNn := Aside0.mk (HN.out.below hb); (try clear xN0 xN1); clear HN; have HN := HNn; clear HNn; (have xN0 : w13.cell? ⟨g, 0, none⟩ = some (.slice n0 l0.length m0) := (blk_cell HN.out.blk 0).trans rfl); (have xN1 : w13.cell? ⟨g, 1, none⟩ = some (.slice n1 E.length m1) := (blk_cell HN.out.blk 1).trans rfl); have HAn := Aside0.mk (HA.out.below hb); (try clear xA0 xA1); clear HA; have HA := HAn; clear HAn; (have tokx := True.intro; clear tokx); have HYn := Aside0.mk (HY.out.below hb); (try clear xY0 xY1); clear HY; have HY := HYn; clear HYn; (have tokx := True.intro; clear tokx); have HBn := Aside0.mk (below_step HB.out hb); clear HB; have HB := HBn; clear HBn; (try clear hb); have tok4 := True.intro)
        | (go_at_call 49; have _t := tok4; clear _t tok4; (with_reducible refine (law04_same _ a1 Fl _ a3 E _ f1 Fl _ _ (refW E) _ ?s1 HA.out.l0 ?s2 HEZ.out ?s3 HY.out.l0 ?s4 HQ2.out).mono ?_); (case s1 => exact HA.out.c0); (case s2 => exact HA.out.c1); (case s3 => exact HY.out.c0); (case s4 => exact HQ3.out); rintro e w14 ⟨he, hb⟩; obtain rfl : e = .returned (.bool true) := (he.trans (by simp)); clear he; have HDn := Aside0.mk (HD.out.below hb); (try clear xD0 xD1); clear HD; have HD := HDn; clear HDn; (have xD0 : w14.cell? ⟨w.heap.size, 0, none⟩ = some (.slice A0 l0.length c0) := (blk_cell HD.out.blk 0).trans rfl); (have xD1 : w14.cell? ⟨w.heap.size, 1, none⟩ = some (.slice A1 l1.length c1) := (blk_cell HD.out.blk 1).trans rfl); have HNn := Aside0.mk (HN.out.below hb); (try clear xN0 xN1); clear HN; have HN := HNn; clear HNn; (have xN0 : w14.cell? ⟨g, 0, none⟩ = some (.slice n0 l0.length m0) := (blk_cell HN.out.blk 0).trans rfl); (have xN1 : w14.cell? ⟨g, 1, none⟩ = some (.slice n1 E.length m1) := (blk_cell HN.out.blk 1).trans rfl); have HBn := Aside0.mk (below_step HB.out hb); clear HB; have HB := HBn; clear HBn; (try clear hb); have tok5 := True.intro)
        | (go_at_call 49; have _t := tok5; clear _t tok5; (with_reducible refine (law04_same_nil _ m0 l0 _ m1 E _ c0 l0 _ ?s1 HN.out.l0 ?s2 HEZ.out ?s3 HD.out.l0).mono ?_); (case s1 => exact HN.out.c0); (case s2 => exact HN.out.c1); (case s3 => exact HD.out.c0); rintro e w15 ⟨he, hb⟩; obtain rfl : e = .returned (.bool true) := (he.trans (by rw [HE.out]; simp [refW])); clear he; have HDn := Aside0.mk (HD.out.below hb); (try clear xD0 xD1); clear HD; have HD := HDn; clear HDn; (have xD0 : w15.cell? ⟨w.heap.size, 0, none⟩ = some (.slice A0 l0.length c0) := (blk_cell HD.out.blk 0).trans rfl); (have xD1 : w15.cell? ⟨w.heap.size, 1, none⟩ = some (.slice A1 l1.length c1) := (blk_cell HD.out.blk 1).trans rfl); have HNn := Aside0.mk (HN.out.below hb); (try clear xN0 xN1); clear HN; have HN := HNn; clear HNn; (have xN0 : w15.cell? ⟨g, 0, none⟩ = some (.slice n0 l0.length m0) := (blk_cell HN.out.blk 0).trans rfl); (have xN1 : w15.cell? ⟨g, 1, none⟩ = some (.slice n1 E.length m1) := (blk_cell HN.out.blk 1).trans rfl); have HBn := Aside0.mk (below_step HB.out hb); clear HB; have HB := HBn; clear HBn; (try clear hb); have tok6 := True.intro)
        | (go_at_call 50; have _t := tok6; clear _t tok6; (with_reducible refine (disk_Flush.calls _ c0 l0 _ c1 l1 Fl E _ ?s1 HD.out.l0 ?s2 HD.out.l1 HK2.out).mono ?_); (case s1 => exact HD.out.c0); (case s2 => exact HD.out.c1); rintro e w16 ⟨v0, v1, rfl, hv0, hv1, hb⟩; obtain ⟨z0, z1, rfl⟩ := Kd.R_slice hv0; obtain ⟨z2, z3, rfl⟩ := Kd.R_slice hv1; have HZk := Aside0.mk (ViewD.new hv0 hv1); clear hv0 hv1; have HDn := Aside0.mk (HD.out.below hb); (try clear xD0 xD1); clear HD; have HD := HDn; clear HDn; (have xD0 : w16.cell? ⟨w.heap.size, 0, none⟩ = some (.slice A0 l0.length c0) := (blk_cell HD.out.blk 0).trans rfl); (have xD1 : w16.cell? ⟨w.heap.size, 1, none⟩ = some (.slice A1 l1.length c1) := (blk_cell HD.out.blk 1).trans rfl); have HNn := Aside0.mk (HN.out.below hb); (try clear xN0 xN1); clear HN; have HN := HNn; clear HNn; (have xN0 : w16.cell? ⟨g, 0, none⟩ = some (.slice n0 l0.length m0) := (blk_cell HN.out.blk 0).trans rfl); (have xN1 : w16.cell? ⟨g, 1, none⟩ = some (.slice n1 E.length m1) := (blk_cell HN.out.blk 1).trans rfl); have HBn := Aside0.mk (below_step HB.out hb); clear HB; have HB := HBn; clear HBn; have HZ := HZk; clear HZk; (try clear hb); have tok7 := True.intro)
        | (go_at_call 51; have _t := tok7; clear _t tok7; (with_reducible refine (disk_Crash.calls _ z1 Fl _ z3 E A2 c2 l2 Fl E _ ?s1 HZ.out.l0 ?s2 HZ.out.l1 ?s3 HTC.out HK5.out).mono ?_); (case s1 => exact HZ.out.c0); (case s2 => exact HZ.out.c1); (case s3 => exact Kd.C_below HTX.out HB.out); rintro e w17 ⟨v0, v1, rfl, hv0, hv1, hb⟩; obtain ⟨u0, u1, rfl⟩ := Kd.R_slice hv0; obtain ⟨u2, u3, rfl⟩ := Kd.R_slice hv1; have HUk := Aside0.mk (ViewD.new hv0 hv1); clear hv0 hv1; have HDn := Aside0.mk (HD.out.below hb); (try clear xD0 xD1); clear HD; have HD := HDn; clear HDn; (have xD0 : w17.cell? ⟨w.heap.size, 0, none⟩ = some (.slice A0 l0.length c0) := (blk_cell HD.out.blk 0).trans rfl); (have xD1 : w17.cell? ⟨w.heap.size, 1, none⟩ = some (.slice A1 l1.length c1) := (blk_cell HD.out.blk 1).trans rfl); have HNn := Aside0.mk (HN.out.below hb); (try clear xN0 xN1); clear HN; have HN := HNn; clear HNn; (have xN0 : w17.cell? ⟨g, 0, none⟩ = some (.slice n0 l0.length m0) := (blk_cell HN.out.blk 0).trans rfl); (have xN1 : w17.cell? ⟨g, 1, none⟩ = some (.slice n1 E.length m1) := (blk_cell HN.out.blk 1).trans rfl); have HBn := Aside0.mk (below_step HB.out hb); clear HB; have HB := HBn; clear HBn; have HU := HUk; clear HUk; (try clear hb); have tok8 := True.intro)
        | (go_at_call 50; have _t := tok8; clear _t tok8; (with_reducible refine (disk_Flush.calls _ c0 l0 _ c1 l1 Fl E _ ?s1 HD.out.l0 ?s2 HD.out.l1 HK2.out).mono ?_); (case s1 => exact HD.out.c0); (case s2 => exact HD.out.c1); rintro e w18 ⟨v0, v1, rfl, hv0, hv1, hb⟩; obtain ⟨t0, t1, rfl⟩ := Kd.R_slice hv0; obtain ⟨t2, t3, rfl⟩ := Kd.R_slice hv1; have HVk := Aside0.mk (ViewD.new hv0 hv1); clear hv0 hv1; have HDn := Aside0.mk (HD.out.below hb); (try clear xD0 xD1); clear HD; have HD := HDn; clear HDn; (have xD0 : w18.cell? ⟨w.heap.size, 0, none⟩ = some (.slice A0 l0.length c0) := (blk_cell HD.out.blk 0).trans rfl); (have xD1 : w18.cell? ⟨w.heap.size, 1, none⟩ = some (.slice A1 l1.length c1) := (blk_cell HD.out.blk 1).trans rfl); have HNn := Aside0.mk (HN.out.below hb); (try clear xN0 xN1); clear HN; have HN := HNn; clear HNn; (have xN0 : w18.cell? ⟨g, 0, none⟩ = some (.slice n0 l0.length m0) := (blk_cell HN.out.blk 0).trans rfl); (have xN1 : w18.cell? ⟨g, 1, none⟩ = some (.slice n1 E.length m1) := (blk_cell HN.out.blk 1).trans rfl); have HUn := Aside0.mk (HU.out.below hb); (try clear xU0 xU1); clear HU; have HU := HUn; clear HUn; (have tokx := True.intro; clear tokx); have HBn := Aside0.mk (below_step HB.out hb); clear HB; have HB := HBn; clear HBn; have HV := HVk; clear HVk; (try clear hb); have tok9 := True.intro)
        | (go_at_call 47; have _t := tok9; clear _t tok9; (with_reducible refine (law04_Ref _ t1 Fl _ t3 E _ ?s1 HEZ.out).mono ?_); (case s1 => exact HV.out.c1); rintro e w19 ⟨AQ, cQ, rfl, h2, h3, hb⟩; have HQ2 := Aside0.mk h2; have HQ3 := Aside0.mk h3; clear h2 h3; have HDn := Aside0.mk (HD.out.below hb); (try clear xD0 xD1); clear HD; have HD := HDn; clear HDn; (have xD0 : w19.cell? ⟨w.heap.size, 0, none⟩ = some (.slice A0 l0.length c0) := (blk_cell HD.out.blk 0).trans rfl); (have xD1 : w19.cell? ⟨w.heap.size, 1, none⟩ = some (.slice A1 l1.length c1) := (blk_cell HD.out.blk 1).trans rfl); have HNn := Aside0.mk (HN.out.below hb); (try clear xN0 xN1); clear HN; have HN := HNn; clear HNn; (have xN0 : w19.cell? ⟨g, 0, none⟩ = some (.slice n0 l0.length m0) := (blk_cell HN.out.blk 0).trans rfl); (have xN1 : w19.cell? ⟨g, 1, none⟩ = some (.slice n1 E.length m1) := (blk_cell HN.out.blk 1).trans rfl); have HUn := Aside0.mk (HU.out.below hb); (try clear xU0 xU1); clear HU; have HU := HUn; clear HUn; (have tokx := True.intro; clear tokx); have HVn := Aside0.mk (HV.out.below hb); (try clear xV0 xV1); clear HV; have HV := HVn; clear HVn; (have tokx := True.intro; clear tokx); have HBn := Aside0.mk (below_step HB.out hb); clear HB; have HB := HBn; clear HBn; (try clear hb); have tok10 := True.intro)
        | (go_at_call 49; have _t := tok10; clear _t tok10; (with_reducible refine (law04_same _ u1 Fl _ u3 E _ t1 Fl _ _ (refW E) _ ?s1 HU.out.l0 ?s2 HEZ.out ?s3 HV.out.l0 ?s4 HQ2.out).mono ?_); (case s1 => exact HU.out.c0); (case s2 => exact HU.out.c1); (case s3 => exact HV.out.c0); (case s4 => exact HQ3.out); rintro e w20 ⟨he, hb⟩; obtain rfl : e = .returned (.bool true) := (he.trans (by simp)); clear he; have HDn := Aside0.mk (HD.out.below hb); (try clear xD0 xD1); clear HD; have HD := HDn; clear HDn; (have xD0 : w20.cell? ⟨w.heap.size, 0, none⟩ = some (.slice A0 l0.length c0) := (blk_cell HD.out.blk 0).trans rfl); (have xD1 : w20.cell? ⟨w.heap.size, 1, none⟩ = some (.slice A1 l1.length c1) := (blk_cell HD.out.blk 1).trans rfl); have HNn := Aside0.mk (HN.out.below hb); (try clear xN0 xN1); clear HN; have HN := HNn; clear HNn; (have xN0 : w20.cell? ⟨g, 0, none⟩ = some (.slice n0 l0.length m0) := (blk_cell HN.out.blk 0).trans rfl); (have xN1 : w20.cell? ⟨g, 1, none⟩ = some (.slice n1 E.length m1) := (blk_cell HN.out.blk 1).trans rfl); have HBn := Aside0.mk (below_step HB.out hb); clear HB; have HB := HBn; clear HBn; (try clear hb); have tok11 := True.intro)
        | (go_at_call 43; have _t := tok11; clear _t tok11; (with_reducible refine (weirkeeperlaw04_awake.calls _ Pl.awake_eq).mono ?_); rintro e w21 ⟨rfl, hb⟩; have HDn := Aside0.mk (HD.out.below hb); (try clear xD0 xD1); clear HD; have HD := HDn; clear HDn; (have xD0 : w21.cell? ⟨w.heap.size, 0, none⟩ = some (.slice A0 l0.length c0) := (blk_cell HD.out.blk 0).trans rfl); (have xD1 : w21.cell? ⟨w.heap.size, 1, none⟩ = some (.slice A1 l1.length c1) := (blk_cell HD.out.blk 1).trans rfl); have HNn := Aside0.mk (HN.out.below hb); (try clear xN0 xN1); clear HN; have HN := HNn; clear HNn; (have xN0 : w21.cell? ⟨g, 0, none⟩ = some (.slice n0 l0.length m0) := (blk_cell HN.out.blk 0).trans rfl); (have xN1 : w21.cell? ⟨g, 1, none⟩ = some (.slice n1 E.length m1) := (blk_cell HN.out.blk 1).trans rfl); have HBn := Aside0.mk (below_step HB.out hb); clear HB; have HB := HBn; clear HBn; (try clear hb); have tok12 := True.intro))
                all_goals go_wp2_with fail
                all_goals go_ret
                all_goals exact ⟨rfl, HB.out⟩
set_option maxRecDepth 100000 in
theorem weirkeeperlaw04_DiskCrashes.calls (k : Nat) (A0 : Option Addr) (c0 : Nat) (l0 : List ByteArray) (A1 : Option Addr) (c1 : Nat) (l1 : List S104) (A2 : Option Addr) (c2 : Nat) (l2 : List Bool) (w : World)
    (hr0 : Kd.C Kd.string w A0 l0.length l0) (hc0 : l0.length ≤ c0) (hr1 : Kd.C k104 w A1 l1.length l1) (hc1 : l1.length ≤ c1) (hr2 : Kd.C Kd.bool w A2 l2.length l2) (hc2 : l2.length ≤ c2) (h : weirkeeperlaw04_DiskCrashes.f k l0 l1 l2 = some true) :
    Calls Try.prog 11 #[.agg #[.slice A0 l0.length c0, .slice A1 l1.length c1], .slice A2 l2.length c2] w fun e w' => e = .returned (.bool true) ∧ Below w.heap.size w w' := by
  unfold weirkeeperlaw04_DiskCrashes.f at h
  split at h
  · rename_i c
    exact weirkeeperlaw04_DiskCrashes.walk A0 c0 l0 A1 c1 l1 A2 c2 l2 w hr0 hc0 hr1 hc1 hr2 hc2 c
  · exact absurd h (by simp)
end Go.Proofs.Ythidkdlmpkeogaa.F
