/- BlockBroken, walked: a text's sectors of which one bit, behind the first four bytes, is another one are refused. -/
import Derived.Test.YtpkapldkmleppaaPlBroken
import Derived.Test.YtpkapldkmleppaaVwBox
import Derived.Test.YtpkapldkmleppaaPlAwake06
import Derived.Laws.BitsLemmas
namespace Go.Proofs.Ytpkapldkmleppaa.F
open Go.RowKit Go.Proofs.YtpkapldkmleppaaW.PrintWords Go.Proofs.YtpkapldkmleppaaW.PrintLast Go.Proofs.YtpkapldkmleppaaW.PrintMore
attribute [local go_sem] max2_int min2_int max_two min_two max_three min_three max_four min_four
set_option linter.unusedVariables false
set_option linter.unusedSimpArgs false
/-- what the calls come to -/
theorem broken_facts (t : List UInt8) (ht : t.length ≤ 2000) : ∃ (S0 : List ByteArray) (E0 W1 : List S76) (n : Nat) (s : List UInt8), 1 ≤ n ∧ n ≤ 64 ∧ s.length = 32 * n ∧ disk_New.f 80 = some (S0, E0, 0) ∧ block_Write.f 100 S0 E0 3 (Pl.B t) = some (S0, W1, 0) ∧ block_Need.f (t.length : Int) = some (n : Int) ∧ disk_Read.f S0 W1 3 (n : Int) = some (Pl.B s, 0) ∧
    ∀ (p : Nat) (v : UInt8), 4 ≤ p → s.set p v ≠ s → ∃ L W2, block_Cut.f (Pl.B (s.set p v)) = some L ∧ disk_Put.f S0 W1 3 L = some (S0, W2, 0) ∧ block_Read.f 100 S0 W2 3 (n : Int) = some ((⟨#[]⟩ : ByteArray), 4) := by
  have hb : Pl.needB t.length ≤ 64 ∧ 1 ≤ Pl.needB t.length := by unfold Pl.needB; omega
  have hI := Pl.Img.newN 80 (by omega) (by omega)
  obtain ⟨w1, i1⟩ := hI.write (by omega) 3 t (by omega) (by rw [List.length_replicate]; omega) 100 (by omega)
  have hmid := Pl.ovr_mid 3 (Pl.secB t) (List.replicate 80 (List.replicate 32 0)) (by rw [Pl.secB_length, List.length_replicate]; omega)
  rw [Pl.secB_length] at hmid
  have hfl := Pl.flat32 _ (Pl.secB_32 t)
  rw [Pl.secB_length] at hfl
  have hrd := i1.read (by omega) 3 (Pl.needB t.length) (by rw [List.length_replicate]; omega)
  rw [hmid] at hrd
  refine ⟨_, _, _, Pl.needB t.length, (Pl.secB t).flatten, hb.2, hb.1, hfl, Pl.New_ok (by omega) (by omega), w1, Pl.bneed_eq _ (by omega), hrd, fun p v hp hne => ?_⟩
  have hsl : (((Pl.secB t).flatten).set p v).length = 32 * Pl.needB t.length := by rw [List.length_set, hfl]
  have hcl := Pl.cutL_length _ (((Pl.secB t).flatten).set p v) (Nat.le_refl _)
  rw [hsl, show (32 * Pl.needB t.length + 31) / 32 = Pl.needB t.length by omega] at hcl
  have hct := Pl.cutL_text _ (((Pl.secB t).flatten).set p v) (Nat.le_refl _)
  rw [hsl, show 32 * ((32 * Pl.needB t.length + 31) / 32) - 32 * Pl.needB t.length = 0 by omega, List.replicate_zero, List.append_nil] at hct
  have hp2 := i1.put (by omega) 3 (Pl.cutL (((Pl.secB t).flatten).set p v)) (by rw [hcl, List.length_replicate]; omega) (Pl.cutL_32 _ _ (Nat.le_refl _))
  have hl1 := i1.len
  rw [List.length_replicate] at hl1
  have hm2 := Pl.ovr_mid 3 (Pl.cutL (((Pl.secB t).flatten).set p v)) (Pl.ovr 3 (Pl.secB t) (List.replicate 80 (List.replicate 32 0))) (by rw [hcl, hl1]; omega)
  rw [hcl] at hm2
  refine ⟨_, _, Pl.cutB_B _ (by rw [hsl]; omega), hp2.1, ?_⟩
  have hr2 := hp2.2.bread (by rw [hcl]; omega) 3 (Pl.needB t.length) (by rw [List.length_replicate]; omega) 100 (by omega)
  rw [hm2, hct, Pl.broken t (by omega) p hp v hne] at hr2
  exact hr2
/-- a bit turned -/
def turnB (x : UInt8) (j : Nat) : Int := Go.bits .xor .u8 (x.toNat : Int) ((2 ^ j : Nat) : Int)
theorem turn_ne (x : UInt8) (j : Nat) (hj : j < 8) : 0 ≤ turnB x j ∧ turnB x j < 256 ∧ UInt8.ofNat (turnB x j).toNat ≠ x := by
  have h2 : 2 ^ j < 256 := by
    have := Nat.pow_lt_pow_right (a := 2) (by decide) hj
    simpa using this
  have h := xor_u8 x.toNat (2 ^ j) x.toNat_lt h2
  have hlt : x.toNat ^^^ 2 ^ j < 2 ^ 8 := Nat.xor_lt_two_pow x.toNat_lt h2
  unfold turnB
  rw [h]
  refine ⟨by omega, by omega, fun e => ?_⟩
  have e2 := congrArg UInt8.toNat e
  rw [Int.toNat_natCast, UInt8.toNat_ofNat_of_lt' hlt] at e2
  have e3 := Pl.xor_left (2 ^ j) 0 x.toNat (by rw [e2, Nat.xor_zero])
  have := Nat.two_pow_pos j
  omega
theorem bytes_free (w : World) (e : TypeId) (s : ByteArray) (j : Nat) (hj : j < s.size) : (Lib.bytesWorld w e s).frozen? ⟨w.heap.size, j, none⟩ = false := by
  have hc : s.size ≤ (Lib.bytesCells w e s).size := by
    rw [Lib.bytesCells, Array.size_append, Array.size_map]
    exact Nat.le_add_right _ _
  simp only [World.frozen?, Lib.bytesWorld_at_new]
  rw [Bool.and_eq_false_iff, decide_eq_false_iff_not]
  exact .inl (by omega)
set_option maxHeartbeats 8000000 in
set_option maxRecDepth 100000 in
theorem weirkeeperlaw06_BlockBroken.walk (a0 : ByteArray) (a1 : Int) (ha : a0.size ≤ 2000) (h0 : 0 ≤ a1) (h1 : a1 < 4294967296) (w : World) : Calls Try.prog 4 #[.string a0, .int .u32 a1] w fun e w' => e = .returned (.bool true) ∧ Below w.heap.size w w' := by
  obtain ⟨S0, E0, W1, n, s, hn1, hn2, hsl, f1, f2, f3, f4, f5⟩ := broken_facts a0.data.toList (by rw [data_length]; exact ha)
  rw [← Pl.B_of] at f2
  rw [data_length] at f3
  have F1 := Aside0.mk f1
  have F2 := Aside0.mk f2
  have F3 := Aside0.mk f3
  have HSL := Aside0.mk hsl
  have F5 := Aside0.mk f5
  have HB := Aside0.mk (Below.refl w.heap.size w)
  have hn3 : (1 : Int) ≤ (n : Int) := by omega
  have hn4 : (n : Int) ≤ 64 := by omega
  have hz : (Pl.B s).size = 32 * n := by rw [Pl.B_size, hsl]
  clear f1 f2 f3 hsl f5
  generalize hzz : Pl.B s = z at *
  have HZZ := Aside0.mk hzz
  have F4 := Aside0.mk f4
  have q1 : decide ((2000 : Int) < (a0.size : Int)) = false := decide_eq_false (by omega)
  have q2 : decide (2000 < a0.size) = false := decide_eq_false (by omega)
  have q3 : ((z.size : Int) == 32 * (n : Int)) = true := beq_iff_eq.2 (by omega)
  have q4 : ((z.size : Int) != 32 * (n : Int)) = false := by rw [bne, q3]; rfl
  have q5 : ((n : Int) == 0) = false := beq_eq_false_iff_ne.2 (by omega)
  have hz1 : 32 ≤ z.size := by omega
  have hz2 : z.size ≤ 2048 := by omega
  have HZ := Aside0.mk hz
  clear hz f4 hzz ha
  have kb := fun W => print_bytes (P := Try.prog) 9 44 5 Try.underlying9 Try.underlying44 Try.underlying5 z W
  go_enter Try.func4, Try.ntmps4
  go_wp2_with (first
        | (go_at_call 24; (with_reducible refine (disk_New.calls _ _ _ _ _ F1.out).mono ?_); rintro e w1 ⟨v0, v1, rfl, hv0, hv1, hb⟩; obtain ⟨p0, q0, rfl⟩ := Kd.R_slice hv0; obtain ⟨p1, q1, rfl⟩ := Kd.R_slice hv1; have HDk := Aside0.mk (BoxD.new hv0 hv1); clear hv0 hv1; have HBn := Aside0.mk (below_alloc (below_step HB.out hb) (.cells #[.slice p0 S0.length q0, .slice p1 E0.length q1] 25)); clear HB; have HB := HBn; clear HBn; have HD := HDk; clear HDk; (have xD0 : (w1.alloc (.cells #[.slice p0 S0.length q0, .slice p1 E0.length q1] 25)).cell? ⟨w1.heap.size, 0, none⟩ = some (.slice p0 S0.length q0) := (blk_cell HD.out.blk 0).trans rfl); (have xD1 : (w1.alloc (.cells #[.slice p0 S0.length q0, .slice p1 E0.length q1] 25)).cell? ⟨w1.heap.size, 1, none⟩ = some (.slice p1 E0.length q1) := (blk_cell HD.out.blk 1).trans rfl); (try clear hb))
        | (go_at_call 18; (with_reducible refine (block_Write_view 100 _ q0 S0 _ q1 E0 3 a0 S0 W1 0 _ ?s1 HD.out.l0 ?s2 HD.out.l1 F2.out).mono ?_); (case s1 => exact HD.out.c0); (case s2 => exact HD.out.c1); rintro e w2 ⟨p2, q2, p3, q3, rfl, hv, hb⟩; have HWk := Aside0.mk (BoxD.arg hv.c0 hv.l0 hv.c1 hv.l1); clear hv; have HDn := Aside0.mk ((HD.out.below hb).alloc (.cells #[.slice p2 S0.length q2, .slice p3 W1.length q3] 25)); (try clear xD0 xD1); clear HD; have HD := HDn; clear HDn; (have xD0 : (w2.alloc (.cells #[.slice p2 S0.length q2, .slice p3 W1.length q3] 25)).cell? ⟨w1.heap.size, 0, none⟩ = some (.slice p0 S0.length q0) := (blk_cell HD.out.blk 0).trans rfl); (have xD1 : (w2.alloc (.cells #[.slice p2 S0.length q2, .slice p3 W1.length q3] 25)).cell? ⟨w1.heap.size, 1, none⟩ = some (.slice p1 E0.length q1) := (blk_cell HD.out.blk 1).trans rfl); have HBn := Aside0.mk (below_alloc (below_step HB.out hb) (.cells #[.slice p2 S0.length q2, .slice p3 W1.length q3] 25)); clear HB; have HB := HBn; clear HBn; have HW := HWk; clear HWk; (have xW0 : (w2.alloc (.cells #[.slice p2 S0.length q2, .slice p3 W1.length q3] 25)).cell? ⟨w2.heap.size, 0, none⟩ = some (.slice p2 S0.length q2) := (blk_cell HW.out.blk 0).trans rfl); (have xW1 : (w2.alloc (.cells #[.slice p2 S0.length q2, .slice p3 W1.length q3] 25)).cell? ⟨w2.heap.size, 1, none⟩ = some (.slice p3 W1.length q3) := (blk_cell HW.out.blk 1).trans rfl); (try clear hb))
        | (go_at_call 20; (with_reducible refine (block_Need.calls _ _ _ F3.out).mono ?_); rintro e w3 ⟨rfl, hd⟩; have hb := hd.below; clear hd; have HDn := Aside0.mk (HD.out.below hb); (try clear xD0 xD1); clear HD; have HD := HDn; clear HDn; (have xD0 : w3.cell? ⟨w1.heap.size, 0, none⟩ = some (.slice p0 S0.length q0) := (blk_cell HD.out.blk 0).trans rfl); (have xD1 : w3.cell? ⟨w1.heap.size, 1, none⟩ = some (.slice p1 E0.length q1) := (blk_cell HD.out.blk 1).trans rfl); have HWn := Aside0.mk (HW.out.below hb); (try clear xW0 xW1); clear HW; have HW := HWn; clear HWn; (have xW0 : w3.cell? ⟨w2.heap.size, 0, none⟩ = some (.slice p2 S0.length q2) := (blk_cell HW.out.blk 0).trans rfl); (have xW1 : w3.cell? ⟨w2.heap.size, 1, none⟩ = some (.slice p3 W1.length q3) := (blk_cell HW.out.blk 1).trans rfl); have HBn := Aside0.mk (below_step HB.out hb); clear HB; have HB := HBn; clear HBn; (try clear hb))
        | (go_at_call 25; (with_reducible refine (disk_Read.calls _ q2 S0 _ q3 W1 3 _ z 0 _ ?s1 HW.out.l0 ?s2 HW.out.l1 F4.out).mono ?_); (case s1 => exact HW.out.c0); (case s2 => exact HW.out.c1); rintro e w4 ⟨rfl, hb⟩; have HDn := Aside0.mk (HD.out.below hb); (try clear xD0 xD1); clear HD; have HD := HDn; clear HDn; (have xD0 : w4.cell? ⟨w1.heap.size, 0, none⟩ = some (.slice p0 S0.length q0) := (blk_cell HD.out.blk 0).trans rfl); (have xD1 : w4.cell? ⟨w1.heap.size, 1, none⟩ = some (.slice p1 E0.length q1) := (blk_cell HD.out.blk 1).trans rfl); have HWn := Aside0.mk (HW.out.below hb); (try clear xW0 xW1); clear HW; have HW := HWn; clear HWn; (have xW0 : w4.cell? ⟨w2.heap.size, 0, none⟩ = some (.slice p2 S0.length q2) := (blk_cell HW.out.blk 0).trans rfl); (have xW1 : w4.cell? ⟨w2.heap.size, 1, none⟩ = some (.slice p3 W1.length q3) := (blk_cell HW.out.blk 1).trans rfl); have HBn := Aside0.mk (below_step HB.out hb); clear HB; have HB := HBn; clear HBn; (try clear hb)))
  obtain ⟨K, hK, hK1, hK2⟩ : ∃ K : Nat, wrap64 (32 + a1 % (8 * (z.size : Int) - 32)) = (K : Int) ∧ 32 ≤ K ∧ K < 8 * z.size := by
    have h5 := Int.emod_nonneg a1 (b := 8 * (z.size : Int) - 32) (by omega)
    have h6 := Int.emod_lt_of_pos a1 (b := 8 * (z.size : Int) - 32) (by omega)
    refine ⟨(32 + a1 % (8 * (z.size : Int) - 32)).toNat, ?_, ?_, ?_⟩
    · unfold wrap64; omega
    · omega
    · omega
  rw [hK]
  clear hK
  have HQ := Aside0.mk (bytes_below (Below.refl w4.heap.size w4) (Nat.le_refl _) 5 z)
  have hc0 : (Lib.bytesWorld w4 5 z).cell? ⟨w4.heap.size, K / 8, none⟩ = some (.int .u8 ((z.data.toList.getD (K / 8) 0).toNat : Int)) := Lib.bytesWorld_cell w4 5 z (K / 8) (by omega)
  have hfr : (Lib.bytesWorld w4 5 z).frozen? ⟨w4.heap.size, K / 8, none⟩ = false := bytes_free w4 5 z (K / 8) (by omega)
  have hcs := Aside0.mk (fun j (hj : j < z.size) => Lib.bytesWorld_cell w4 5 z j hj)
  clear HD xD0 xD1 xW0 xW1 kb
  generalize Lib.bytesWorld w4 5 z = wq at *
  generalize grownCap w4 z.size 0 5 = cq at *
  generalize hg : w4.heap.size = g at *
  generalize hx : z.data.toList.getD (K / 8) 0 = x at *
  have HX := Aside0.mk hx
  have HG := Aside0.mk hg
  clear hg hx
  go_region
  have hv := turn_ne x (K % 8) (Nat.mod_lt _ (by decide))
  have he : Go.bits .xor .u8 (x.toNat : Int) (2 ^ (K % 8) % 256) = turnB x (K % 8) := by
    have h8 : (2 : Nat) ^ (K % 8) < 256 := by
      have := Nat.pow_lt_pow_right (a := 2) (by decide) (Nat.mod_lt K (by decide : 8 > 0))
      simpa using this
    unfold turnB
    congr 1
    rw [show (2 : Int) ^ (K % 8) = ((2 ^ (K % 8) : Nat) : Int) by push_cast; rfl]
    generalize 2 ^ (K % 8) = q at h8 ⊢
    omega
  rw [he]
  clear he
  have hvv : (((UInt8.ofNat (turnB x (K % 8)).toNat).toNat : Nat) : Int) = turnB x (K % 8) := by
    rw [UInt8.toNat_ofNat_of_lt' (by have := hv.2.1; have := hv.1; show (turnB x (K % 8)).toNat < 256; omega)]
    have := hv.1
    omega
  generalize turnB x (K % 8) = y at *
  generalize hv8 : UInt8.ofNat y.toNat = v8 at *
  have HV := Aside0.mk (And.intro hvv hv.2.2)
  clear hvv hv hv8
  have HQ5 : Aside0 (Below w4.heap.size w4 ((wq.setCell ⟨g, K / 8, none⟩ (.int .u8 y)).drew)) := ⟨by rw [HG.out]; exact below_drew (Below.setCell HQ.out (Nat.le_refl g) _)⟩
  have HW5 := Aside0.mk (HW.out.below HQ5.out)
  have HB5 := Aside0.mk (below_step HB.out HQ5.out)
  have hcell5 : ∀ j, j < z.size → (((wq.setCell ⟨g, K / 8, none⟩ (.int .u8 y)).drew).drew).cell? ⟨g, j, none⟩ = some (.int .u8 (((z.data.toList.set (K / 8) v8).getD j 0).toNat : Int)) := fun j hj => by
    have hlen : j < z.data.toList.length := by rw [data_length]; exact hj
    show (wq.setCell ⟨g, K / 8, none⟩ (.int .u8 y)).cell? ⟨g, j, none⟩ = _
    by_cases e : j = K / 8
    · subst e
      rw [World.cell?_setCell_same _ _ _ hc0, ← HV.out.1, List.getD_eq_getElem?_getD, List.getElem?_set_self hlen]
      rfl
    · rw [World.cell?_setCell_other _ _ _ _ (by intro h; exact e (by cases h; rfl)), hcs.out j hj, List.getD_eq_getElem?_getD, List.getD_eq_getElem?_getD, List.getElem?_set_ne (fun h => e h.symm)]
  have kc : (convert 44 9 (.slice (some ⟨g, 0, none⟩) z.size cq)).run Try.prog (((wq.setCell ⟨g, K / 8, none⟩ (.int .u8 y)).drew).drew) = .ok (.string (Pl.B (z.data.toList.set (K / 8) v8))) (((wq.setCell ⟨g, K / 8, none⟩ (.int .u8 y)).drew).drew) := by
    have := run_convert_bytes_arg (P := Try.prog) (((wq.setCell ⟨g, K / 8, none⟩ (.int .u8 y)).drew).drew) 44 5 Try.underlying44 Try.underlying5 g 0 z.size cq ((z.data.toList.set (K / 8) v8).map fun b => (b.toNat : Int)) (by rw [List.length_map, List.length_set, data_length]) (fun i hi => by
      rw [Nat.zero_add, hcell5 i hi, List.getD_eq_getElem?_getD, List.getD_eq_getElem?_getD, List.getElem?_map, List.getElem?_eq_getElem (by rw [List.length_set, data_length]; exact hi)]
      rfl) 9 Try.underlying9
    rw [Pl.strOfNums_map] at this
    exact this
  have kz : (convert 44 9 (.slice (some ⟨g, 0, none⟩) z.size cq)).run Try.prog ((((wq.setCell ⟨g, K / 8, none⟩ (.int .u8 y)).drew).alloc (Obj.cells #[.slice none 0 0, .slice none 0 0] 25)).drew) = .ok (.string (Pl.B (z.data.toList.set (K / 8) v8))) ((((wq.setCell ⟨g, K / 8, none⟩ (.int .u8 y)).drew).alloc (Obj.cells #[.slice none 0 0, .slice none 0 0] 25)).drew) := by
    have := run_convert_bytes_arg (P := Try.prog) ((((wq.setCell ⟨g, K / 8, none⟩ (.int .u8 y)).drew).alloc (Obj.cells #[.slice none 0 0, .slice none 0 0] 25)).drew) 44 5 Try.underlying44 Try.underlying5 g 0 z.size cq ((z.data.toList.set (K / 8) v8).map fun b => (b.toNat : Int)) (by rw [List.length_map, List.length_set, data_length]) (fun i hi => by
      rw [Nat.zero_add, show ((((wq.setCell ⟨g, K / 8, none⟩ (.int .u8 y)).drew).alloc (Obj.cells #[.slice none 0 0, .slice none 0 0] 25)).drew).cell? ⟨g, i, none⟩ = ((wq.setCell ⟨g, K / 8, none⟩ (.int .u8 y)).drew).cell? ⟨g, i, none⟩ from World.cell?_alloc_lt _ _ _ (World.block_lt_of_cell? _ _ (hcell5 i hi)), show ((wq.setCell ⟨g, K / 8, none⟩ (.int .u8 y)).drew).cell? ⟨g, i, none⟩ = _ from hcell5 i hi, List.getD_eq_getElem?_getD, List.getD_eq_getElem?_getD, List.getElem?_map, List.getElem?_eq_getElem (by rw [List.length_set, data_length]; exact hi)]
      rfl) 9 Try.underlying9
    rw [Pl.strOfNums_map] at this
    exact this
  have hne : s.set (K / 8) v8 ≠ s := fun e => by
    have hl : K / 8 < s.length := by rw [HSL.out]; have := HZ.out; omega
    have h6 := congrArg (fun l => l[K / 8]?) e
    simp only [List.getElem?_set_self hl, List.getElem?_eq_getElem hl] at h6
    have h7 : x = s[K / 8] := by rw [← HX.out, ← HZZ.out, Pl.B_data, List.getD_eq_getElem?_getD, List.getElem?_eq_getElem hl]; rfl
    exact HV.out.2 (by rw [h7]; exact Option.some.inj h6)
  obtain ⟨L, W2, g1, g2, g3⟩ := F5.out (K / 8) v8 (by omega) hne
  rw [show z.data.toList = s by rw [← HZZ.out, Pl.B_data]] at kc kz
  have G1 := Aside0.mk g1
  have G2 := Aside0.mk g2
  have G3 := Aside0.mk g3
  clear g1 g2 g3 hne hcell5 hcs HQ5 HQ HW HB HX HV hc0 hfr HG HSL F5
  generalize hW5 : ((wq.setCell ⟨g, K / 8, none⟩ (.int .u8 y)).drew) = W5 at *
  generalize Pl.B (s.set (K / 8) v8) = z8 at *
  clear hW5
  have HW := HW5
  have HB := HB5
  clear HW5 HB5
  have xW0 : W5.cell? ⟨w2.heap.size, 0, none⟩ = some (.slice p2 S0.length q2) := (blk_cell HW.out.blk 0).trans rfl
  have xW1 : W5.cell? ⟨w2.heap.size, 1, none⟩ = some (.slice p3 W1.length q3) := (blk_cell HW.out.blk 1).trans rfl
  go_upto_region 14 with (fail)
  go_cut [14, 15] (fun v14 v15 wr => ∃ (b : Nat) (p4 : Option Addr) (q4 : Nat) (p5 : Option Addr) (q5 : Nat), v14 = .pointer (some ⟨b, 0, none⟩) ∧ v15 = .int .i64 0 ∧ Aside0 (BoxD wr b p4 q4 S0 p5 q5 W2) ∧ Aside0 (Below w.heap.size w wr))
  case first =>
    (have HWn := Aside0.mk (HW.out.drew); clear HW; have HW := HWn; clear HWn; have HBn := Aside0.mk (below_drew HB.out); clear HB; have HB := HBn; clear HBn; (have xA0 : (W5.alloc (.cells #[.slice none 0 0, .slice none 0 0] 25)).cell? ⟨w2.heap.size, 0, none⟩ = some (.slice p2 S0.length q2) := (blk_cell (HW.out.alloc (.cells #[.slice none 0 0, .slice none 0 0] 25)).blk 0).trans rfl); (have xA1 : (W5.alloc (.cells #[.slice none 0 0, .slice none 0 0] 25)).cell? ⟨w2.heap.size, 1, none⟩ = some (.slice p3 W1.length q3) := (blk_cell (HW.out.alloc (.cells #[.slice none 0 0, .slice none 0 0] 25)).blk 1).trans rfl); have xA2 := blk_lt HW.out.blk; have xL5 : w.heap.size ≤ W5.heap.size := (below_size HB.out : w.heap.size ≤ W5.drew.heap.size))
    go_region_with (first
        | (go_at_call 26; (with_reducible refine (block_Cut.calls _ L _ G1.out).mono ?_); rintro e w6 ⟨vL, rfl, hL, hb⟩; obtain ⟨AL, cL, rfl⟩ := Kd.R_slice hL; have HLk := Aside0.mk (Kd.R_reads' hL); clear hL; have HWn := Aside0.mk (HW.out.below hb); (try clear xW0 xW1); clear HW; have HW := HWn; clear HWn; (have xW0 : w6.cell? ⟨w2.heap.size, 0, none⟩ = some (.slice p2 S0.length q2) := (blk_cell HW.out.blk 0).trans rfl); (have xW1 : w6.cell? ⟨w2.heap.size, 1, none⟩ = some (.slice p3 W1.length q3) := (blk_cell HW.out.blk 1).trans rfl); have HBn := Aside0.mk (below_step HB.out hb); clear HB; have HB := HBn; clear HBn; have HL := HLk; clear HLk; (try clear hb); (have xA0 : (w6.alloc (.cells #[.slice none 0 0, .slice none 0 0] 25)).cell? ⟨w2.heap.size, 0, none⟩ = some (.slice p2 S0.length q2) := (blk_cell (HW.out.alloc (.cells #[.slice none 0 0, .slice none 0 0] 25)).blk 0).trans rfl); (have xA1 : (w6.alloc (.cells #[.slice none 0 0, .slice none 0 0] 25)).cell? ⟨w2.heap.size, 1, none⟩ = some (.slice p3 W1.length q3) := (blk_cell (HW.out.alloc (.cells #[.slice none 0 0, .slice none 0 0] 25)).blk 1).trans rfl); have xA2 := blk_lt HW.out.blk; have xL6 := below_size HB.out)
        | (go_at_call 26; (with_reducible refine (block_Cut.calls _ L _ G1.out).mono ?_); rintro e w6 ⟨vL, rfl, hL, hb⟩; obtain ⟨AL, cL, rfl⟩ := Kd.R_slice hL; have HLk := Aside0.mk (Kd.R_reads' hL); clear hL; have HZk : Aside0 (w6.heap[W5.heap.size]? = some (.cells #[.slice none 0 0, .slice none 0 0] 25 (0, 0))) := ⟨blk_below (heap_alloc_new W5.drew (.cells #[.slice none 0 0, .slice none 0 0] 25)) hb⟩; have HWn := Aside0.mk ((HW.out.alloc (.cells #[.slice none 0 0, .slice none 0 0] 25)).below hb); (try clear xW0 xW1); clear HW; have HW := HWn; clear HWn; have HBn := Aside0.mk (below_step (below_alloc HB.out (.cells #[.slice none 0 0, .slice none 0 0] 25)) hb); clear HB; have HB := HBn; clear HBn; have HL := HLk; clear HLk; (have xW0 : w6.cell? ⟨w2.heap.size, 0, none⟩ = some (.slice p2 S0.length q2) := (blk_cell HW.out.blk 0).trans rfl); (have xW1 : w6.cell? ⟨w2.heap.size, 1, none⟩ = some (.slice p3 W1.length q3) := (blk_cell HW.out.blk 1).trans rfl); (try clear hb); (have xA0 : (w6.alloc (.cells #[.slice none 0 0, .slice none 0 0] 25)).cell? ⟨w2.heap.size, 0, none⟩ = some (.slice p2 S0.length q2) := (blk_cell (HW.out.alloc (.cells #[.slice none 0 0, .slice none 0 0] 25)).blk 0).trans rfl); (have xA1 : (w6.alloc (.cells #[.slice none 0 0, .slice none 0 0] 25)).cell? ⟨w2.heap.size, 1, none⟩ = some (.slice p3 W1.length q3) := (blk_cell (HW.out.alloc (.cells #[.slice none 0 0, .slice none 0 0] 25)).blk 1).trans rfl); have xA2 := blk_lt HW.out.blk; have xL6 := below_size HB.out)
        | (go_at_call 23; (with_reducible refine (disk_Put.calls _ q2 S0 _ q3 W1 3 _ cL L S0 W2 0 _ ?s1 HW.out.l0 ?s2 HW.out.l1 ?s3 HL.out.2.1 G2.out).mono ?_); (case s1 => exact HW.out.c0); (case s2 => exact HW.out.c1); (case s3 => exact HL.out.2.2); rintro e w7 ⟨v0, v1, rfl, hv0, hv1, hb⟩; have HZ_ := HZk; clear HZ_; have HZn := Aside0.mk (blk_below HZk.out hb); clear HZk; have HZk := HZn; clear HZn; obtain ⟨p4, q4, rfl⟩ := Kd.R_slice hv0; obtain ⟨p5, q5, rfl⟩ := Kd.R_slice hv1; have HR0 := Aside0.mk hv0; have HR1 := Aside0.mk hv1; clear hv0 hv1; have HWn := Aside0.mk (HW.out.below hb); (try clear xW0 xW1); clear HW; have HW := HWn; clear HWn; (have xW0 : w7.cell? ⟨w2.heap.size, 0, none⟩ = some (.slice p2 S0.length q2) := (blk_cell HW.out.blk 0).trans rfl); (have xW1 : w7.cell? ⟨w2.heap.size, 1, none⟩ = some (.slice p3 W1.length q3) := (blk_cell HW.out.blk 1).trans rfl); have HBn := Aside0.mk (below_step HB.out hb); clear HB; have HB := HBn; clear HBn; (have xZ0 := blk_frozen HZk.out 0); (have xZ1 := blk_frozen HZk.out 1); (have xZ2 : w7.cell? ⟨W5.heap.size, 0, none⟩ = some (.slice none 0 0) := (blk_cell HZk.out 0).trans rfl); (have xZ3 : w7.cell? ⟨W5.heap.size, 1, none⟩ = some (.slice none 0 0) := (blk_cell HZk.out 1).trans rfl); (try clear hb))
        | (go_at_call 23; (with_reducible refine (disk_Put.calls _ q2 S0 _ q3 W1 3 _ cL L S0 W2 0 _ ?s1 HW.out.l0 ?s2 HW.out.l1 ?s3 HL.out.2.1 G2.out).mono ?_); (case s1 => exact HW.out.c0); (case s2 => exact HW.out.c1); (case s3 => exact HL.out.2.2); rintro e w7 ⟨v0, v1, rfl, hv0, hv1, hb⟩; obtain ⟨p4, q4, rfl⟩ := Kd.R_slice hv0; obtain ⟨p5, q5, rfl⟩ := Kd.R_slice hv1; have HPk := Aside0.mk (BoxD.new hv0 hv1); clear hv0 hv1; have HWn := Aside0.mk ((HW.out.below hb).alloc (.cells #[.slice p4 S0.length q4, .slice p5 W2.length q5] 25)); (try clear xW0 xW1); clear HW; have HW := HWn; clear HWn; (have xW0 : (w7.alloc (.cells #[.slice p4 S0.length q4, .slice p5 W2.length q5] 25)).cell? ⟨w2.heap.size, 0, none⟩ = some (.slice p2 S0.length q2) := (blk_cell HW.out.blk 0).trans rfl); (have xW1 : (w7.alloc (.cells #[.slice p4 S0.length q4, .slice p5 W2.length q5] 25)).cell? ⟨w2.heap.size, 1, none⟩ = some (.slice p3 W1.length q3) := (blk_cell HW.out.blk 1).trans rfl); have HBn := Aside0.mk (below_alloc (below_step HB.out hb) (.cells #[.slice p4 S0.length q4, .slice p5 W2.length q5] 25)); clear HB; have HB := HBn; clear HBn; have HP := HPk; clear HPk; (have xP0 : (w7.alloc (.cells #[.slice p4 S0.length q4, .slice p5 W2.length q5] 25)).cell? ⟨w7.heap.size, 0, none⟩ = some (.slice p4 S0.length q4) := (blk_cell HP.out.blk 0).trans rfl); (have xP1 : (w7.alloc (.cells #[.slice p4 S0.length q4, .slice p5 W2.length q5] 25)).cell? ⟨w7.heap.size, 1, none⟩ = some (.slice p5 W2.length q5) := (blk_cell HP.out.blk 1).trans rfl); (try clear hb))
        | (go_at_call 23; (with_reducible refine (disk_Put.calls _ q2 S0 _ q3 W1 3 _ cL L S0 W2 0 _ ?s1 HW.out.l0 ?s2 HW.out.l1 ?s3 HL.out.2.1 G2.out).mono ?_); (case s1 => exact (HW.out.alloc (.cells #[.slice none 0 0, .slice none 0 0] 25)).c0); (case s2 => exact (HW.out.alloc (.cells #[.slice none 0 0, .slice none 0 0] 25)).c1); (case s3 => exact Kd.C_alloc HL.out.2.2 (.cells #[.slice none 0 0, .slice none 0 0] 25)); rintro e w7 ⟨v0, v1, rfl, hv0, hv1, hb⟩; have HZk := Aside0.mk (blk_below (heap_alloc_new w6 (.cells #[.slice none 0 0, .slice none 0 0] 25)) hb); obtain ⟨p4, q4, rfl⟩ := Kd.R_slice hv0; obtain ⟨p5, q5, rfl⟩ := Kd.R_slice hv1; have HR0 := Aside0.mk hv0; have HR1 := Aside0.mk hv1; clear hv0 hv1; have HWn := Aside0.mk ((HW.out.alloc (.cells #[.slice none 0 0, .slice none 0 0] 25)).below hb); (try clear xW0 xW1); clear HW; have HW := HWn; clear HWn; have HBn := Aside0.mk (below_step (below_alloc HB.out (.cells #[.slice none 0 0, .slice none 0 0] 25)) hb); clear HB; have HB := HBn; clear HBn; (have xZ0 := blk_frozen HZk.out 0); (have xZ1 := blk_frozen HZk.out 1); (have xZ2 : w7.cell? ⟨w6.heap.size, 0, none⟩ = some (.slice none 0 0) := (blk_cell HZk.out 0).trans rfl); (have xZ3 : w7.cell? ⟨w6.heap.size, 1, none⟩ = some (.slice none 0 0) := (blk_cell HZk.out 1).trans rfl); (try clear hb)))
    all_goals go_wp2_with fail
    all_goals go_meet
    all_goals first
      | exact ⟨_, _, _, _, _, rfl, rfl, HP, HB⟩
      | exact ⟨_, _, _, _, _, rfl, rfl, ⟨BoxD.put HZk.out HR0.out HR1.out⟩, ⟨Below.setCell (Below.setCell HB.out xL5 _) xL5 _⟩⟩
      | exact ⟨_, _, _, _, _, rfl, rfl, ⟨BoxD.put HZk.out HR0.out HR1.out⟩, ⟨Below.setCell (Below.setCell HB.out xL6 _) xL6 _⟩⟩
  case rest =>
    obtain ⟨b, p4, q4, p5, q5, rfl, rfl, HV, HBv⟩ := hcut
    clear HB HW
    have HB := HBv
    clear HBv
    (have xV0 : wc.cell? ⟨b, 0, none⟩ = some (.slice p4 S0.length q4) := (blk_cell HV.out.blk 0).trans rfl); (have xV1 : wc.cell? ⟨b, 1, none⟩ = some (.slice p5 W2.length q5) := (blk_cell HV.out.blk 1).trans rfl)
    go_wp2_with (first
        | (go_at_call 21; (with_reducible refine (block_Read.calls 100 _ q4 S0 _ q5 W2 3 (n : Int) _ 4 _ ?s1 HV.out.l0 ?s2 HV.out.l1 G3.out).mono ?_); (case s1 => exact HV.out.c0); (case s2 => exact HV.out.c1); rintro e w8 ⟨rfl, hb⟩; have HVn := Aside0.mk (HV.out.below hb); (try clear xV0 xV1); clear HV; have HV := HVn; clear HVn; (have xV0 : w8.cell? ⟨b, 0, none⟩ = some (.slice p4 S0.length q4) := (blk_cell HV.out.blk 0).trans rfl); (have xV1 : w8.cell? ⟨b, 1, none⟩ = some (.slice p5 W2.length q5) := (blk_cell HV.out.blk 1).trans rfl); have HBn := Aside0.mk (below_step HB.out hb); clear HB; have HB := HBn; clear HBn; (try clear hb))
        | (go_at_call 17; (with_reducible refine (weirkeeperlaw06_awake.calls 100 _ (Pl.awake6At 100 (Nat.le_refl _))).mono ?_); rintro e w9 ⟨rfl, hb⟩; have HVn := Aside0.mk (HV.out.below hb); (try clear xV0 xV1); clear HV; have HV := HVn; clear HVn; (have xV0 : w9.cell? ⟨b, 0, none⟩ = some (.slice p4 S0.length q4) := (blk_cell HV.out.blk 0).trans rfl); (have xV1 : w9.cell? ⟨b, 1, none⟩ = some (.slice p5 W2.length q5) := (blk_cell HV.out.blk 1).trans rfl); have HBn := Aside0.mk (below_step HB.out hb); clear HB; have HB := HBn; clear HBn; (try clear hb)))
    go_ret
    exact ⟨rfl, HB.out⟩
theorem weirkeeperlaw06_BlockBroken.long (a0 : ByteArray) (a1 : Int) (ha : 2000 < a0.size) (w : World) : Calls Try.prog 4 #[.string a0, .int .u32 a1] w fun e w' => e = .returned (.bool true) ∧ Below w.heap.size w w' := by
  have q1 : decide ((2000 : Int) < (a0.size : Int)) = true := decide_eq_true (by omega)
  have q2 : decide (2000 < a0.size) = true := decide_eq_true ha
  have HB := Aside0.mk (Below.refl w.heap.size w)
  go_enter Try.func4, Try.ntmps4
  go_wp2_with (go_at_call 17; (with_reducible refine (weirkeeperlaw06_awake.calls 100 _ (Pl.awake6At 100 (Nat.le_refl _))).mono ?_); rintro e w9 ⟨rfl, hb⟩; have HBn := Aside0.mk (below_step HB.out hb); clear HB; have HB := HBn; clear HBn; (try clear hb))
  go_ret
  exact ⟨rfl, HB.out⟩
def weirkeeperlaw06_BlockBroken.f (k : Nat) (a0 : ByteArray) (a1 : Int) : Option Bool := if 0 ≤ a1 ∧ a1 < 4294967296 then some true else none
theorem weirkeeperlaw06_BlockBroken.calls (k : Nat) (a0 : ByteArray) (a1 : Int) (w : World) (h : weirkeeperlaw06_BlockBroken.f k a0 a1 = some true) :
    Calls Try.prog 4 #[.string a0, .int .u32 a1] w fun e w' => e = .returned (.bool true) ∧ Below w.heap.size w w' := by
  unfold weirkeeperlaw06_BlockBroken.f at h
  by_cases c : 0 ≤ a1 ∧ a1 < 4294967296
  · by_cases d : a0.size ≤ 2000
    · exact weirkeeperlaw06_BlockBroken.walk a0 a1 d c.1 c.2 w
    · exact weirkeeperlaw06_BlockBroken.long a0 a1 (by omega) w
  · rw [if_neg c] at h
    exact absurd h (by simp)
end Go.Proofs.Ytpkapldkmleppaa.F
