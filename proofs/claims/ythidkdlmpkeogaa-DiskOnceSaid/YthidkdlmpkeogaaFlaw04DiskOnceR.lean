/- Contracts of Go functions of the seat Ythidkdlmpkeogaa: what a call comes to; no condition but those that each theorem names. -/
import Derived.Test.YthidkdlmpkeogaaFlaw04DiskOnceD
import Derived.Test.YthidkdlmpkeogaaFUp
import Derived.Test.YthidkdlmpkeogaaFPre
import Derived.Test.YthidkdlmpkeogaaFdiskC
import Derived.Test.YthidkdlmpkeogaaFdiskE
import Derived.Test.YthidkdlmpkeogaaFdiskB
import Derived.Test.YthidkdlmpkeogaaFlaw04Ref
import Derived.Test.YthidkdlmpkeogaaFlaw04awake
import Derived.Test.YthidkdlmpkeogaaFlaw04same
import Derived.Test.YthidkdlmpkeogaaFref04
namespace Go.Proofs.Ythidkdlmpkeogaa.F
open Go.RowKit Go.Proofs.YthidkdlmpkeogaaW.PrintWords Go.Proofs.YthidkdlmpkeogaaW.PrintLast Go.Proofs.YthidkdlmpkeogaaW.PrintMore
attribute [local go_sem] max2_int min2_int max_two min_two max_three min_three max_four min_four   -- for this text's walks alone
set_option linter.unusedVariables false
set_option linter.unusedSimpArgs false

attribute [local go_sem] fieldD86_0 fieldD86_1
/-! ### weirkeeperlaw04_DiskOnce: function 12 -/
set_option maxHeartbeats 8000000 in
set_option maxRecDepth 100000 in
theorem weirkeeperlaw04_DiskOnce.rest {kj53 : Nat} {A0_0 : Option Addr} {c0_0 : Nat} {l0_0 : List ByteArray} {A0_1 : Option Addr} {c0_1 : Nat} {l0_1 : List (S104)} {a1 : Int} {A2 : Option Addr} {c2 : Nat} {l2 : List ByteArray} {A3 : Option Addr} {c3 : Nat} {l3 : List ByteArray} {A4 : Option Addr} {c4 : Nat} {l4 : List Bool} {A5 : Option Addr} {c5 : Nat} {l5 : List Bool} {w : World} {gb861 gb883 gb884 : Nat} {t871 : List ByteArray} {t874 : List (S104)} {t877 : List ByteArray} {t880 : List (S104)} {Ao61 : Option Addr} {co61 : Nat} {Ao63 : Option Addr} {co63 : Nat} {Ao65 : Option Addr} {co65 : Nat} {Ao67 : Option Addr} {co67 : Nat} {wc : World} {u20 u21 u22 u23 u24 u25 u26 u27 u28 u29 u30 u31 u32 u33 u34 u35 u36 u37 u38 u39 u40 u41 u42 u43 u44 u45 u46 u47 u48 u49 u50 u51 u52 u53 u54 u55 u56 u57 u58 u59 u60 u61 u62 u63 u64 u65 u66 u67 u68 u69 u70 u71 u72 u73 u74 u75 u76 u78 u79 u80 u81 u82 u83 u84 u85 u86 u87 u88 u89 u90 u91 u92 u93 u94 u95 u96 u97 u98 u99 u100 u101 u102 u103 u104 u105 u106 u107 u108 u109 u110 u111 u112 u113 u114 u115 u116 u117 u118 u119 u120 u121 u122 u123 u124 u125 u126 u127 u128 u129 u130 : Value}
    (HR0_0 : Aside0 (Kd.C Kd.string w A0_0 l0_0.length l0_0))
    (HC0_0 : Aside0 (l0_0.length ≤ c0_0))
    (HR0_1 : Aside0 (Kd.C k104 w A0_1 l0_1.length l0_1))
    (HC0_1 : Aside0 (l0_1.length ≤ c0_1))
    (HR2 : Aside0 (Kd.C Kd.string w A2 l2.length l2))
    (HC2 : Aside0 (l2.length ≤ c2))
    (HR3 : Aside0 (Kd.C Kd.string w A3 l3.length l3))
    (HC3 : Aside0 (l3.length ≤ c3))
    (GW861 : Aside0 (w.heap.size ≤ gb861))
    (GE861 : Aside0 (w.heap.size ≤ gb861))
    (GW883 : Aside0 (w.heap.size ≤ gb883))
    (GE883 : Aside0 (w.heap.size ≤ gb883))
    (GW884 : Aside0 (w.heap.size ≤ gb884))
    (GE884 : Aside0 (w.heap.size ≤ gb884))
    (NB861_883 : Aside0 (gb861 ≠ gb883))
    (NB883_861 : Aside0 (gb883 ≠ gb861))
    (NB884_883 : Aside0 (gb884 ≠ gb883))
    (NB883_884 : Aside0 (gb883 ≠ gb884))
    (NB861_884 : Aside0 (gb861 ≠ gb884))
    (NB884_861 : Aside0 (gb884 ≠ gb861))
    (HO_884000 : Aside0 (Kd.R Kd.string 9 wc w.heap.size (fun k_ => some k_ ≠ ((.slice Ao65 t877.length co65 : Value)).ownBlock) (.slice Ao61 t871.length co61) t871))
    (HO_884001 : Aside0 (Kd.R k104 104 wc w.heap.size (fun k_ => some k_ ≠ ((.slice Ao67 t880.length co67 : Value)).ownBlock) (.slice Ao63 t874.length co63) t874))
    (HO_885000 : Aside0 (Kd.R Kd.string 9 wc w.heap.size (fun k_ => some k_ ≠ ((.slice Ao61 t871.length co61 : Value)).ownBlock) (.slice Ao65 t877.length co65) t877))
    (HO_885001 : Aside0 (Kd.R k104 104 wc w.heap.size (fun k_ => some k_ ≠ ((.slice Ao63 t874.length co63 : Value)).ownBlock) (.slice Ao67 t880.length co67) t880))
    (BK861 : Aside0 (wc.heap[gb861]? = some (.cells #[.slice A0_0 l0_0.length c0_0, .slice A0_1 l0_1.length c0_1] 86 (0, 0))))
    (BK883 : Aside0 (wc.heap[gb883]? = some (.cells #[.slice Ao61 t871.length co61, .slice Ao63 t874.length co63] 86 (0, 0))))
    (BK884 : Aside0 (wc.heap[gb884]? = some (.cells #[.slice Ao65 t877.length co65, .slice Ao67 t880.length co67] 86 (0, 0))))
    (HB : Aside0 (Below w.heap.size w wc))
    (H : ((disk_Put.f l0_0 l0_1 a1 l2).bind fun bt924 => (if bt924.2.2 = 0 then ((disk_Put.f bt924.1 bt924.2.1 (wrap64 (a1 + (l2.length : Int))) l3).bind fun bt940 => ((some (([] : List ByteArray) : List ByteArray)).bind fun y947 => (if y947.length + l2.length < 8796093022208 then ((some (y947 ++ l2 : List ByteArray)).bind fun y950 => (if y950.length + l3.length < 8796093022208 then ((disk_Put.f l0_0 l0_1 a1 (y950 ++ l3)).bind fun bt956 => (if bt940.2.2 = bt956.2.2 then (if bt940.2.2 = 0 then ((weirkeeperlaw04_Ref.f kj53 bt956.1 bt956.2.1).bind fun bt964 => ((weirkeeperlaw04_same.f kj53 bt940.1 bt940.2.1 bt964.1 bt964.2).bind fun t970 => (if t970 = true then ((weirkeeperlaw04_awake.f).bind fun t971 => (some t971)) else (some false)))) else ((weirkeeperlaw04_awake.f).bind fun t972 => (some t972))) else (some false))) else (none))) else (none)))) else ((weirkeeperlaw04_Ref.f kj53 l0_0 l0_1).bind fun bt932 => ((weirkeeperlaw04_same.f kj53 bt924.1 bt924.2.1 bt932.1 bt932.2).bind fun t938 => (if t938 = true then ((weirkeeperlaw04_awake.f).bind fun t939 => (some t939)) else (some false)))))) = some true) :
    Code.wp Try.prog (onceR (onceR (onceR (onceR (Try.f12.body.getD .skip))))) (bodyPost Try.prog Try.f12 fun e w' => e = .returned (.bool true) ∧ Below w.heap.size w w') { tmps := #[(.agg #[.slice A0_0 l0_0.length c0_0, .slice A0_1 l0_1.length c0_1]), (.int .i64 a1), (.slice A2 l2.length c2), (.slice A3 l3.length c3), (.slice A4 l4.length c4), (.slice A5 l5.length c5), (.pointer (some ⟨gb861, 0, none⟩)), undef, undef, undef, undef, undef, (.bool false), (.pointer (some ⟨gb883, 0, none⟩)), (.pointer (some ⟨gb884, 0, none⟩)), undef, undef, undef, undef, undef, u20, u21, u22, u23, u24, u25, u26, u27, u28, u29, u30, u31, u32, u33, u34, u35, u36, u37, u38, u39, u40, u41, u42, u43, u44, u45, u46, u47, u48, u49, u50, u51, u52, u53, u54, u55, u56, u57, u58, u59, u60, u61, u62, u63, u64, u65, u66, u67, u68, u69, u70, u71, u72, u73, u74, u75, u76, (.bool false), u78, u79, u80, u81, u82, u83, u84, u85, u86, u87, u88, u89, u90, u91, u92, u93, u94, u95, u96, u97, u98, u99, u100, u101, u102, u103, u104, u105, u106, u107, u108, u109, u110, u111, u112, u113, u114, u115, u116, u117, u118, u119, u120, u121, u122, u123, u124, u125, u126, u127, u128, u129, u130], defers := [] } wc := by
  obtain ⟨Q, hQ⟩ : ∃ Q, Q = bodyPost Try.prog Try.f12 (fun e w' => e = .returned (.bool true) ∧ Below w.heap.size w w') := ⟨_, rfl⟩
  rw [← hQ]
  dsimp only [onceR, Try.f12, Option.getD]
  subst hQ
  have hu86 := Try.underlying86
  replace H := Option.bind_eq_some_iff.mp H
  obtain ⟨⟨t924, t927, t930⟩, A1290, H⟩ := H
  try dsimp only at H
  have A129 := Aside0.mk A1290
  clear A1290
  by_cases c130 : t930 = 0
  ·rw [if_pos c130] at H
   have c130b0 : (t930 == 0) = true := beq_iff_eq.mpr c130
   have c130b1 : (t930 != 0) = false := bne_eq_false_iff_eq.mpr c130
   clear c130
   replace H := Option.bind_eq_some_iff.mp H
   obtain ⟨⟨t940, t943, t946⟩, A1310, H⟩ := H
   try dsimp only at H
   have A131 := Aside0.mk A1310
   clear A1310
   obtain ⟨y947, hy947⟩ : ∃ y_ : List ByteArray, y_ = (([] : List ByteArray)) := ⟨_, rfl⟩
   replace H : (if y947.length + l2.length < 8796093022208 then ((some (y947 ++ l2 : List ByteArray)).bind fun y950 => (if y950.length + l3.length < 8796093022208 then ((disk_Put.f l0_0 l0_1 a1 (y950 ++ l3)).bind fun bt956 => (if t946 = bt956.2.2 then (if t946 = 0 then ((weirkeeperlaw04_Ref.f kj53 bt956.1 bt956.2.1).bind fun bt964 => ((weirkeeperlaw04_same.f kj53 t940 t943 bt964.1 bt964.2).bind fun t970 => (if t970 = true then ((weirkeeperlaw04_awake.f).bind fun t971 => (some t971)) else (some false)))) else ((weirkeeperlaw04_awake.f).bind fun t972 => (some t972))) else (some false))) else (none))) else (none)) = some true := by first | (rw [hy947]; with_reducible exact H) | (have H2_ := (Option.bind_some _ _).symm.trans H; rw [hy947]; with_reducible exact H2_) | (have H2_ := (Option.bind_some _ _).symm.trans H; with_reducible exact H2_) | with_reducible exact H | (rw [hy947]; exact H) | exact H
   have Ny947 := Aside0.mk hy947
   clear hy947
   by_cases c132 : y947.length + l2.length < 8796093022208
   ·rw [if_pos c132] at H
    have LMc132 := Aside0.mk c132
    clear c132
    obtain ⟨y950, hy950⟩ : ∃ y_ : List ByteArray, y_ = (y947 ++ l2) := ⟨_, rfl⟩
    replace H : (if y950.length + l3.length < 8796093022208 then ((disk_Put.f l0_0 l0_1 a1 (y950 ++ l3)).bind fun bt956 => (if t946 = bt956.2.2 then (if t946 = 0 then ((weirkeeperlaw04_Ref.f kj53 bt956.1 bt956.2.1).bind fun bt964 => ((weirkeeperlaw04_same.f kj53 t940 t943 bt964.1 bt964.2).bind fun t970 => (if t970 = true then ((weirkeeperlaw04_awake.f).bind fun t971 => (some t971)) else (some false)))) else ((weirkeeperlaw04_awake.f).bind fun t972 => (some t972))) else (some false))) else (none)) = some true := by first | (rw [hy950]; with_reducible exact H) | (have H2_ := (Option.bind_some _ _).symm.trans H; rw [hy950]; with_reducible exact H2_) | (have H2_ := (Option.bind_some _ _).symm.trans H; with_reducible exact H2_) | with_reducible exact H | (rw [hy950]; exact H) | exact H
    have Ny950 := Aside0.mk hy950
    clear hy950
    by_cases c133 : y950.length + l3.length < 8796093022208
    ·rw [if_pos c133] at H
     have LMc133 := Aside0.mk c133
     clear c133
     obtain ⟨y953, hy953⟩ : ∃ y_ : List ByteArray, y_ = (y950 ++ l3) := ⟨_, rfl⟩
     replace H : ((disk_Put.f l0_0 l0_1 a1 y953).bind fun bt956 => (if t946 = bt956.2.2 then (if t946 = 0 then ((weirkeeperlaw04_Ref.f kj53 bt956.1 bt956.2.1).bind fun bt964 => ((weirkeeperlaw04_same.f kj53 t940 t943 bt964.1 bt964.2).bind fun t970 => (if t970 = true then ((weirkeeperlaw04_awake.f).bind fun t971 => (some t971)) else (some false)))) else ((weirkeeperlaw04_awake.f).bind fun t972 => (some t972))) else (some false))) = some true := by first | (rw [hy953]; with_reducible exact H) | (have H2_ := (Option.bind_some _ _).symm.trans H; rw [hy953]; with_reducible exact H2_) | (have H2_ := (Option.bind_some _ _).symm.trans H; with_reducible exact H2_) | with_reducible exact H | (rw [hy953]; exact H) | exact H
     have Ny953 := Aside0.mk hy953
     clear hy953
     replace H := Option.bind_eq_some_iff.mp H
     obtain ⟨⟨t956, t959, t962⟩, A1340, H⟩ := H
     try dsimp only at H
     have A134 := Aside0.mk A1340
     clear A1340
     by_cases c135 : t946 = t962
     ·rw [if_pos c135] at H
      have c135b0 : (t946 == t962) = true := beq_iff_eq.mpr c135
      have c135b1 : (t946 != t962) = false := bne_eq_false_iff_eq.mpr c135
      clear c135
      have hnb141 := NB861_883.out
      have hnc141 := NB883_861.out
      have hnb142 := NB861_884.out
      have hnc142 := NB884_861.out
      have hcz143_0 : wc.cell? ⟨gb861, 0, none⟩ = some (.slice A0_0 l0_0.length c0_0) := (blk_cell BK861.out 0).trans rfl
      have hcz143_1 : wc.cell? ⟨gb861, 1, none⟩ = some (.slice A0_1 l0_1.length c0_1) := (blk_cell BK861.out 1).trans rfl
      have hfz143_0 := blk_frozen BK861.out 0
      have hfz143_1 := blk_frozen BK861.out 1
      try go_wp2_with (first | ((with_reducible refine gate_callee (f := 48) rfl ?_); refine goesL_ (some 82) rfl rfl Try.func48 (by kernel_rfl) rfl #[.agg #[.slice A0_0 l0_0.length c0_0, .slice A0_1 l0_1.length c0_1], .int .i64 a1, .slice A2 l2.length c2] rfl (by (try simp only [List.map_toArray, List.map_cons, List.map_nil]); first | done | rfl | (simp only [List.length_drop, List.length_take]; rfl)) ?_; (with_reducible refine (disk_Put.calls _ _ l0_0 _ _ l0_1 a1 _ _ l2 t924 t927 t930 _ ?side1 ?side2 ?side3 ?side4 ?side5 ?side6 A129.out).mono ?_); (case side1 => repeat (first | exact (Kd.C_below HR0_0.out HB.out) | (with_reducible refine Kd.C_alloc ?_ _) | (with_reducible refine Kd.C_drewN ?_ _) | (with_reducible refine Kd.C_drew ?_))); (case side2 => exact HC0_0.out); (case side3 => repeat (first | exact (Kd.C_below HR0_1.out HB.out) | (with_reducible refine Kd.C_alloc ?_ _) | (with_reducible refine Kd.C_drewN ?_ _) | (with_reducible refine Kd.C_drew ?_))); (case side4 => exact HC0_1.out); (case side5 => repeat (first | exact (Kd.C_below HR2.out HB.out) | (with_reducible refine Kd.C_alloc ?_ _) | (with_reducible refine Kd.C_drewN ?_ _) | (with_reducible refine Kd.C_drew ?_))); (case side6 => exact HC2.out); rintro e w144 ⟨v925, v928, rfl, ho0, ho1, hb⟩; refine ⟨_, rfl, ?_⟩; have HO926 := Aside0.mk (Kd.R_lower (Kd.R_new' (Kd.R_new' ho0 (Kd.R_lt (rU HO_884000.out))) (Kd.R_lt (rU HO_885000.out))) (below_size (by repeat (first | exact beU HB.out | refine below_set ?_ (Aside0.out ‹_›) | apply below_alloc | apply pw_below_drewN | apply below_drew1)))); have HO929 := Aside0.mk (Kd.R_lower (Kd.R_new' (Kd.R_new' ho1 (Kd.R_lt (rU HO_884001.out))) (Kd.R_lt (rU HO_885001.out))) (below_size (by repeat (first | exact beU HB.out | refine below_set ?_ (Aside0.out ‹_›) | apply below_alloc | apply pw_below_drewN | apply below_drew1)))); replace HO_884000 := Aside0.mk (Kd.R_elder' (rU HO_884000.out) (Kd.R_base ho0) hb); replace HO_884001 := Aside0.mk (Kd.R_elder' (rU HO_884001.out) (Kd.R_base ho1) hb); replace HO_885000 := Aside0.mk (Kd.R_elder' (rU HO_885000.out) (Kd.R_base ho0) hb); replace HO_885001 := Aside0.mk (Kd.R_elder' (rU HO_885001.out) (Kd.R_base ho1) hb); replace BK861 := Aside0.mk (blk_below (bU BK861.out) hb); replace BK883 := Aside0.mk (blk_below (bU BK883.out) hb); replace BK884 := Aside0.mk (blk_below (bU BK884.out) hb); replace HB := Aside0.mk (below_step (by repeat (first | exact beU HB.out | refine below_set ?_ (Aside0.out ‹_›) | apply below_alloc | apply pw_below_drewN | apply below_drew1)) hb); (try clear hb); (try clear hb2); (try clear hk); (try clear hi); (try clear ho0); (try clear ho1)) | ((with_reducible refine gate_dst (N := 15) rfl ?_); (try (refine gate_guard (by rfl) ?_; dsimp only)); refine box_event ?hg (N := 15) ?hd (cs := #[.slice none 0 0, .slice none 0 0]) (t := 86) ?hr ?_; (case hd => rfl); (case hg => rfl); (case hr => first | (go_simp; done) | (go_simp; rfl)); intro gb931 hg w145 hbox hb; have BK931 := Aside0.mk (hbox); have GW931 := Aside0.mk ((by first | exact geU HB.out hg | (rw [hg]; exact below_size (by repeat (first | exact beU HB.out | refine below_set ?_ (Aside0.out ‹_›) | apply below_alloc | apply pw_below_drewN | apply below_drew1))))); have GE931 := Aside0.mk ((by first | exact geU HB.out hg | (rw [hg]; exact below_size (by repeat (first | exact beU HB.out | refine below_set ?_ (Aside0.out ‹_›) | apply below_alloc | apply pw_below_drewN | apply below_drew1))))); have NB861_931 := Aside0.mk ((neU BK861.out hg)); have NB931_861 := Aside0.mk ((enU BK861.out hg)); have NB883_931 := Aside0.mk ((neU BK883.out hg)); have NB931_883 := Aside0.mk ((enU BK883.out hg)); have NB884_931 := Aside0.mk ((neU BK884.out hg)); have NB931_884 := Aside0.mk ((enU BK884.out hg)); replace HO_884000 := Aside0.mk (Kd.R_below (rU HO_884000.out) hb); replace HO_884001 := Aside0.mk (Kd.R_below (rU HO_884001.out) hb); replace HO_885000 := Aside0.mk (Kd.R_below (rU HO_885000.out) hb); replace HO_885001 := Aside0.mk (Kd.R_below (rU HO_885001.out) hb); replace HO926 := Aside0.mk (Kd.R_below (rU HO926.out) hb); replace HO929 := Aside0.mk (Kd.R_below (rU HO929.out) hb); replace BK861 := Aside0.mk (blk_below (bU BK861.out) hb); replace BK883 := Aside0.mk (blk_below (bU BK883.out) hb); replace BK884 := Aside0.mk (blk_below (bU BK884.out) hb); replace HB := Aside0.mk (below_step (by repeat (first | exact beU HB.out | refine below_set ?_ (Aside0.out ‹_›) | apply below_alloc | apply pw_below_drewN | apply below_drew1)) hb); clear hb hbox hg; obtain ⟨Ao146, co146, eo146⟩ := Kd.R_slice HO926.out; subst eo146; have hnb147 := NB931_861.out; have hnc147 := NB861_931.out; have hnb148 := NB931_883.out; have hnc148 := NB883_931.out; have hnb149 := NB931_884.out; have hnc149 := NB884_931.out; have hcz150_0 : w145.cell? ⟨gb931, 0, none⟩ = some (.slice none 0 0) := (blk_cell BK931.out 0).trans rfl; have hcz150_1 : w145.cell? ⟨gb931, 1, none⟩ = some (.slice none 0 0) := (blk_cell BK931.out 1).trans rfl; have hfz150_0 := blk_frozen BK931.out 0; have hfz150_1 := blk_frozen BK931.out 1; obtain ⟨Ao151, co151, eo151⟩ := Kd.R_slice HO929.out; subst eo151) | ((with_reducible refine gate_callee (f := 48) rfl ?_); refine goesL_ (some 101) rfl rfl Try.func48 (by kernel_rfl) rfl #[.agg #[.slice Ao146 t924.length co146, .slice Ao151 t927.length co151], .int .i64 (wrap64 (a1 + (l2.length : Int))), .slice A3 l3.length c3] rfl (by (try simp only [List.map_toArray, List.map_cons, List.map_nil]); first | done | rfl | (simp only [List.length_drop, List.length_take]; rfl)) ?_; (with_reducible refine (disk_Put.calls _ _ t924 _ _ t927 (wrap64 (a1 + (l2.length : Int))) _ _ l3 t940 t943 t946 _ ?side1 ?side2 ?side3 ?side4 ?side5 ?side6 A131.out).mono ?_); (case side1 => refine (Kd.R_reads' (e := 9) (base := w.heap.size) (ok := fun k_ => ((True ∧ some k_ ≠ (.slice Ao61 t871.length co61 : Value).ownBlock) ∧ some k_ ≠ (.slice Ao65 t877.length co65 : Value).ownBlock)) (n := t924.length) (c := co146) ?_).2.2; exact (by (with_reducible repeat (first | apply Kd.R_alloc | apply Kd.R_drewN | apply Kd.R_drew)); exact (Kd.R_mono (Kd.R_far (p := ⟨gb931, 1, none⟩) (Kd.R_far (p := ⟨gb931, 0, none⟩) (Kd.R_types HO926.out BK931.out (by decide)) (fun _ hk => hk.2) (.slice Ao146 t924.length co146)) (fun _ hk => hk.2) (.slice Ao151 t927.length co151)) (fun _ h_ => h_.1)))); (case side2 => exact (Kd.R_reads' HO926.out).2.1); (case side3 => refine (Kd.R_reads' (e := 104) (base := w.heap.size) (ok := fun k_ => ((True ∧ some k_ ≠ (.slice Ao63 t874.length co63 : Value).ownBlock) ∧ some k_ ≠ (.slice Ao67 t880.length co67 : Value).ownBlock)) (n := t927.length) (c := co151) ?_).2.2; exact (by (with_reducible repeat (first | apply Kd.R_alloc | apply Kd.R_drewN | apply Kd.R_drew)); exact (Kd.R_mono (Kd.R_far (p := ⟨gb931, 1, none⟩) (Kd.R_far (p := ⟨gb931, 0, none⟩) (Kd.R_types HO929.out BK931.out (by decide)) (fun _ hk => hk.2) (.slice Ao146 t924.length co146)) (fun _ hk => hk.2) (.slice Ao151 t927.length co151)) (fun _ h_ => h_.1)))); (case side4 => exact (Kd.R_reads' HO929.out).2.1); (case side5 => exact Kd.C_below HR3.out (by repeat (first | exact beU HB.out | refine below_set ?_ (Aside0.out ‹_›) | apply below_alloc | apply pw_below_drewN | apply below_drew1))); (case side6 => exact HC3.out); rintro e w152 ⟨v941, v944, rfl, ho0, ho1, hb⟩; refine ⟨_, rfl, ?_⟩; have n0_ := Aside0.mk (Kd.R_elder' (by (with_reducible repeat (first | apply Kd.R_alloc | apply Kd.R_drewN | apply Kd.R_drew)); exact (Kd.R_mono (Kd.R_far (p := ⟨gb931, 1, none⟩) (Kd.R_far (p := ⟨gb931, 0, none⟩) (Kd.R_types HO_884000.out BK931.out (by decide)) (fun _ hk => hk.2) (.slice Ao146 t924.length co146)) (fun _ hk => hk.2) (.slice Ao151 t927.length co151)) (fun _ h_ => h_.1))) (Kd.R_base ho0) hb); have n1_ := Aside0.mk (Kd.R_elder' (by (with_reducible repeat (first | apply Kd.R_alloc | apply Kd.R_drewN | apply Kd.R_drew)); exact (Kd.R_mono (Kd.R_far (p := ⟨gb931, 1, none⟩) (Kd.R_far (p := ⟨gb931, 0, none⟩) (Kd.R_types HO_884001.out BK931.out (by decide)) (fun _ hk => hk.2) (.slice Ao146 t924.length co146)) (fun _ hk => hk.2) (.slice Ao151 t927.length co151)) (fun _ h_ => h_.1))) (Kd.R_base ho1) hb); have n2_ := Aside0.mk (Kd.R_elder' (by (with_reducible repeat (first | apply Kd.R_alloc | apply Kd.R_drewN | apply Kd.R_drew)); exact (Kd.R_mono (Kd.R_far (p := ⟨gb931, 1, none⟩) (Kd.R_far (p := ⟨gb931, 0, none⟩) (Kd.R_types HO_885000.out BK931.out (by decide)) (fun _ hk => hk.2) (.slice Ao146 t924.length co146)) (fun _ hk => hk.2) (.slice Ao151 t927.length co151)) (fun _ h_ => h_.1))) (Kd.R_base ho0) hb); have n3_ := Aside0.mk (Kd.R_elder' (by (with_reducible repeat (first | apply Kd.R_alloc | apply Kd.R_drewN | apply Kd.R_drew)); exact (Kd.R_mono (Kd.R_far (p := ⟨gb931, 1, none⟩) (Kd.R_far (p := ⟨gb931, 0, none⟩) (Kd.R_types HO_885001.out BK931.out (by decide)) (fun _ hk => hk.2) (.slice Ao146 t924.length co146)) (fun _ hk => hk.2) (.slice Ao151 t927.length co151)) (fun _ h_ => h_.1))) (Kd.R_base ho1) hb); have n4_ := Aside0.mk (Kd.R_elder' (by (with_reducible repeat (first | apply Kd.R_alloc | apply Kd.R_drewN | apply Kd.R_drew)); exact (Kd.R_mono (Kd.R_far (p := ⟨gb931, 1, none⟩) (Kd.R_far (p := ⟨gb931, 0, none⟩) (Kd.R_types HO926.out BK931.out (by decide)) (fun _ hk => hk.2) (.slice Ao146 t924.length co146)) (fun _ hk => hk.2) (.slice Ao151 t927.length co151)) (fun _ h_ => h_.1))) (Kd.R_base ho0) hb); have n5_ := Aside0.mk (Kd.R_elder' (by (with_reducible repeat (first | apply Kd.R_alloc | apply Kd.R_drewN | apply Kd.R_drew)); exact (Kd.R_mono (Kd.R_far (p := ⟨gb931, 1, none⟩) (Kd.R_far (p := ⟨gb931, 0, none⟩) (Kd.R_types HO929.out BK931.out (by decide)) (fun _ hk => hk.2) (.slice Ao146 t924.length co146)) (fun _ hk => hk.2) (.slice Ao151 t927.length co151)) (fun _ h_ => h_.1))) (Kd.R_base ho1) hb); have n6_ := Aside0.mk (Kd.R_lower (Kd.R_new' (Kd.R_new' (Kd.R_new' ho0 (Kd.R_lt (by (with_reducible repeat (first | apply Kd.R_alloc | apply Kd.R_drewN | apply Kd.R_drew)); exact (Kd.R_mono (Kd.R_far (p := ⟨gb931, 1, none⟩) (Kd.R_far (p := ⟨gb931, 0, none⟩) (Kd.R_types HO_884000.out BK931.out (by decide)) (fun _ hk => hk.2) (.slice Ao146 t924.length co146)) (fun _ hk => hk.2) (.slice Ao151 t927.length co151)) (fun _ h_ => h_.1))))) (Kd.R_lt (by (with_reducible repeat (first | apply Kd.R_alloc | apply Kd.R_drewN | apply Kd.R_drew)); exact (Kd.R_mono (Kd.R_far (p := ⟨gb931, 1, none⟩) (Kd.R_far (p := ⟨gb931, 0, none⟩) (Kd.R_types HO_885000.out BK931.out (by decide)) (fun _ hk => hk.2) (.slice Ao146 t924.length co146)) (fun _ hk => hk.2) (.slice Ao151 t927.length co151)) (fun _ h_ => h_.1))))) (Kd.R_lt (by (with_reducible repeat (first | apply Kd.R_alloc | apply Kd.R_drewN | apply Kd.R_drew)); exact (Kd.R_mono (Kd.R_far (p := ⟨gb931, 1, none⟩) (Kd.R_far (p := ⟨gb931, 0, none⟩) (Kd.R_types HO926.out BK931.out (by decide)) (fun _ hk => hk.2) (.slice Ao146 t924.length co146)) (fun _ hk => hk.2) (.slice Ao151 t927.length co151)) (fun _ h_ => h_.1))))) (below_size (by repeat (first | exact beU HB.out | refine below_set ?_ (Aside0.out ‹_›) | apply below_alloc | apply pw_below_drewN | apply below_drew1)))); have n7_ := Aside0.mk (Kd.R_lower (Kd.R_new' (Kd.R_new' (Kd.R_new' ho1 (Kd.R_lt (by (with_reducible repeat (first | apply Kd.R_alloc | apply Kd.R_drewN | apply Kd.R_drew)); exact (Kd.R_mono (Kd.R_far (p := ⟨gb931, 1, none⟩) (Kd.R_far (p := ⟨gb931, 0, none⟩) (Kd.R_types HO_884001.out BK931.out (by decide)) (fun _ hk => hk.2) (.slice Ao146 t924.length co146)) (fun _ hk => hk.2) (.slice Ao151 t927.length co151)) (fun _ h_ => h_.1))))) (Kd.R_lt (by (with_reducible repeat (first | apply Kd.R_alloc | apply Kd.R_drewN | apply Kd.R_drew)); exact (Kd.R_mono (Kd.R_far (p := ⟨gb931, 1, none⟩) (Kd.R_far (p := ⟨gb931, 0, none⟩) (Kd.R_types HO_885001.out BK931.out (by decide)) (fun _ hk => hk.2) (.slice Ao146 t924.length co146)) (fun _ hk => hk.2) (.slice Ao151 t927.length co151)) (fun _ h_ => h_.1))))) (Kd.R_lt (by (with_reducible repeat (first | apply Kd.R_alloc | apply Kd.R_drewN | apply Kd.R_drew)); exact (Kd.R_mono (Kd.R_far (p := ⟨gb931, 1, none⟩) (Kd.R_far (p := ⟨gb931, 0, none⟩) (Kd.R_types HO929.out BK931.out (by decide)) (fun _ hk => hk.2) (.slice Ao146 t924.length co146)) (fun _ hk => hk.2) (.slice Ao151 t927.length co151)) (fun _ h_ => h_.1))))) (below_size (by repeat (first | exact beU HB.out | refine below_set ?_ (Aside0.out ‹_›) | apply below_alloc | apply pw_below_drewN | apply below_drew1)))); have n8_ := Aside0.mk (blk_below (g := gb861) (o := .cells #[.slice A0_0 l0_0.length c0_0, .slice A0_1 l0_1.length c0_1] 86 (0, 0)) (by (with_reducible repeat (first | refine blk_drewN ?_ _ | refine blk_drew ?_ | refine blk_alloc ?_ _)); refine blk_far ?_ NB861_931.out _; (with_reducible repeat (first | refine blk_drewN ?_ _ | refine blk_drew ?_ | refine blk_alloc ?_ _)); refine blk_far ?_ NB861_931.out _; (with_reducible repeat (first | refine blk_drewN ?_ _ | refine blk_drew ?_ | refine blk_alloc ?_ _)); exact BK861.out) hb); have n9_ := Aside0.mk (blk_below (g := gb883) (o := .cells #[.slice Ao61 t871.length co61, .slice Ao63 t874.length co63] 86 (0, 0)) (by (with_reducible repeat (first | refine blk_drewN ?_ _ | refine blk_drew ?_ | refine blk_alloc ?_ _)); refine blk_far ?_ NB883_931.out _; (with_reducible repeat (first | refine blk_drewN ?_ _ | refine blk_drew ?_ | refine blk_alloc ?_ _)); refine blk_far ?_ NB883_931.out _; (with_reducible repeat (first | refine blk_drewN ?_ _ | refine blk_drew ?_ | refine blk_alloc ?_ _)); exact BK883.out) hb); have n10_ := Aside0.mk (blk_below (g := gb884) (o := .cells #[.slice Ao65 t877.length co65, .slice Ao67 t880.length co67] 86 (0, 0)) (by (with_reducible repeat (first | refine blk_drewN ?_ _ | refine blk_drew ?_ | refine blk_alloc ?_ _)); refine blk_far ?_ NB884_931.out _; (with_reducible repeat (first | refine blk_drewN ?_ _ | refine blk_drew ?_ | refine blk_alloc ?_ _)); refine blk_far ?_ NB884_931.out _; (with_reducible repeat (first | refine blk_drewN ?_ _ | refine blk_drew ?_ | refine blk_alloc ?_ _)); exact BK884.out) hb); have n11_ := Aside0.mk (blk_below (g := gb931) (o := .cells #[.slice Ao146 t924.length co146, .slice Ao151 t927.length co151] 86 (0, 0)) (by (with_reducible repeat (first | refine blk_drewN ?_ _ | refine blk_drew ?_ | refine blk_alloc ?_ _)); refine blk_put (cs := #[.slice Ao146 t924.length co146, .slice none 0 0]) ?_ 1 _ rfl; (with_reducible repeat (first | refine blk_drewN ?_ _ | refine blk_drew ?_ | refine blk_alloc ?_ _)); refine blk_put (cs := #[.slice none 0 0, .slice none 0 0]) ?_ 0 _ rfl; (with_reducible repeat (first | refine blk_drewN ?_ _ | refine blk_drew ?_ | refine blk_alloc ?_ _)); exact BK931.out) hb); have n12_ := Aside0.mk (below_step (by repeat (first | exact beU HB.out | refine below_set ?_ (Aside0.out ‹_›) | apply below_alloc | apply pw_below_drewN | apply below_drew1)) hb); clear HO_884000; clear HO_884001; clear HO_885000; clear HO_885001; clear HO926; clear HO929; clear BK861; clear BK883; clear BK884; clear BK931; clear HB; have HO_884000 := n0_; have HO_884001 := n1_; have HO_885000 := n2_; have HO_885001 := n3_; have HO926 := n4_; have HO929 := n5_; have HO942 := n6_; have HO945 := n7_; have BK861 := n8_; have BK883 := n9_; have BK884 := n10_; have BK931 := n11_; have HB := n12_; clear n0_ n1_ n2_ n3_ n4_ n5_ n6_ n7_ n8_ n9_ n10_ n11_ n12_; (try clear hb); (try clear hb2); (try clear hk); (try clear hi); (try clear ho0); (try clear ho1); obtain ⟨Ao153, co153, eo153⟩ := Kd.R_slice HO942.out; subst eo153; have hcz154_0 : w152.cell? ⟨gb931, 0, none⟩ = some (.slice Ao146 t924.length co146) := (blk_cell BK931.out 0).trans rfl; have hcz154_1 : w152.cell? ⟨gb931, 1, none⟩ = some (.slice Ao151 t927.length co151) := (blk_cell BK931.out 1).trans rfl; have hfz154_0 := blk_frozen BK931.out 0; have hfz154_1 := blk_frozen BK931.out 1; obtain ⟨Ao155, co155, eo155⟩ := Kd.R_slice HO945.out; subst eo155))
      have n0_ : Aside0 (Kd.R Kd.string 9 ((w152.setCell ⟨gb931, 0, none⟩ (.slice Ao153 t940.length co153)).setCell ⟨gb931, 1, none⟩ (.slice Ao155 t943.length co155)) w.heap.size (fun k_ => some k_ ≠ (.slice Ao65 t877.length co65 : Value).ownBlock ∧ some k_ ≠ (.slice Ao146 t924.length co146 : Value).ownBlock ∧ some k_ ≠ (.slice Ao153 t940.length co153 : Value).ownBlock) (.slice Ao61 t871.length co61) t871) := ⟨by (with_reducible repeat (first | apply Kd.R_alloc | apply Kd.R_drewN | apply Kd.R_drew)); exact Kd.R_mono (Kd.R_far (p := ⟨gb931, 1, none⟩) (Kd.R_far (p := ⟨gb931, 0, none⟩) (Kd.R_types HO_884000.out BK931.out (by decide)) (fun _ hk => hk.2) (.slice Ao153 t940.length co153)) (fun _ hk => hk.2) (.slice Ao155 t943.length co155)) (fun _ hk => ⟨hk.1.1.1, ⟨hk.1.1.2, hk.1.2⟩⟩)⟩
      have n1_ : Aside0 (Kd.R k104 104 ((w152.setCell ⟨gb931, 0, none⟩ (.slice Ao153 t940.length co153)).setCell ⟨gb931, 1, none⟩ (.slice Ao155 t943.length co155)) w.heap.size (fun k_ => some k_ ≠ (.slice Ao67 t880.length co67 : Value).ownBlock ∧ some k_ ≠ (.slice Ao151 t927.length co151 : Value).ownBlock ∧ some k_ ≠ (.slice Ao155 t943.length co155 : Value).ownBlock) (.slice Ao63 t874.length co63) t874) := ⟨by (with_reducible repeat (first | apply Kd.R_alloc | apply Kd.R_drewN | apply Kd.R_drew)); exact Kd.R_mono (Kd.R_far (p := ⟨gb931, 1, none⟩) (Kd.R_far (p := ⟨gb931, 0, none⟩) (Kd.R_types HO_884001.out BK931.out (by decide)) (fun _ hk => hk.2) (.slice Ao153 t940.length co153)) (fun _ hk => hk.2) (.slice Ao155 t943.length co155)) (fun _ hk => ⟨hk.1.1.1, ⟨hk.1.1.2, hk.1.2⟩⟩)⟩
      have n2_ : Aside0 (Kd.R Kd.string 9 ((w152.setCell ⟨gb931, 0, none⟩ (.slice Ao153 t940.length co153)).setCell ⟨gb931, 1, none⟩ (.slice Ao155 t943.length co155)) w.heap.size (fun k_ => some k_ ≠ (.slice Ao61 t871.length co61 : Value).ownBlock ∧ some k_ ≠ (.slice Ao146 t924.length co146 : Value).ownBlock ∧ some k_ ≠ (.slice Ao153 t940.length co153 : Value).ownBlock) (.slice Ao65 t877.length co65) t877) := ⟨by (with_reducible repeat (first | apply Kd.R_alloc | apply Kd.R_drewN | apply Kd.R_drew)); exact Kd.R_mono (Kd.R_far (p := ⟨gb931, 1, none⟩) (Kd.R_far (p := ⟨gb931, 0, none⟩) (Kd.R_types HO_885000.out BK931.out (by decide)) (fun _ hk => hk.2) (.slice Ao153 t940.length co153)) (fun _ hk => hk.2) (.slice Ao155 t943.length co155)) (fun _ hk => ⟨hk.1.1.1, ⟨hk.1.1.2, hk.1.2⟩⟩)⟩
      have n3_ : Aside0 (Kd.R k104 104 ((w152.setCell ⟨gb931, 0, none⟩ (.slice Ao153 t940.length co153)).setCell ⟨gb931, 1, none⟩ (.slice Ao155 t943.length co155)) w.heap.size (fun k_ => some k_ ≠ (.slice Ao63 t874.length co63 : Value).ownBlock ∧ some k_ ≠ (.slice Ao151 t927.length co151 : Value).ownBlock ∧ some k_ ≠ (.slice Ao155 t943.length co155 : Value).ownBlock) (.slice Ao67 t880.length co67) t880) := ⟨by (with_reducible repeat (first | apply Kd.R_alloc | apply Kd.R_drewN | apply Kd.R_drew)); exact Kd.R_mono (Kd.R_far (p := ⟨gb931, 1, none⟩) (Kd.R_far (p := ⟨gb931, 0, none⟩) (Kd.R_types HO_885001.out BK931.out (by decide)) (fun _ hk => hk.2) (.slice Ao153 t940.length co153)) (fun _ hk => hk.2) (.slice Ao155 t943.length co155)) (fun _ hk => ⟨hk.1.1.1, ⟨hk.1.1.2, hk.1.2⟩⟩)⟩
      have n4_ : Aside0 (Kd.R Kd.string 9 ((w152.setCell ⟨gb931, 0, none⟩ (.slice Ao153 t940.length co153)).setCell ⟨gb931, 1, none⟩ (.slice Ao155 t943.length co155)) w.heap.size (fun k_ => some k_ ≠ (.slice Ao61 t871.length co61 : Value).ownBlock ∧ some k_ ≠ (.slice Ao65 t877.length co65 : Value).ownBlock ∧ some k_ ≠ (.slice Ao153 t940.length co153 : Value).ownBlock) (.slice Ao146 t924.length co146) t924) := ⟨by (with_reducible repeat (first | apply Kd.R_alloc | apply Kd.R_drewN | apply Kd.R_drew)); exact Kd.R_mono (Kd.R_far (p := ⟨gb931, 1, none⟩) (Kd.R_far (p := ⟨gb931, 0, none⟩) (Kd.R_types HO926.out BK931.out (by decide)) (fun _ hk => hk.2) (.slice Ao153 t940.length co153)) (fun _ hk => hk.2) (.slice Ao155 t943.length co155)) (fun _ hk => ⟨hk.1.1.1.2, ⟨hk.1.1.2, hk.1.2⟩⟩)⟩
      have n5_ : Aside0 (Kd.R k104 104 ((w152.setCell ⟨gb931, 0, none⟩ (.slice Ao153 t940.length co153)).setCell ⟨gb931, 1, none⟩ (.slice Ao155 t943.length co155)) w.heap.size (fun k_ => some k_ ≠ (.slice Ao63 t874.length co63 : Value).ownBlock ∧ some k_ ≠ (.slice Ao67 t880.length co67 : Value).ownBlock ∧ some k_ ≠ (.slice Ao155 t943.length co155 : Value).ownBlock) (.slice Ao151 t927.length co151) t927) := ⟨by (with_reducible repeat (first | apply Kd.R_alloc | apply Kd.R_drewN | apply Kd.R_drew)); exact Kd.R_mono (Kd.R_far (p := ⟨gb931, 1, none⟩) (Kd.R_far (p := ⟨gb931, 0, none⟩) (Kd.R_types HO929.out BK931.out (by decide)) (fun _ hk => hk.2) (.slice Ao153 t940.length co153)) (fun _ hk => hk.2) (.slice Ao155 t943.length co155)) (fun _ hk => ⟨hk.1.1.1.2, ⟨hk.1.1.2, hk.1.2⟩⟩)⟩
      have n6_ : Aside0 (Kd.R Kd.string 9 ((w152.setCell ⟨gb931, 0, none⟩ (.slice Ao153 t940.length co153)).setCell ⟨gb931, 1, none⟩ (.slice Ao155 t943.length co155)) w.heap.size (fun k_ => some k_ ≠ (.slice Ao61 t871.length co61 : Value).ownBlock ∧ some k_ ≠ (.slice Ao65 t877.length co65 : Value).ownBlock ∧ some k_ ≠ (.slice Ao146 t924.length co146 : Value).ownBlock) (.slice Ao153 t940.length co153) t940) := ⟨by (with_reducible repeat (first | apply Kd.R_alloc | apply Kd.R_drewN | apply Kd.R_drew)); exact Kd.R_mono (Kd.R_far (p := ⟨gb931, 1, none⟩) (Kd.R_far (p := ⟨gb931, 0, none⟩) (Kd.R_types HO942.out BK931.out (by decide)) (fun _ hk => hk.2) (.slice Ao153 t940.length co153)) (fun _ hk => hk.2) (.slice Ao155 t943.length co155)) (fun _ hk => ⟨hk.1.1.1.2, ⟨hk.1.1.2, hk.1.2⟩⟩)⟩
      have n7_ : Aside0 (Kd.R k104 104 ((w152.setCell ⟨gb931, 0, none⟩ (.slice Ao153 t940.length co153)).setCell ⟨gb931, 1, none⟩ (.slice Ao155 t943.length co155)) w.heap.size (fun k_ => some k_ ≠ (.slice Ao63 t874.length co63 : Value).ownBlock ∧ some k_ ≠ (.slice Ao67 t880.length co67 : Value).ownBlock ∧ some k_ ≠ (.slice Ao151 t927.length co151 : Value).ownBlock) (.slice Ao155 t943.length co155) t943) := ⟨by (with_reducible repeat (first | apply Kd.R_alloc | apply Kd.R_drewN | apply Kd.R_drew)); exact Kd.R_mono (Kd.R_far (p := ⟨gb931, 1, none⟩) (Kd.R_far (p := ⟨gb931, 0, none⟩) (Kd.R_types HO945.out BK931.out (by decide)) (fun _ hk => hk.2) (.slice Ao153 t940.length co153)) (fun _ hk => hk.2) (.slice Ao155 t943.length co155)) (fun _ hk => ⟨hk.1.1.1.2, ⟨hk.1.1.2, hk.1.2⟩⟩)⟩
      have n8_ : Aside0 (((w152.setCell ⟨gb931, 0, none⟩ (.slice Ao153 t940.length co153)).setCell ⟨gb931, 1, none⟩ (.slice Ao155 t943.length co155)).heap[gb861]? = some (.cells #[.slice A0_0 l0_0.length c0_0, .slice A0_1 l0_1.length c0_1] 86 (0, 0))) := ⟨by (with_reducible repeat (first | refine blk_drewN ?_ _ | refine blk_drew ?_ | refine blk_alloc ?_ _)); refine blk_far ?_ NB861_931.out _; (with_reducible repeat (first | refine blk_drewN ?_ _ | refine blk_drew ?_ | refine blk_alloc ?_ _)); refine blk_far ?_ NB861_931.out _; (with_reducible repeat (first | refine blk_drewN ?_ _ | refine blk_drew ?_ | refine blk_alloc ?_ _)); exact BK861.out⟩
      have n9_ : Aside0 (((w152.setCell ⟨gb931, 0, none⟩ (.slice Ao153 t940.length co153)).setCell ⟨gb931, 1, none⟩ (.slice Ao155 t943.length co155)).heap[gb883]? = some (.cells #[.slice Ao61 t871.length co61, .slice Ao63 t874.length co63] 86 (0, 0))) := ⟨by (with_reducible repeat (first | refine blk_drewN ?_ _ | refine blk_drew ?_ | refine blk_alloc ?_ _)); refine blk_far ?_ NB883_931.out _; (with_reducible repeat (first | refine blk_drewN ?_ _ | refine blk_drew ?_ | refine blk_alloc ?_ _)); refine blk_far ?_ NB883_931.out _; (with_reducible repeat (first | refine blk_drewN ?_ _ | refine blk_drew ?_ | refine blk_alloc ?_ _)); exact BK883.out⟩
      have n10_ : Aside0 (((w152.setCell ⟨gb931, 0, none⟩ (.slice Ao153 t940.length co153)).setCell ⟨gb931, 1, none⟩ (.slice Ao155 t943.length co155)).heap[gb884]? = some (.cells #[.slice Ao65 t877.length co65, .slice Ao67 t880.length co67] 86 (0, 0))) := ⟨by (with_reducible repeat (first | refine blk_drewN ?_ _ | refine blk_drew ?_ | refine blk_alloc ?_ _)); refine blk_far ?_ NB884_931.out _; (with_reducible repeat (first | refine blk_drewN ?_ _ | refine blk_drew ?_ | refine blk_alloc ?_ _)); refine blk_far ?_ NB884_931.out _; (with_reducible repeat (first | refine blk_drewN ?_ _ | refine blk_drew ?_ | refine blk_alloc ?_ _)); exact BK884.out⟩
      have n11_ : Aside0 (((w152.setCell ⟨gb931, 0, none⟩ (.slice Ao153 t940.length co153)).setCell ⟨gb931, 1, none⟩ (.slice Ao155 t943.length co155)).heap[gb931]? = some (.cells #[.slice Ao153 t940.length co153, .slice Ao155 t943.length co155] 86 (0, 0))) := ⟨by (with_reducible repeat (first | refine blk_drewN ?_ _ | refine blk_drew ?_ | refine blk_alloc ?_ _)); refine blk_put (cs := #[.slice Ao153 t940.length co153, .slice Ao151 t927.length co151]) ?_ 1 _ rfl; (with_reducible repeat (first | refine blk_drewN ?_ _ | refine blk_drew ?_ | refine blk_alloc ?_ _)); refine blk_put (cs := #[.slice Ao146 t924.length co146, .slice Ao151 t927.length co151]) ?_ 0 _ rfl; (with_reducible repeat (first | refine blk_drewN ?_ _ | refine blk_drew ?_ | refine blk_alloc ?_ _)); exact BK931.out⟩
      have n12_ : Aside0 (Below w.heap.size w ((w152.setCell ⟨gb931, 0, none⟩ (.slice Ao153 t940.length co153)).setCell ⟨gb931, 1, none⟩ (.slice Ao155 t943.length co155))) := ⟨by repeat (first | (with_reducible first | exact HB.out | apply below_alloc | apply pw_below_drewN | apply below_drew1 | refine below_set ?_ GE861.out | refine below_set ?_ GE883.out | refine below_set ?_ GE884.out | refine below_set ?_ GE931.out) | exact HB.out)⟩
      (try clear HO_884000)
      (try clear HO_884001)
      (try clear HO_885000)
      (try clear HO_885001)
      (try clear HO926)
      (try clear HO929)
      (try clear HO942)
      (try clear HO945)
      (try clear BK861)
      (try clear BK883)
      (try clear BK884)
      (try clear BK931)
      (try clear HB)
      generalize ((w152.setCell ⟨gb931, 0, none⟩ (.slice Ao153 t940.length co153)).setCell ⟨gb931, 1, none⟩ (.slice Ao155 t943.length co155)) = w156 at n0_ n1_ n2_ n3_ n4_ n5_ n6_ n7_ n8_ n9_ n10_ n11_ n12_ ⊢
      have HO_884000 := n0_
      have HO_884001 := n1_
      have HO_885000 := n2_
      have HO_885001 := n3_
      have HO926 := n4_
      have HO929 := n5_
      have HO942 := n6_
      have HO945 := n7_
      have BK861 := n8_
      have BK883 := n9_
      have BK884 := n10_
      have BK931 := n11_
      have HB := n12_
      clear n0_ n1_ n2_ n3_ n4_ n5_ n6_ n7_ n8_ n9_ n10_ n11_ n12_
      replace HO_884000 := Aside0.mk (Kd.R_drew HO_884000.out)
      replace HO_884001 := Aside0.mk (Kd.R_drew HO_884001.out)
      replace HO_885000 := Aside0.mk (Kd.R_drew HO_885000.out)
      replace HO_885001 := Aside0.mk (Kd.R_drew HO_885001.out)
      replace HO926 := Aside0.mk (Kd.R_drew HO926.out)
      replace HO929 := Aside0.mk (Kd.R_drew HO929.out)
      replace HO942 := Aside0.mk (Kd.R_drew HO942.out)
      replace HO945 := Aside0.mk (Kd.R_drew HO945.out)
      replace BK861 := Aside0.mk (blk_drew BK861.out)
      replace BK883 := Aside0.mk (blk_drew BK883.out)
      replace BK884 := Aside0.mk (blk_drew BK884.out)
      replace BK931 := Aside0.mk (blk_drew BK931.out)
      replace HB := Aside0.mk (below_drew1 HB.out)
      refine start_ (n := 14) (S := fun w' => w'.cell? ⟨gb861, 0, none⟩ = some (.slice A0_0 l0_0.length c0_0) ∧ w'.cell? ⟨gb861, 1, none⟩ = some (.slice A0_1 l0_1.length c0_1)) (ds := []) #[false, false, false, false, false, false, false, false, false, false, false, false, false, false] (by kernel_rfl) rfl rfl ⟨(blk_cell BK861.out 0).trans rfl, (blk_cell BK861.out 1).trans rfl⟩ (fun hHeld => ?_); refine with_tabW weirkeeperlaw04_DiskOnce.tab10 weirkeeperlaw04_DiskOnce.bits10 (fun HT_ HW_ => ?_)
      generalize w156.drew = w157 at HO_884000 HO_884001 HO_885000 HO_885001 HO926 HO929 HO942 HO945 BK861 BK883 BK884 BK931 HB hHeld ⊢
      refine pure_ (i := 1) (N := some 106) (v := ?_) (a' := ?_) #[false, true, false, false, false, false, false, false, false, false, false, false, false, false] rfl rfl (any_of HT_.out (by kernel_rfl)) (fun _ _ _ h => h) (Or.inl ⟨by rfl, ?_⟩) ?_ ?_
      rotate_left
      ·intro w'
       go_simp
       with_reducible rfl
      rotate_left
      ·simp only [Act.put, List.setIfInBounds_toArray, List.set_cons_zero, List.set_cons_succ, i64_w, i32_w]
       rfl
      refine pure_ (i := 3) (N := some 108) (v := ?_) (a' := ?_) #[false, true, false, true, false, false, false, false, false, false, false, false, false, false] rfl rfl (any_of HT_.out (by kernel_rfl)) (fun _ _ _ h => h) (Or.inl ⟨by rfl, ?_⟩) ?_ ?_
      rotate_left
      ·intro w'
       go_simp
       with_reducible rfl
      rotate_left
      ·simp only [Act.put, List.setIfInBounds_toArray, List.set_cons_zero, List.set_cons_succ, i64_w, i32_w]
       rfl
      refine pure_ (i := 5) (N := some 110) (v := ?_) (a' := ?_) #[false, true, false, true, false, true, false, false, false, false, false, false, false, false] rfl rfl (any_of HT_.out (by kernel_rfl)) (fun _ _ _ h => h) (Or.inl ⟨by rfl, ?_⟩) ?_ ?_
      rotate_left
      ·intro w'
       go_simp
       with_reducible rfl
      rotate_left
      ·simp only [Act.put, List.setIfInBounds_toArray, List.set_cons_zero, List.set_cons_succ, i64_w, i32_w]
       rfl
      refine take_ (i := 0) (N := some 105) (v := ?_) (a' := ?_) #[true, true, false, true, false, true, false, false, false, false, false, false, false, false] rfl rfl (take_ofW HT_.out HW_.out (by kernel_rfl)) (fun _ _ _ h => h) (Or.inl ⟨by rfl, ?_⟩) hHeld ?_ ?_
      rotate_left
      ·rintro w' ⟨s0, s1⟩
       go_simp
       with_reducible rfl
      rotate_left
      ·simp only [Act.put, List.setIfInBounds_toArray, List.set_cons_zero, List.set_cons_succ, i64_w, i32_w]
       rfl
      refine join_ (σ := Value × Value × Value × Value × Value × Nat) 2 #[true, true, true, true, true, true, true, true, true, true, true, true, false, false] (fun s_ => [(107, s_.1), (109, s_.2.1), (111, s_.2.2.1), (112, .tuple #[.agg #[s_.2.2.2.1, s_.2.2.2.2.1], .int .i64 t962]), (18, .pointer (some ⟨s_.2.2.2.2.2, 0, none⟩)), (104, .tuple #[.agg #[s_.2.2.2.1, s_.2.2.2.2.1], .int .i64 t962]), (113, .agg #[s_.2.2.2.1, s_.2.2.2.2.1]), (114, .int .i64 t962)]) (fun s_ w' => (w'.cell? ⟨gb861, 0, none⟩ = some (.slice A0_0 l0_0.length c0_0) ∧ w'.cell? ⟨gb861, 1, none⟩ = some (.slice A0_1 l0_1.length c0_1)) ∧ (Kd.R Kd.string 9 w' w.heap.size (fun k_ => some k_ ≠ (.slice Ao153 t940.length co153 : Value).ownBlock ∧ some k_ ≠ (s_.2.2.1 : Value).ownBlock ∧ some k_ ≠ (s_.2.2.2.1 : Value).ownBlock ∧ some k_ ≠ (.slice Ao61 t871.length co61 : Value).ownBlock ∧ some k_ ≠ (.slice Ao65 t877.length co65 : Value).ownBlock) (.slice Ao146 t924.length co146) t924) ∧ (Kd.R k104 104 w' w.heap.size (fun k_ => some k_ ≠ (.slice Ao155 t943.length co155 : Value).ownBlock ∧ some k_ ≠ (s_.2.2.2.2.1 : Value).ownBlock ∧ some k_ ≠ (.slice Ao63 t874.length co63 : Value).ownBlock ∧ some k_ ≠ (.slice Ao67 t880.length co67 : Value).ownBlock) (.slice Ao151 t927.length co151) t927) ∧ (Kd.R Kd.string 9 w' w.heap.size (fun k_ => some k_ ≠ (.slice Ao146 t924.length co146 : Value).ownBlock ∧ some k_ ≠ (s_.2.2.1 : Value).ownBlock ∧ some k_ ≠ (s_.2.2.2.1 : Value).ownBlock ∧ some k_ ≠ (.slice Ao61 t871.length co61 : Value).ownBlock ∧ some k_ ≠ (.slice Ao65 t877.length co65 : Value).ownBlock) (.slice Ao153 t940.length co153) t940) ∧ (Kd.R k104 104 w' w.heap.size (fun k_ => some k_ ≠ (.slice Ao151 t927.length co151 : Value).ownBlock ∧ some k_ ≠ (s_.2.2.2.2.1 : Value).ownBlock ∧ some k_ ≠ (.slice Ao63 t874.length co63 : Value).ownBlock ∧ some k_ ≠ (.slice Ao67 t880.length co67 : Value).ownBlock) (.slice Ao155 t943.length co155) t943) ∧ (Kd.R Kd.string 9 w' w.heap.size (fun k_ => some k_ ≠ (.slice Ao146 t924.length co146 : Value).ownBlock ∧ some k_ ≠ (.slice Ao153 t940.length co153 : Value).ownBlock ∧ some k_ ≠ (s_.2.2.2.1 : Value).ownBlock ∧ some k_ ≠ (.slice Ao61 t871.length co61 : Value).ownBlock ∧ some k_ ≠ (.slice Ao65 t877.length co65 : Value).ownBlock) s_.2.2.1 y953) ∧ (Kd.R Kd.string 9 w' w.heap.size (fun k_ => some k_ ≠ (.slice Ao146 t924.length co146 : Value).ownBlock ∧ some k_ ≠ (.slice Ao153 t940.length co153 : Value).ownBlock ∧ some k_ ≠ (s_.2.2.1 : Value).ownBlock ∧ some k_ ≠ (.slice Ao61 t871.length co61 : Value).ownBlock ∧ some k_ ≠ (.slice Ao65 t877.length co65 : Value).ownBlock) s_.2.2.2.1 t956) ∧ (Kd.R k104 104 w' w.heap.size (fun k_ => some k_ ≠ (.slice Ao151 t927.length co151 : Value).ownBlock ∧ some k_ ≠ (.slice Ao155 t943.length co155 : Value).ownBlock ∧ some k_ ≠ (.slice Ao63 t874.length co63 : Value).ownBlock ∧ some k_ ≠ (.slice Ao67 t880.length co67 : Value).ownBlock) s_.2.2.2.2.1 t959) ∧ (Kd.R Kd.string 9 w' w.heap.size (fun k_ => some k_ ≠ (.slice Ao146 t924.length co146 : Value).ownBlock ∧ some k_ ≠ (.slice Ao153 t940.length co153 : Value).ownBlock ∧ some k_ ≠ (s_.2.2.1 : Value).ownBlock ∧ some k_ ≠ (s_.2.2.2.1 : Value).ownBlock ∧ some k_ ≠ (.slice Ao65 t877.length co65 : Value).ownBlock) (.slice Ao61 t871.length co61) t871) ∧ (Kd.R k104 104 w' w.heap.size (fun k_ => some k_ ≠ (.slice Ao151 t927.length co151 : Value).ownBlock ∧ some k_ ≠ (.slice Ao155 t943.length co155 : Value).ownBlock ∧ some k_ ≠ (s_.2.2.2.2.1 : Value).ownBlock ∧ some k_ ≠ (.slice Ao67 t880.length co67 : Value).ownBlock) (.slice Ao63 t874.length co63) t874) ∧ (Kd.R Kd.string 9 w' w.heap.size (fun k_ => some k_ ≠ (.slice Ao146 t924.length co146 : Value).ownBlock ∧ some k_ ≠ (.slice Ao153 t940.length co153 : Value).ownBlock ∧ some k_ ≠ (s_.2.2.1 : Value).ownBlock ∧ some k_ ≠ (s_.2.2.2.1 : Value).ownBlock ∧ some k_ ≠ (.slice Ao61 t871.length co61 : Value).ownBlock) (.slice Ao65 t877.length co65) t877) ∧ (Kd.R k104 104 w' w.heap.size (fun k_ => some k_ ≠ (.slice Ao151 t927.length co151 : Value).ownBlock ∧ some k_ ≠ (.slice Ao155 t943.length co155 : Value).ownBlock ∧ some k_ ≠ (s_.2.2.2.2.1 : Value).ownBlock ∧ some k_ ≠ (.slice Ao63 t874.length co63 : Value).ownBlock) (.slice Ao67 t880.length co67) t880) ∧ (w'.heap[gb861]? = some (.cells #[.slice A0_0 l0_0.length c0_0, .slice A0_1 l0_1.length c0_1] 86 (0, 0))) ∧ (w'.heap[gb883]? = some (.cells #[.slice Ao61 t871.length co61, .slice Ao63 t874.length co63] 86 (0, 0))) ∧ (w'.heap[gb884]? = some (.cells #[.slice Ao65 t877.length co65, .slice Ao67 t880.length co67] 86 (0, 0))) ∧ (w'.heap[gb931]? = some (.cells #[.slice Ao153 t940.length co153, .slice Ao155 t943.length co155] 86 (0, 0))) ∧ (w'.heap[s_.2.2.2.2.2]? = some (.cells #[.slice none 0 0, .slice none 0 0] 86 (0, 0))) ∧ (w.heap.size ≤ s_.2.2.2.2.2) ∧ (w.heap.size ≤ s_.2.2.2.2.2) ∧ (gb861 ≠ s_.2.2.2.2.2) ∧ (s_.2.2.2.2.2 ≠ gb861) ∧ (gb883 ≠ s_.2.2.2.2.2) ∧ (s_.2.2.2.2.2 ≠ gb883) ∧ (gb884 ≠ s_.2.2.2.2.2) ∧ (s_.2.2.2.2.2 ≠ gb884) ∧ (gb931 ≠ s_.2.2.2.2.2) ∧ (s_.2.2.2.2.2 ≠ gb931) ∧ (Below w.heap.size w w')) ?_ ?_
      rotate_left
      ·intro hJ2_4_6_7_11
       refine join_ (σ := Value × Value × Value × Value × Value) 3 #[true, true, true, true, true, true, true, true, true, true, true, false, false, false] (fun s_ => [(107, s_.1), (109, s_.2.1), (111, s_.2.2.1), (112, .tuple #[.agg #[s_.2.2.2.1, s_.2.2.2.2], .int .i64 t962]), (104, .tuple #[.agg #[s_.2.2.2.1, s_.2.2.2.2], .int .i64 t962]), (113, .agg #[s_.2.2.2.1, s_.2.2.2.2]), (114, .int .i64 t962)]) (fun s_ w' => (w'.cell? ⟨gb861, 0, none⟩ = some (.slice A0_0 l0_0.length c0_0) ∧ w'.cell? ⟨gb861, 1, none⟩ = some (.slice A0_1 l0_1.length c0_1)) ∧ (Kd.R Kd.string 9 w' w.heap.size (fun k_ => some k_ ≠ (.slice Ao153 t940.length co153 : Value).ownBlock ∧ some k_ ≠ (s_.2.2.1 : Value).ownBlock ∧ some k_ ≠ (s_.2.2.2.1 : Value).ownBlock ∧ some k_ ≠ (.slice Ao61 t871.length co61 : Value).ownBlock ∧ some k_ ≠ (.slice Ao65 t877.length co65 : Value).ownBlock) (.slice Ao146 t924.length co146) t924) ∧ (Kd.R k104 104 w' w.heap.size (fun k_ => some k_ ≠ (.slice Ao155 t943.length co155 : Value).ownBlock ∧ some k_ ≠ (s_.2.2.2.2 : Value).ownBlock ∧ some k_ ≠ (.slice Ao63 t874.length co63 : Value).ownBlock ∧ some k_ ≠ (.slice Ao67 t880.length co67 : Value).ownBlock) (.slice Ao151 t927.length co151) t927) ∧ (Kd.R Kd.string 9 w' w.heap.size (fun k_ => some k_ ≠ (.slice Ao146 t924.length co146 : Value).ownBlock ∧ some k_ ≠ (s_.2.2.1 : Value).ownBlock ∧ some k_ ≠ (s_.2.2.2.1 : Value).ownBlock ∧ some k_ ≠ (.slice Ao61 t871.length co61 : Value).ownBlock ∧ some k_ ≠ (.slice Ao65 t877.length co65 : Value).ownBlock) (.slice Ao153 t940.length co153) t940) ∧ (Kd.R k104 104 w' w.heap.size (fun k_ => some k_ ≠ (.slice Ao151 t927.length co151 : Value).ownBlock ∧ some k_ ≠ (s_.2.2.2.2 : Value).ownBlock ∧ some k_ ≠ (.slice Ao63 t874.length co63 : Value).ownBlock ∧ some k_ ≠ (.slice Ao67 t880.length co67 : Value).ownBlock) (.slice Ao155 t943.length co155) t943) ∧ (Kd.R Kd.string 9 w' w.heap.size (fun k_ => some k_ ≠ (.slice Ao146 t924.length co146 : Value).ownBlock ∧ some k_ ≠ (.slice Ao153 t940.length co153 : Value).ownBlock ∧ some k_ ≠ (s_.2.2.2.1 : Value).ownBlock ∧ some k_ ≠ (.slice Ao61 t871.length co61 : Value).ownBlock ∧ some k_ ≠ (.slice Ao65 t877.length co65 : Value).ownBlock) s_.2.2.1 y953) ∧ (Kd.R Kd.string 9 w' w.heap.size (fun k_ => some k_ ≠ (.slice Ao146 t924.length co146 : Value).ownBlock ∧ some k_ ≠ (.slice Ao153 t940.length co153 : Value).ownBlock ∧ some k_ ≠ (s_.2.2.1 : Value).ownBlock ∧ some k_ ≠ (.slice Ao61 t871.length co61 : Value).ownBlock ∧ some k_ ≠ (.slice Ao65 t877.length co65 : Value).ownBlock) s_.2.2.2.1 t956) ∧ (Kd.R k104 104 w' w.heap.size (fun k_ => some k_ ≠ (.slice Ao151 t927.length co151 : Value).ownBlock ∧ some k_ ≠ (.slice Ao155 t943.length co155 : Value).ownBlock ∧ some k_ ≠ (.slice Ao63 t874.length co63 : Value).ownBlock ∧ some k_ ≠ (.slice Ao67 t880.length co67 : Value).ownBlock) s_.2.2.2.2 t959) ∧ (Kd.R Kd.string 9 w' w.heap.size (fun k_ => some k_ ≠ (.slice Ao146 t924.length co146 : Value).ownBlock ∧ some k_ ≠ (.slice Ao153 t940.length co153 : Value).ownBlock ∧ some k_ ≠ (s_.2.2.1 : Value).ownBlock ∧ some k_ ≠ (s_.2.2.2.1 : Value).ownBlock ∧ some k_ ≠ (.slice Ao65 t877.length co65 : Value).ownBlock) (.slice Ao61 t871.length co61) t871) ∧ (Kd.R k104 104 w' w.heap.size (fun k_ => some k_ ≠ (.slice Ao151 t927.length co151 : Value).ownBlock ∧ some k_ ≠ (.slice Ao155 t943.length co155 : Value).ownBlock ∧ some k_ ≠ (s_.2.2.2.2 : Value).ownBlock ∧ some k_ ≠ (.slice Ao67 t880.length co67 : Value).ownBlock) (.slice Ao63 t874.length co63) t874) ∧ (Kd.R Kd.string 9 w' w.heap.size (fun k_ => some k_ ≠ (.slice Ao146 t924.length co146 : Value).ownBlock ∧ some k_ ≠ (.slice Ao153 t940.length co153 : Value).ownBlock ∧ some k_ ≠ (s_.2.2.1 : Value).ownBlock ∧ some k_ ≠ (s_.2.2.2.1 : Value).ownBlock ∧ some k_ ≠ (.slice Ao61 t871.length co61 : Value).ownBlock) (.slice Ao65 t877.length co65) t877) ∧ (Kd.R k104 104 w' w.heap.size (fun k_ => some k_ ≠ (.slice Ao151 t927.length co151 : Value).ownBlock ∧ some k_ ≠ (.slice Ao155 t943.length co155 : Value).ownBlock ∧ some k_ ≠ (s_.2.2.2.2 : Value).ownBlock ∧ some k_ ≠ (.slice Ao63 t874.length co63 : Value).ownBlock) (.slice Ao67 t880.length co67) t880) ∧ (w'.heap[gb861]? = some (.cells #[.slice A0_0 l0_0.length c0_0, .slice A0_1 l0_1.length c0_1] 86 (0, 0))) ∧ (w'.heap[gb883]? = some (.cells #[.slice Ao61 t871.length co61, .slice Ao63 t874.length co63] 86 (0, 0))) ∧ (w'.heap[gb884]? = some (.cells #[.slice Ao65 t877.length co65, .slice Ao67 t880.length co67] 86 (0, 0))) ∧ (w'.heap[gb931]? = some (.cells #[.slice Ao153 t940.length co153, .slice Ao155 t943.length co155] 86 (0, 0))) ∧ (Below w.heap.size w w')) ?_ ?_
       rotate_left
       ·intro hJ2_4_6_7
        refine join_ (σ := Value × Value × Value × Nat) 6 #[true, true, true, true, true, true, true, false, false, false, false, true, false, false] (fun s_ => [(107, s_.1), (109, s_.2.1), (111, s_.2.2.1), (18, .pointer (some ⟨s_.2.2.2, 0, none⟩))]) (fun s_ w' => (w'.cell? ⟨gb861, 0, none⟩ = some (.slice A0_0 l0_0.length c0_0) ∧ w'.cell? ⟨gb861, 1, none⟩ = some (.slice A0_1 l0_1.length c0_1)) ∧ (Kd.R Kd.string 9 w' w.heap.size (fun k_ => some k_ ≠ (.slice Ao153 t940.length co153 : Value).ownBlock ∧ some k_ ≠ (s_.2.2.1 : Value).ownBlock ∧ some k_ ≠ (.slice Ao61 t871.length co61 : Value).ownBlock ∧ some k_ ≠ (.slice Ao65 t877.length co65 : Value).ownBlock) (.slice Ao146 t924.length co146) t924) ∧ (Kd.R k104 104 w' w.heap.size (fun k_ => some k_ ≠ (.slice Ao155 t943.length co155 : Value).ownBlock ∧ some k_ ≠ (.slice Ao63 t874.length co63 : Value).ownBlock ∧ some k_ ≠ (.slice Ao67 t880.length co67 : Value).ownBlock) (.slice Ao151 t927.length co151) t927) ∧ (Kd.R Kd.string 9 w' w.heap.size (fun k_ => some k_ ≠ (.slice Ao146 t924.length co146 : Value).ownBlock ∧ some k_ ≠ (s_.2.2.1 : Value).ownBlock ∧ some k_ ≠ (.slice Ao61 t871.length co61 : Value).ownBlock ∧ some k_ ≠ (.slice Ao65 t877.length co65 : Value).ownBlock) (.slice Ao153 t940.length co153) t940) ∧ (Kd.R k104 104 w' w.heap.size (fun k_ => some k_ ≠ (.slice Ao151 t927.length co151 : Value).ownBlock ∧ some k_ ≠ (.slice Ao63 t874.length co63 : Value).ownBlock ∧ some k_ ≠ (.slice Ao67 t880.length co67 : Value).ownBlock) (.slice Ao155 t943.length co155) t943) ∧ (Kd.R Kd.string 9 w' w.heap.size (fun k_ => some k_ ≠ (.slice Ao146 t924.length co146 : Value).ownBlock ∧ some k_ ≠ (.slice Ao153 t940.length co153 : Value).ownBlock ∧ some k_ ≠ (.slice Ao61 t871.length co61 : Value).ownBlock ∧ some k_ ≠ (.slice Ao65 t877.length co65 : Value).ownBlock) s_.2.2.1 y953) ∧ (Kd.R Kd.string 9 w' w.heap.size (fun k_ => some k_ ≠ (.slice Ao146 t924.length co146 : Value).ownBlock ∧ some k_ ≠ (.slice Ao153 t940.length co153 : Value).ownBlock ∧ some k_ ≠ (s_.2.2.1 : Value).ownBlock ∧ some k_ ≠ (.slice Ao65 t877.length co65 : Value).ownBlock) (.slice Ao61 t871.length co61) t871) ∧ (Kd.R k104 104 w' w.heap.size (fun k_ => some k_ ≠ (.slice Ao151 t927.length co151 : Value).ownBlock ∧ some k_ ≠ (.slice Ao155 t943.length co155 : Value).ownBlock ∧ some k_ ≠ (.slice Ao67 t880.length co67 : Value).ownBlock) (.slice Ao63 t874.length co63) t874) ∧ (Kd.R Kd.string 9 w' w.heap.size (fun k_ => some k_ ≠ (.slice Ao146 t924.length co146 : Value).ownBlock ∧ some k_ ≠ (.slice Ao153 t940.length co153 : Value).ownBlock ∧ some k_ ≠ (s_.2.2.1 : Value).ownBlock ∧ some k_ ≠ (.slice Ao61 t871.length co61 : Value).ownBlock) (.slice Ao65 t877.length co65) t877) ∧ (Kd.R k104 104 w' w.heap.size (fun k_ => some k_ ≠ (.slice Ao151 t927.length co151 : Value).ownBlock ∧ some k_ ≠ (.slice Ao155 t943.length co155 : Value).ownBlock ∧ some k_ ≠ (.slice Ao63 t874.length co63 : Value).ownBlock) (.slice Ao67 t880.length co67) t880) ∧ (w'.heap[gb861]? = some (.cells #[.slice A0_0 l0_0.length c0_0, .slice A0_1 l0_1.length c0_1] 86 (0, 0))) ∧ (w'.heap[gb883]? = some (.cells #[.slice Ao61 t871.length co61, .slice Ao63 t874.length co63] 86 (0, 0))) ∧ (w'.heap[gb884]? = some (.cells #[.slice Ao65 t877.length co65, .slice Ao67 t880.length co67] 86 (0, 0))) ∧ (w'.heap[gb931]? = some (.cells #[.slice Ao153 t940.length co153, .slice Ao155 t943.length co155] 86 (0, 0))) ∧ (w'.heap[s_.2.2.2]? = some (.cells #[.slice none 0 0, .slice none 0 0] 86 (0, 0))) ∧ (w.heap.size ≤ s_.2.2.2) ∧ (w.heap.size ≤ s_.2.2.2) ∧ (gb861 ≠ s_.2.2.2) ∧ (s_.2.2.2 ≠ gb861) ∧ (gb883 ≠ s_.2.2.2) ∧ (s_.2.2.2 ≠ gb883) ∧ (gb884 ≠ s_.2.2.2) ∧ (s_.2.2.2 ≠ gb884) ∧ (gb931 ≠ s_.2.2.2) ∧ (s_.2.2.2 ≠ gb931) ∧ (Below w.heap.size w w')) ?_ ?_
        rotate_left
        ·intro hJ2_4_6_11
         refine join_ (σ := Value × Value × Value) 7 #[true, true, true, true, true, true, true, false, false, false, false, false, false, false] (fun s_ => [(107, s_.1), (109, s_.2.1), (111, s_.2.2)]) (fun s_ w' => (w'.cell? ⟨gb861, 0, none⟩ = some (.slice A0_0 l0_0.length c0_0) ∧ w'.cell? ⟨gb861, 1, none⟩ = some (.slice A0_1 l0_1.length c0_1)) ∧ (Kd.R Kd.string 9 w' w.heap.size (fun k_ => some k_ ≠ (.slice Ao153 t940.length co153 : Value).ownBlock ∧ some k_ ≠ (s_.2.2 : Value).ownBlock ∧ some k_ ≠ (.slice Ao61 t871.length co61 : Value).ownBlock ∧ some k_ ≠ (.slice Ao65 t877.length co65 : Value).ownBlock) (.slice Ao146 t924.length co146) t924) ∧ (Kd.R k104 104 w' w.heap.size (fun k_ => some k_ ≠ (.slice Ao155 t943.length co155 : Value).ownBlock ∧ some k_ ≠ (.slice Ao63 t874.length co63 : Value).ownBlock ∧ some k_ ≠ (.slice Ao67 t880.length co67 : Value).ownBlock) (.slice Ao151 t927.length co151) t927) ∧ (Kd.R Kd.string 9 w' w.heap.size (fun k_ => some k_ ≠ (.slice Ao146 t924.length co146 : Value).ownBlock ∧ some k_ ≠ (s_.2.2 : Value).ownBlock ∧ some k_ ≠ (.slice Ao61 t871.length co61 : Value).ownBlock ∧ some k_ ≠ (.slice Ao65 t877.length co65 : Value).ownBlock) (.slice Ao153 t940.length co153) t940) ∧ (Kd.R k104 104 w' w.heap.size (fun k_ => some k_ ≠ (.slice Ao151 t927.length co151 : Value).ownBlock ∧ some k_ ≠ (.slice Ao63 t874.length co63 : Value).ownBlock ∧ some k_ ≠ (.slice Ao67 t880.length co67 : Value).ownBlock) (.slice Ao155 t943.length co155) t943) ∧ (Kd.R Kd.string 9 w' w.heap.size (fun k_ => some k_ ≠ (.slice Ao146 t924.length co146 : Value).ownBlock ∧ some k_ ≠ (.slice Ao153 t940.length co153 : Value).ownBlock ∧ some k_ ≠ (.slice Ao61 t871.length co61 : Value).ownBlock ∧ some k_ ≠ (.slice Ao65 t877.length co65 : Value).ownBlock) s_.2.2 y953) ∧ (Kd.R Kd.string 9 w' w.heap.size (fun k_ => some k_ ≠ (.slice Ao146 t924.length co146 : Value).ownBlock ∧ some k_ ≠ (.slice Ao153 t940.length co153 : Value).ownBlock ∧ some k_ ≠ (s_.2.2 : Value).ownBlock ∧ some k_ ≠ (.slice Ao65 t877.length co65 : Value).ownBlock) (.slice Ao61 t871.length co61) t871) ∧ (Kd.R k104 104 w' w.heap.size (fun k_ => some k_ ≠ (.slice Ao151 t927.length co151 : Value).ownBlock ∧ some k_ ≠ (.slice Ao155 t943.length co155 : Value).ownBlock ∧ some k_ ≠ (.slice Ao67 t880.length co67 : Value).ownBlock) (.slice Ao63 t874.length co63) t874) ∧ (Kd.R Kd.string 9 w' w.heap.size (fun k_ => some k_ ≠ (.slice Ao146 t924.length co146 : Value).ownBlock ∧ some k_ ≠ (.slice Ao153 t940.length co153 : Value).ownBlock ∧ some k_ ≠ (s_.2.2 : Value).ownBlock ∧ some k_ ≠ (.slice Ao61 t871.length co61 : Value).ownBlock) (.slice Ao65 t877.length co65) t877) ∧ (Kd.R k104 104 w' w.heap.size (fun k_ => some k_ ≠ (.slice Ao151 t927.length co151 : Value).ownBlock ∧ some k_ ≠ (.slice Ao155 t943.length co155 : Value).ownBlock ∧ some k_ ≠ (.slice Ao63 t874.length co63 : Value).ownBlock) (.slice Ao67 t880.length co67) t880) ∧ (w'.heap[gb861]? = some (.cells #[.slice A0_0 l0_0.length c0_0, .slice A0_1 l0_1.length c0_1] 86 (0, 0))) ∧ (w'.heap[gb883]? = some (.cells #[.slice Ao61 t871.length co61, .slice Ao63 t874.length co63] 86 (0, 0))) ∧ (w'.heap[gb884]? = some (.cells #[.slice Ao65 t877.length co65, .slice Ao67 t880.length co67] 86 (0, 0))) ∧ (w'.heap[gb931]? = some (.cells #[.slice Ao153 t940.length co153, .slice Ao155 t943.length co155] 86 (0, 0))) ∧ (Below w.heap.size w w')) ?_ ?_
         rotate_left
         ·intro hJ2_4_6
          refine join_ (σ := Value × Value × Nat) 7 #[true, true, true, true, true, true, false, false, false, false, false, true, false, false] (fun s_ => [(107, s_.1), (109, s_.2.1), (18, .pointer (some ⟨s_.2.2, 0, none⟩))]) (fun s_ w' => (w'.cell? ⟨gb861, 0, none⟩ = some (.slice A0_0 l0_0.length c0_0) ∧ w'.cell? ⟨gb861, 1, none⟩ = some (.slice A0_1 l0_1.length c0_1)) ∧ (Kd.R Kd.string 9 w' w.heap.size (fun k_ => some k_ ≠ (.slice Ao153 t940.length co153 : Value).ownBlock ∧ some k_ ≠ (s_.2.1 : Value).ownBlock ∧ some k_ ≠ (.slice Ao61 t871.length co61 : Value).ownBlock ∧ some k_ ≠ (.slice Ao65 t877.length co65 : Value).ownBlock) (.slice Ao146 t924.length co146) t924) ∧ (Kd.R k104 104 w' w.heap.size (fun k_ => some k_ ≠ (.slice Ao155 t943.length co155 : Value).ownBlock ∧ some k_ ≠ (.slice Ao63 t874.length co63 : Value).ownBlock ∧ some k_ ≠ (.slice Ao67 t880.length co67 : Value).ownBlock) (.slice Ao151 t927.length co151) t927) ∧ (Kd.R Kd.string 9 w' w.heap.size (fun k_ => some k_ ≠ (.slice Ao146 t924.length co146 : Value).ownBlock ∧ some k_ ≠ (s_.2.1 : Value).ownBlock ∧ some k_ ≠ (.slice Ao61 t871.length co61 : Value).ownBlock ∧ some k_ ≠ (.slice Ao65 t877.length co65 : Value).ownBlock) (.slice Ao153 t940.length co153) t940) ∧ (Kd.R k104 104 w' w.heap.size (fun k_ => some k_ ≠ (.slice Ao151 t927.length co151 : Value).ownBlock ∧ some k_ ≠ (.slice Ao63 t874.length co63 : Value).ownBlock ∧ some k_ ≠ (.slice Ao67 t880.length co67 : Value).ownBlock) (.slice Ao155 t943.length co155) t943) ∧ (Kd.R Kd.string 9 w' w.heap.size (fun k_ => some k_ ≠ (.slice Ao146 t924.length co146 : Value).ownBlock ∧ some k_ ≠ (.slice Ao153 t940.length co153 : Value).ownBlock ∧ some k_ ≠ (.slice Ao61 t871.length co61 : Value).ownBlock ∧ some k_ ≠ (.slice Ao65 t877.length co65 : Value).ownBlock) s_.2.1 y950) ∧ (Kd.R Kd.string 9 w' w.heap.size (fun k_ => some k_ ≠ (.slice Ao146 t924.length co146 : Value).ownBlock ∧ some k_ ≠ (.slice Ao153 t940.length co153 : Value).ownBlock ∧ some k_ ≠ (s_.2.1 : Value).ownBlock ∧ some k_ ≠ (.slice Ao65 t877.length co65 : Value).ownBlock) (.slice Ao61 t871.length co61) t871) ∧ (Kd.R k104 104 w' w.heap.size (fun k_ => some k_ ≠ (.slice Ao151 t927.length co151 : Value).ownBlock ∧ some k_ ≠ (.slice Ao155 t943.length co155 : Value).ownBlock ∧ some k_ ≠ (.slice Ao67 t880.length co67 : Value).ownBlock) (.slice Ao63 t874.length co63) t874) ∧ (Kd.R Kd.string 9 w' w.heap.size (fun k_ => some k_ ≠ (.slice Ao146 t924.length co146 : Value).ownBlock ∧ some k_ ≠ (.slice Ao153 t940.length co153 : Value).ownBlock ∧ some k_ ≠ (s_.2.1 : Value).ownBlock ∧ some k_ ≠ (.slice Ao61 t871.length co61 : Value).ownBlock) (.slice Ao65 t877.length co65) t877) ∧ (Kd.R k104 104 w' w.heap.size (fun k_ => some k_ ≠ (.slice Ao151 t927.length co151 : Value).ownBlock ∧ some k_ ≠ (.slice Ao155 t943.length co155 : Value).ownBlock ∧ some k_ ≠ (.slice Ao63 t874.length co63 : Value).ownBlock) (.slice Ao67 t880.length co67) t880) ∧ (w'.heap[gb861]? = some (.cells #[.slice A0_0 l0_0.length c0_0, .slice A0_1 l0_1.length c0_1] 86 (0, 0))) ∧ (w'.heap[gb883]? = some (.cells #[.slice Ao61 t871.length co61, .slice Ao63 t874.length co63] 86 (0, 0))) ∧ (w'.heap[gb884]? = some (.cells #[.slice Ao65 t877.length co65, .slice Ao67 t880.length co67] 86 (0, 0))) ∧ (w'.heap[gb931]? = some (.cells #[.slice Ao153 t940.length co153, .slice Ao155 t943.length co155] 86 (0, 0))) ∧ (w'.heap[s_.2.2]? = some (.cells #[.slice none 0 0, .slice none 0 0] 86 (0, 0))) ∧ (w.heap.size ≤ s_.2.2) ∧ (w.heap.size ≤ s_.2.2) ∧ (gb861 ≠ s_.2.2) ∧ (s_.2.2 ≠ gb861) ∧ (gb883 ≠ s_.2.2) ∧ (s_.2.2 ≠ gb883) ∧ (gb884 ≠ s_.2.2) ∧ (s_.2.2 ≠ gb884) ∧ (gb931 ≠ s_.2.2) ∧ (s_.2.2 ≠ gb931) ∧ (Below w.heap.size w w')) ?_ ?_
          rotate_left
          ·intro hJ2_4_11
           refine join_ (σ := Value × Value) 8 #[true, true, true, true, true, true, false, false, false, false, false, false, false, false] (fun s_ => [(107, s_.1), (109, s_.2)]) (fun s_ w' => (w'.cell? ⟨gb861, 0, none⟩ = some (.slice A0_0 l0_0.length c0_0) ∧ w'.cell? ⟨gb861, 1, none⟩ = some (.slice A0_1 l0_1.length c0_1)) ∧ (Kd.R Kd.string 9 w' w.heap.size (fun k_ => some k_ ≠ (.slice Ao153 t940.length co153 : Value).ownBlock ∧ some k_ ≠ (s_.2 : Value).ownBlock ∧ some k_ ≠ (.slice Ao61 t871.length co61 : Value).ownBlock ∧ some k_ ≠ (.slice Ao65 t877.length co65 : Value).ownBlock) (.slice Ao146 t924.length co146) t924) ∧ (Kd.R k104 104 w' w.heap.size (fun k_ => some k_ ≠ (.slice Ao155 t943.length co155 : Value).ownBlock ∧ some k_ ≠ (.slice Ao63 t874.length co63 : Value).ownBlock ∧ some k_ ≠ (.slice Ao67 t880.length co67 : Value).ownBlock) (.slice Ao151 t927.length co151) t927) ∧ (Kd.R Kd.string 9 w' w.heap.size (fun k_ => some k_ ≠ (.slice Ao146 t924.length co146 : Value).ownBlock ∧ some k_ ≠ (s_.2 : Value).ownBlock ∧ some k_ ≠ (.slice Ao61 t871.length co61 : Value).ownBlock ∧ some k_ ≠ (.slice Ao65 t877.length co65 : Value).ownBlock) (.slice Ao153 t940.length co153) t940) ∧ (Kd.R k104 104 w' w.heap.size (fun k_ => some k_ ≠ (.slice Ao151 t927.length co151 : Value).ownBlock ∧ some k_ ≠ (.slice Ao63 t874.length co63 : Value).ownBlock ∧ some k_ ≠ (.slice Ao67 t880.length co67 : Value).ownBlock) (.slice Ao155 t943.length co155) t943) ∧ (Kd.R Kd.string 9 w' w.heap.size (fun k_ => some k_ ≠ (.slice Ao146 t924.length co146 : Value).ownBlock ∧ some k_ ≠ (.slice Ao153 t940.length co153 : Value).ownBlock ∧ some k_ ≠ (.slice Ao61 t871.length co61 : Value).ownBlock ∧ some k_ ≠ (.slice Ao65 t877.length co65 : Value).ownBlock) s_.2 y950) ∧ (Kd.R Kd.string 9 w' w.heap.size (fun k_ => some k_ ≠ (.slice Ao146 t924.length co146 : Value).ownBlock ∧ some k_ ≠ (.slice Ao153 t940.length co153 : Value).ownBlock ∧ some k_ ≠ (s_.2 : Value).ownBlock ∧ some k_ ≠ (.slice Ao65 t877.length co65 : Value).ownBlock) (.slice Ao61 t871.length co61) t871) ∧ (Kd.R k104 104 w' w.heap.size (fun k_ => some k_ ≠ (.slice Ao151 t927.length co151 : Value).ownBlock ∧ some k_ ≠ (.slice Ao155 t943.length co155 : Value).ownBlock ∧ some k_ ≠ (.slice Ao67 t880.length co67 : Value).ownBlock) (.slice Ao63 t874.length co63) t874) ∧ (Kd.R Kd.string 9 w' w.heap.size (fun k_ => some k_ ≠ (.slice Ao146 t924.length co146 : Value).ownBlock ∧ some k_ ≠ (.slice Ao153 t940.length co153 : Value).ownBlock ∧ some k_ ≠ (s_.2 : Value).ownBlock ∧ some k_ ≠ (.slice Ao61 t871.length co61 : Value).ownBlock) (.slice Ao65 t877.length co65) t877) ∧ (Kd.R k104 104 w' w.heap.size (fun k_ => some k_ ≠ (.slice Ao151 t927.length co151 : Value).ownBlock ∧ some k_ ≠ (.slice Ao155 t943.length co155 : Value).ownBlock ∧ some k_ ≠ (.slice Ao63 t874.length co63 : Value).ownBlock) (.slice Ao67 t880.length co67) t880) ∧ (w'.heap[gb861]? = some (.cells #[.slice A0_0 l0_0.length c0_0, .slice A0_1 l0_1.length c0_1] 86 (0, 0))) ∧ (w'.heap[gb883]? = some (.cells #[.slice Ao61 t871.length co61, .slice Ao63 t874.length co63] 86 (0, 0))) ∧ (w'.heap[gb884]? = some (.cells #[.slice Ao65 t877.length co65, .slice Ao67 t880.length co67] 86 (0, 0))) ∧ (w'.heap[gb931]? = some (.cells #[.slice Ao153 t940.length co153, .slice Ao155 t943.length co155] 86 (0, 0))) ∧ (Below w.heap.size w w')) ?_ ?_
           rotate_left
           ·intro hJ2_4
            refine join_ (σ := Value × Nat) 8 #[true, true, true, true, false, true, false, false, false, false, false, true, false, false] (fun s_ => [(107, s_.1), (18, .pointer (some ⟨s_.2, 0, none⟩))]) (fun s_ w' => (w'.cell? ⟨gb861, 0, none⟩ = some (.slice A0_0 l0_0.length c0_0) ∧ w'.cell? ⟨gb861, 1, none⟩ = some (.slice A0_1 l0_1.length c0_1)) ∧ (Kd.R Kd.string 9 w' w.heap.size (fun k_ => some k_ ≠ (.slice Ao153 t940.length co153 : Value).ownBlock ∧ some k_ ≠ (s_.1 : Value).ownBlock ∧ some k_ ≠ (.slice Ao61 t871.length co61 : Value).ownBlock ∧ some k_ ≠ (.slice Ao65 t877.length co65 : Value).ownBlock) (.slice Ao146 t924.length co146) t924) ∧ (Kd.R k104 104 w' w.heap.size (fun k_ => some k_ ≠ (.slice Ao155 t943.length co155 : Value).ownBlock ∧ some k_ ≠ (.slice Ao63 t874.length co63 : Value).ownBlock ∧ some k_ ≠ (.slice Ao67 t880.length co67 : Value).ownBlock) (.slice Ao151 t927.length co151) t927) ∧ (Kd.R Kd.string 9 w' w.heap.size (fun k_ => some k_ ≠ (.slice Ao146 t924.length co146 : Value).ownBlock ∧ some k_ ≠ (s_.1 : Value).ownBlock ∧ some k_ ≠ (.slice Ao61 t871.length co61 : Value).ownBlock ∧ some k_ ≠ (.slice Ao65 t877.length co65 : Value).ownBlock) (.slice Ao153 t940.length co153) t940) ∧ (Kd.R k104 104 w' w.heap.size (fun k_ => some k_ ≠ (.slice Ao151 t927.length co151 : Value).ownBlock ∧ some k_ ≠ (.slice Ao63 t874.length co63 : Value).ownBlock ∧ some k_ ≠ (.slice Ao67 t880.length co67 : Value).ownBlock) (.slice Ao155 t943.length co155) t943) ∧ (Kd.R Kd.string 9 w' w.heap.size (fun k_ => some k_ ≠ (.slice Ao146 t924.length co146 : Value).ownBlock ∧ some k_ ≠ (.slice Ao153 t940.length co153 : Value).ownBlock ∧ some k_ ≠ (.slice Ao61 t871.length co61 : Value).ownBlock ∧ some k_ ≠ (.slice Ao65 t877.length co65 : Value).ownBlock) s_.1 y947) ∧ (Kd.R Kd.string 9 w' w.heap.size (fun k_ => some k_ ≠ (.slice Ao146 t924.length co146 : Value).ownBlock ∧ some k_ ≠ (.slice Ao153 t940.length co153 : Value).ownBlock ∧ some k_ ≠ (s_.1 : Value).ownBlock ∧ some k_ ≠ (.slice Ao65 t877.length co65 : Value).ownBlock) (.slice Ao61 t871.length co61) t871) ∧ (Kd.R k104 104 w' w.heap.size (fun k_ => some k_ ≠ (.slice Ao151 t927.length co151 : Value).ownBlock ∧ some k_ ≠ (.slice Ao155 t943.length co155 : Value).ownBlock ∧ some k_ ≠ (.slice Ao67 t880.length co67 : Value).ownBlock) (.slice Ao63 t874.length co63) t874) ∧ (Kd.R Kd.string 9 w' w.heap.size (fun k_ => some k_ ≠ (.slice Ao146 t924.length co146 : Value).ownBlock ∧ some k_ ≠ (.slice Ao153 t940.length co153 : Value).ownBlock ∧ some k_ ≠ (s_.1 : Value).ownBlock ∧ some k_ ≠ (.slice Ao61 t871.length co61 : Value).ownBlock) (.slice Ao65 t877.length co65) t877) ∧ (Kd.R k104 104 w' w.heap.size (fun k_ => some k_ ≠ (.slice Ao151 t927.length co151 : Value).ownBlock ∧ some k_ ≠ (.slice Ao155 t943.length co155 : Value).ownBlock ∧ some k_ ≠ (.slice Ao63 t874.length co63 : Value).ownBlock) (.slice Ao67 t880.length co67) t880) ∧ (w'.heap[gb861]? = some (.cells #[.slice A0_0 l0_0.length c0_0, .slice A0_1 l0_1.length c0_1] 86 (0, 0))) ∧ (w'.heap[gb883]? = some (.cells #[.slice Ao61 t871.length co61, .slice Ao63 t874.length co63] 86 (0, 0))) ∧ (w'.heap[gb884]? = some (.cells #[.slice Ao65 t877.length co65, .slice Ao67 t880.length co67] 86 (0, 0))) ∧ (w'.heap[gb931]? = some (.cells #[.slice Ao153 t940.length co153, .slice Ao155 t943.length co155] 86 (0, 0))) ∧ (w'.heap[s_.2]? = some (.cells #[.slice none 0 0, .slice none 0 0] 86 (0, 0))) ∧ (w.heap.size ≤ s_.2) ∧ (w.heap.size ≤ s_.2) ∧ (gb861 ≠ s_.2) ∧ (s_.2 ≠ gb861) ∧ (gb883 ≠ s_.2) ∧ (s_.2 ≠ gb883) ∧ (gb884 ≠ s_.2) ∧ (s_.2 ≠ gb884) ∧ (gb931 ≠ s_.2) ∧ (s_.2 ≠ gb931) ∧ (Below w.heap.size w w')) ?_ ?_
            rotate_left
            ·intro hJ2_11
             refine join_ (σ := Value) 9 #[true, true, true, true, false, true, false, false, false, false, false, false, false, false] (fun s_ => [(107, s_)]) (fun s_ w' => (w'.cell? ⟨gb861, 0, none⟩ = some (.slice A0_0 l0_0.length c0_0) ∧ w'.cell? ⟨gb861, 1, none⟩ = some (.slice A0_1 l0_1.length c0_1)) ∧ (Kd.R Kd.string 9 w' w.heap.size (fun k_ => some k_ ≠ (.slice Ao153 t940.length co153 : Value).ownBlock ∧ some k_ ≠ (s_ : Value).ownBlock ∧ some k_ ≠ (.slice Ao61 t871.length co61 : Value).ownBlock ∧ some k_ ≠ (.slice Ao65 t877.length co65 : Value).ownBlock) (.slice Ao146 t924.length co146) t924) ∧ (Kd.R k104 104 w' w.heap.size (fun k_ => some k_ ≠ (.slice Ao155 t943.length co155 : Value).ownBlock ∧ some k_ ≠ (.slice Ao63 t874.length co63 : Value).ownBlock ∧ some k_ ≠ (.slice Ao67 t880.length co67 : Value).ownBlock) (.slice Ao151 t927.length co151) t927) ∧ (Kd.R Kd.string 9 w' w.heap.size (fun k_ => some k_ ≠ (.slice Ao146 t924.length co146 : Value).ownBlock ∧ some k_ ≠ (s_ : Value).ownBlock ∧ some k_ ≠ (.slice Ao61 t871.length co61 : Value).ownBlock ∧ some k_ ≠ (.slice Ao65 t877.length co65 : Value).ownBlock) (.slice Ao153 t940.length co153) t940) ∧ (Kd.R k104 104 w' w.heap.size (fun k_ => some k_ ≠ (.slice Ao151 t927.length co151 : Value).ownBlock ∧ some k_ ≠ (.slice Ao63 t874.length co63 : Value).ownBlock ∧ some k_ ≠ (.slice Ao67 t880.length co67 : Value).ownBlock) (.slice Ao155 t943.length co155) t943) ∧ (Kd.R Kd.string 9 w' w.heap.size (fun k_ => some k_ ≠ (.slice Ao146 t924.length co146 : Value).ownBlock ∧ some k_ ≠ (.slice Ao153 t940.length co153 : Value).ownBlock ∧ some k_ ≠ (.slice Ao61 t871.length co61 : Value).ownBlock ∧ some k_ ≠ (.slice Ao65 t877.length co65 : Value).ownBlock) s_ y947) ∧ (Kd.R Kd.string 9 w' w.heap.size (fun k_ => some k_ ≠ (.slice Ao146 t924.length co146 : Value).ownBlock ∧ some k_ ≠ (.slice Ao153 t940.length co153 : Value).ownBlock ∧ some k_ ≠ (s_ : Value).ownBlock ∧ some k_ ≠ (.slice Ao65 t877.length co65 : Value).ownBlock) (.slice Ao61 t871.length co61) t871) ∧ (Kd.R k104 104 w' w.heap.size (fun k_ => some k_ ≠ (.slice Ao151 t927.length co151 : Value).ownBlock ∧ some k_ ≠ (.slice Ao155 t943.length co155 : Value).ownBlock ∧ some k_ ≠ (.slice Ao67 t880.length co67 : Value).ownBlock) (.slice Ao63 t874.length co63) t874) ∧ (Kd.R Kd.string 9 w' w.heap.size (fun k_ => some k_ ≠ (.slice Ao146 t924.length co146 : Value).ownBlock ∧ some k_ ≠ (.slice Ao153 t940.length co153 : Value).ownBlock ∧ some k_ ≠ (s_ : Value).ownBlock ∧ some k_ ≠ (.slice Ao61 t871.length co61 : Value).ownBlock) (.slice Ao65 t877.length co65) t877) ∧ (Kd.R k104 104 w' w.heap.size (fun k_ => some k_ ≠ (.slice Ao151 t927.length co151 : Value).ownBlock ∧ some k_ ≠ (.slice Ao155 t943.length co155 : Value).ownBlock ∧ some k_ ≠ (.slice Ao63 t874.length co63 : Value).ownBlock) (.slice Ao67 t880.length co67) t880) ∧ (w'.heap[gb861]? = some (.cells #[.slice A0_0 l0_0.length c0_0, .slice A0_1 l0_1.length c0_1] 86 (0, 0))) ∧ (w'.heap[gb883]? = some (.cells #[.slice Ao61 t871.length co61, .slice Ao63 t874.length co63] 86 (0, 0))) ∧ (w'.heap[gb884]? = some (.cells #[.slice Ao65 t877.length co65, .slice Ao67 t880.length co67] 86 (0, 0))) ∧ (w'.heap[gb931]? = some (.cells #[.slice Ao153 t940.length co153, .slice Ao155 t943.length co155] 86 (0, 0))) ∧ (Below w.heap.size w w')) ?_ ?_
             rotate_left
             ·intro hJ2
              refine join_ (σ := Nat) 9 #[true, true, false, true, false, true, false, false, false, false, false, true, false, false] (fun s_ => [(18, .pointer (some ⟨s_, 0, none⟩))]) (fun s_ w' => (w'.cell? ⟨gb861, 0, none⟩ = some (.slice A0_0 l0_0.length c0_0) ∧ w'.cell? ⟨gb861, 1, none⟩ = some (.slice A0_1 l0_1.length c0_1)) ∧ (Kd.R Kd.string 9 w' w.heap.size (fun k_ => some k_ ≠ (.slice Ao153 t940.length co153 : Value).ownBlock ∧ some k_ ≠ (.slice Ao61 t871.length co61 : Value).ownBlock ∧ some k_ ≠ (.slice Ao65 t877.length co65 : Value).ownBlock) (.slice Ao146 t924.length co146) t924) ∧ (Kd.R k104 104 w' w.heap.size (fun k_ => some k_ ≠ (.slice Ao155 t943.length co155 : Value).ownBlock ∧ some k_ ≠ (.slice Ao63 t874.length co63 : Value).ownBlock ∧ some k_ ≠ (.slice Ao67 t880.length co67 : Value).ownBlock) (.slice Ao151 t927.length co151) t927) ∧ (Kd.R Kd.string 9 w' w.heap.size (fun k_ => some k_ ≠ (.slice Ao146 t924.length co146 : Value).ownBlock ∧ some k_ ≠ (.slice Ao61 t871.length co61 : Value).ownBlock ∧ some k_ ≠ (.slice Ao65 t877.length co65 : Value).ownBlock) (.slice Ao153 t940.length co153) t940) ∧ (Kd.R k104 104 w' w.heap.size (fun k_ => some k_ ≠ (.slice Ao151 t927.length co151 : Value).ownBlock ∧ some k_ ≠ (.slice Ao63 t874.length co63 : Value).ownBlock ∧ some k_ ≠ (.slice Ao67 t880.length co67 : Value).ownBlock) (.slice Ao155 t943.length co155) t943) ∧ (Kd.R Kd.string 9 w' w.heap.size (fun k_ => some k_ ≠ (.slice Ao146 t924.length co146 : Value).ownBlock ∧ some k_ ≠ (.slice Ao153 t940.length co153 : Value).ownBlock ∧ some k_ ≠ (.slice Ao65 t877.length co65 : Value).ownBlock) (.slice Ao61 t871.length co61) t871) ∧ (Kd.R k104 104 w' w.heap.size (fun k_ => some k_ ≠ (.slice Ao151 t927.length co151 : Value).ownBlock ∧ some k_ ≠ (.slice Ao155 t943.length co155 : Value).ownBlock ∧ some k_ ≠ (.slice Ao67 t880.length co67 : Value).ownBlock) (.slice Ao63 t874.length co63) t874) ∧ (Kd.R Kd.string 9 w' w.heap.size (fun k_ => some k_ ≠ (.slice Ao146 t924.length co146 : Value).ownBlock ∧ some k_ ≠ (.slice Ao153 t940.length co153 : Value).ownBlock ∧ some k_ ≠ (.slice Ao61 t871.length co61 : Value).ownBlock) (.slice Ao65 t877.length co65) t877) ∧ (Kd.R k104 104 w' w.heap.size (fun k_ => some k_ ≠ (.slice Ao151 t927.length co151 : Value).ownBlock ∧ some k_ ≠ (.slice Ao155 t943.length co155 : Value).ownBlock ∧ some k_ ≠ (.slice Ao63 t874.length co63 : Value).ownBlock) (.slice Ao67 t880.length co67) t880) ∧ (w'.heap[gb861]? = some (.cells #[.slice A0_0 l0_0.length c0_0, .slice A0_1 l0_1.length c0_1] 86 (0, 0))) ∧ (w'.heap[gb883]? = some (.cells #[.slice Ao61 t871.length co61, .slice Ao63 t874.length co63] 86 (0, 0))) ∧ (w'.heap[gb884]? = some (.cells #[.slice Ao65 t877.length co65, .slice Ao67 t880.length co67] 86 (0, 0))) ∧ (w'.heap[gb931]? = some (.cells #[.slice Ao153 t940.length co153, .slice Ao155 t943.length co155] 86 (0, 0))) ∧ (w'.heap[s_]? = some (.cells #[.slice none 0 0, .slice none 0 0] 86 (0, 0))) ∧ (w.heap.size ≤ s_) ∧ (w.heap.size ≤ s_) ∧ (gb861 ≠ s_) ∧ (s_ ≠ gb861) ∧ (gb883 ≠ s_) ∧ (s_ ≠ gb883) ∧ (gb884 ≠ s_) ∧ (s_ ≠ gb884) ∧ (gb931 ≠ s_) ∧ (s_ ≠ gb931) ∧ (Below w.heap.size w w')) ?_ ?_
              rotate_left
              ·intro hJ11
               refine two_ (i := 2) (j := 11) (Ni := some 107) (Nj := some 18) #[true, true, true, true, false, true, false, false, false, false, false, false, false, false] #[true, true, false, true, false, true, false, false, false, false, false, true, false, false] rfl rfl rfl rfl (two_of HT_.out (by kernel_rfl)) (by decide) (by decide) (fun K hK => ?_) (fun K hK => ?_)
               ·skip
                refine Kd.R_lit_step Kd.string _ 9 ?hg (N := 107) ?hd (xs := ([] : List ByteArray)) (inner := []) (ok := fun _ => True) (okp := fun _ => True) ?hr ?hp (fun _ hk => hk) trivial (Below.refl _ _) (Nat.le_refl _) (by simp) ?_; (case hd => rfl); (case hg => rfl); (case hr => first | (go_simp; done) | (go_simp; rfl)); (case hp => exact (Reps.none _ _))
                intro v948 w158 ho159 hb hg_ hnew_
                clear hg_ hnew_
                (first | rw [← Ny947.out] at ho159 | (simp only [Int.reduceToNat] at ho159; rw [← Ny947.out] at ho159))
                have HO949 := Aside0.mk (Kd.R_lower (Kd.R_new' (Kd.R_new' (Kd.R_new' (Kd.R_new' ho159 (Kd.R_lt (rU HO_884000.out))) (Kd.R_lt (rU HO_885000.out))) (Kd.R_lt (rU HO926.out))) (Kd.R_lt (rU HO942.out))) (below_size (by repeat (first | exact beU HB.out | refine below_set ?_ (Aside0.out ‹_›) | apply below_alloc | apply pw_below_drewN | apply below_drew1))))
                replace HO_884000 := Aside0.mk (Kd.R_elder' (rU HO_884000.out) (Kd.R_base ho159) hb)
                replace HO_884001 := Aside0.mk (Kd.R_below (rU HO_884001.out) hb)
                replace HO_885000 := Aside0.mk (Kd.R_elder' (rU HO_885000.out) (Kd.R_base ho159) hb)
                replace HO_885001 := Aside0.mk (Kd.R_below (rU HO_885001.out) hb)
                replace HO926 := Aside0.mk (Kd.R_elder' (rU HO926.out) (Kd.R_base ho159) hb)
                replace HO929 := Aside0.mk (Kd.R_below (rU HO929.out) hb)
                replace HO942 := Aside0.mk (Kd.R_elder' (rU HO942.out) (Kd.R_base ho159) hb)
                replace HO945 := Aside0.mk (Kd.R_below (rU HO945.out) hb)
                replace BK861 := Aside0.mk (blk_below (bU BK861.out) hb)
                replace BK883 := Aside0.mk (blk_below (bU BK883.out) hb)
                replace BK884 := Aside0.mk (blk_below (bU BK884.out) hb)
                replace BK931 := Aside0.mk (blk_below (bU BK931.out) hb)
                replace HB := Aside0.mk (below_step (by repeat (first | exact beU HB.out | refine below_set ?_ (Aside0.out ‹_›) | apply below_alloc | apply pw_below_drewN | apply below_drew1)) hb)
                clear hb ho159
                refine hK.out _ _ ⟨(blk_cell BK861.out 0).trans rfl, (blk_cell BK861.out 1).trans rfl⟩ (fun hHeld => ?_)
                clear hK K
                refine norm_ (a' := ?_) ?_ ?_
                rotate_left
                ·show Act.put _ (some 107) _ = _
                 simp only [Act.put, List.setIfInBounds_toArray, List.set_cons_zero, List.set_cons_succ, i64_w, i32_w]
                 rfl
                exact norm_ (by simp only [putAll, Act.put, List.setIfInBounds_toArray, List.set_cons_zero, List.set_cons_succ] <;> rfl) (hJ2 (v948) _ ⟨hHeld, (by (with_reducible repeat (first | apply Kd.R_alloc | apply Kd.R_drewN | apply Kd.R_drew)); exact Kd.R_mono HO926.out (fun _ hk => ⟨hk.1.2.2, ⟨hk.2, ⟨hk.1.1, hk.1.2.1⟩⟩⟩)), (by (with_reducible repeat (first | apply Kd.R_alloc | apply Kd.R_drewN | apply Kd.R_drew)); exact Kd.R_mono HO929.out (fun _ hk => ⟨hk.2.2, ⟨hk.1, hk.2.1⟩⟩)), (by (with_reducible repeat (first | apply Kd.R_alloc | apply Kd.R_drewN | apply Kd.R_drew)); exact Kd.R_mono HO942.out (fun _ hk => ⟨hk.1.2.2, ⟨hk.2, ⟨hk.1.1, hk.1.2.1⟩⟩⟩)), (by (with_reducible repeat (first | apply Kd.R_alloc | apply Kd.R_drewN | apply Kd.R_drew)); exact Kd.R_mono HO945.out (fun _ hk => ⟨hk.2.2, ⟨hk.1, hk.2.1⟩⟩)), (by (with_reducible repeat (first | apply Kd.R_alloc | apply Kd.R_drewN | apply Kd.R_drew)); exact Kd.R_mono HO949.out (fun _ hk => ⟨hk.1.2, ⟨hk.2, ⟨hk.1.1.1.2, hk.1.1.2⟩⟩⟩)), (by (with_reducible repeat (first | apply Kd.R_alloc | apply Kd.R_drewN | apply Kd.R_drew)); exact Kd.R_mono HO_884000.out (fun _ hk => ⟨hk.1.2.1, ⟨hk.1.2.2, ⟨hk.2, hk.1.1⟩⟩⟩)), (by (with_reducible repeat (first | apply Kd.R_alloc | apply Kd.R_drewN | apply Kd.R_drew)); exact Kd.R_mono HO_884001.out (fun _ hk => ⟨hk.2.1, ⟨hk.2.2, hk.1⟩⟩)), (by (with_reducible repeat (first | apply Kd.R_alloc | apply Kd.R_drewN | apply Kd.R_drew)); exact Kd.R_mono HO_885000.out (fun _ hk => ⟨hk.1.2.1, ⟨hk.1.2.2, ⟨hk.2, hk.1.1⟩⟩⟩)), (by (with_reducible repeat (first | apply Kd.R_alloc | apply Kd.R_drewN | apply Kd.R_drew)); exact Kd.R_mono HO_885001.out (fun _ hk => ⟨hk.2.1, ⟨hk.2.2, hk.1⟩⟩)), (bU BK861.out), (bU BK883.out), (bU BK884.out), (bU BK931.out), (beU HB.out)⟩)
               ·skip
                refine box_step ?hg (N := 18) ?hd (cs := #[.slice none 0 0, .slice none 0 0]) (t := 86) ?hr ?_; (case hd => rfl); (case hg => rfl); (case hr => first | (go_simp; done) | (go_simp; rfl))
                intro gb963 hg w158 hbox hb
                have BK963 := Aside0.mk (hbox)
                have GW963 := Aside0.mk ((by first | exact geU HB.out hg | (rw [hg]; exact below_size (by repeat (first | exact beU HB.out | refine below_set ?_ (Aside0.out ‹_›) | apply below_alloc | apply pw_below_drewN | apply below_drew1)))))
                have GE963 := Aside0.mk ((by first | exact geU HB.out hg | (rw [hg]; exact below_size (by repeat (first | exact beU HB.out | refine below_set ?_ (Aside0.out ‹_›) | apply below_alloc | apply pw_below_drewN | apply below_drew1)))))
                have NB861_963 := Aside0.mk ((neU BK861.out hg))
                have NB963_861 := Aside0.mk ((enU BK861.out hg))
                have NB883_963 := Aside0.mk ((neU BK883.out hg))
                have NB963_883 := Aside0.mk ((enU BK883.out hg))
                have NB884_963 := Aside0.mk ((neU BK884.out hg))
                have NB963_884 := Aside0.mk ((enU BK884.out hg))
                have NB931_963 := Aside0.mk ((neU BK931.out hg))
                have NB963_931 := Aside0.mk ((enU BK931.out hg))
                replace HO_884000 := Aside0.mk (Kd.R_below (rU HO_884000.out) hb)
                replace HO_884001 := Aside0.mk (Kd.R_below (rU HO_884001.out) hb)
                replace HO_885000 := Aside0.mk (Kd.R_below (rU HO_885000.out) hb)
                replace HO_885001 := Aside0.mk (Kd.R_below (rU HO_885001.out) hb)
                replace HO926 := Aside0.mk (Kd.R_below (rU HO926.out) hb)
                replace HO929 := Aside0.mk (Kd.R_below (rU HO929.out) hb)
                replace HO942 := Aside0.mk (Kd.R_below (rU HO942.out) hb)
                replace HO945 := Aside0.mk (Kd.R_below (rU HO945.out) hb)
                replace BK861 := Aside0.mk (blk_below (bU BK861.out) hb)
                replace BK883 := Aside0.mk (blk_below (bU BK883.out) hb)
                replace BK884 := Aside0.mk (blk_below (bU BK884.out) hb)
                replace BK931 := Aside0.mk (blk_below (bU BK931.out) hb)
                replace HB := Aside0.mk (below_step (by repeat (first | exact beU HB.out | refine below_set ?_ (Aside0.out ‹_›) | apply below_alloc | apply pw_below_drewN | apply below_drew1)) hb)
                clear hb hbox hg
                refine hK.out _ _ ⟨(blk_cell BK861.out 0).trans rfl, (blk_cell BK861.out 1).trans rfl⟩ (fun hHeld => ?_)
                clear hK K
                refine norm_ (a' := ?_) ?_ ?_
                rotate_left
                ·show Act.put _ (some 18) _ = _
                 simp only [Act.put, List.setIfInBounds_toArray, List.set_cons_zero, List.set_cons_succ, i64_w, i32_w]
                 rfl
                exact norm_ (by simp only [putAll, Act.put, List.setIfInBounds_toArray, List.set_cons_zero, List.set_cons_succ] <;> rfl) (hJ11 (gb963) _ ⟨hHeld, (by (with_reducible repeat (first | apply Kd.R_alloc | apply Kd.R_drewN | apply Kd.R_drew)); exact Kd.R_mono HO926.out (fun _ hk => ⟨hk.2.2, ⟨hk.1, hk.2.1⟩⟩)), (by (with_reducible repeat (first | apply Kd.R_alloc | apply Kd.R_drewN | apply Kd.R_drew)); exact Kd.R_mono HO929.out (fun _ hk => ⟨hk.2.2, ⟨hk.1, hk.2.1⟩⟩)), (by (with_reducible repeat (first | apply Kd.R_alloc | apply Kd.R_drewN | apply Kd.R_drew)); exact Kd.R_mono HO942.out (fun _ hk => ⟨hk.2.2, ⟨hk.1, hk.2.1⟩⟩)), (by (with_reducible repeat (first | apply Kd.R_alloc | apply Kd.R_drewN | apply Kd.R_drew)); exact Kd.R_mono HO945.out (fun _ hk => ⟨hk.2.2, ⟨hk.1, hk.2.1⟩⟩)), (by (with_reducible repeat (first | apply Kd.R_alloc | apply Kd.R_drewN | apply Kd.R_drew)); exact Kd.R_mono HO_884000.out (fun _ hk => ⟨hk.2.1, ⟨hk.2.2, hk.1⟩⟩)), (by (with_reducible repeat (first | apply Kd.R_alloc | apply Kd.R_drewN | apply Kd.R_drew)); exact Kd.R_mono HO_884001.out (fun _ hk => ⟨hk.2.1, ⟨hk.2.2, hk.1⟩⟩)), (by (with_reducible repeat (first | apply Kd.R_alloc | apply Kd.R_drewN | apply Kd.R_drew)); exact Kd.R_mono HO_885000.out (fun _ hk => ⟨hk.2.1, ⟨hk.2.2, hk.1⟩⟩)), (by (with_reducible repeat (first | apply Kd.R_alloc | apply Kd.R_drewN | apply Kd.R_drew)); exact Kd.R_mono HO_885001.out (fun _ hk => ⟨hk.2.1, ⟨hk.2.2, hk.1⟩⟩)), (bU BK861.out), (bU BK883.out), (bU BK884.out), (bU BK931.out), (bU BK963.out), GW963.out, GE963.out, NB861_963.out, NB963_861.out, NB883_963.out, NB963_883.out, NB884_963.out, NB963_884.out, NB931_963.out, NB963_931.out, (beU HB.out)⟩)
              ·skip
               rintro gb963 w159 ⟨hS_, h0_, h1_, h2_, h3_, h4_, h5_, h6_, h7_, h8_, h9_, h10_, h11_, h12_, h13_, h14_, h15_, h16_, h17_, h18_, h19_, h20_, h21_, h22_, h23_⟩
               have n0_ : Aside0 (Kd.R Kd.string 9 w159 w.heap.size (fun k_ => some k_ ≠ (.slice Ao153 t940.length co153 : Value).ownBlock ∧ some k_ ≠ (.slice Ao61 t871.length co61 : Value).ownBlock ∧ some k_ ≠ (.slice Ao65 t877.length co65 : Value).ownBlock) (.slice Ao146 t924.length co146) t924) := ⟨h0_⟩
               have n1_ : Aside0 (Kd.R k104 104 w159 w.heap.size (fun k_ => some k_ ≠ (.slice Ao155 t943.length co155 : Value).ownBlock ∧ some k_ ≠ (.slice Ao63 t874.length co63 : Value).ownBlock ∧ some k_ ≠ (.slice Ao67 t880.length co67 : Value).ownBlock) (.slice Ao151 t927.length co151) t927) := ⟨h1_⟩
               have n2_ : Aside0 (Kd.R Kd.string 9 w159 w.heap.size (fun k_ => some k_ ≠ (.slice Ao146 t924.length co146 : Value).ownBlock ∧ some k_ ≠ (.slice Ao61 t871.length co61 : Value).ownBlock ∧ some k_ ≠ (.slice Ao65 t877.length co65 : Value).ownBlock) (.slice Ao153 t940.length co153) t940) := ⟨h2_⟩
               have n3_ : Aside0 (Kd.R k104 104 w159 w.heap.size (fun k_ => some k_ ≠ (.slice Ao151 t927.length co151 : Value).ownBlock ∧ some k_ ≠ (.slice Ao63 t874.length co63 : Value).ownBlock ∧ some k_ ≠ (.slice Ao67 t880.length co67 : Value).ownBlock) (.slice Ao155 t943.length co155) t943) := ⟨h3_⟩
               have n4_ : Aside0 (Kd.R Kd.string 9 w159 w.heap.size (fun k_ => some k_ ≠ (.slice Ao146 t924.length co146 : Value).ownBlock ∧ some k_ ≠ (.slice Ao153 t940.length co153 : Value).ownBlock ∧ some k_ ≠ (.slice Ao65 t877.length co65 : Value).ownBlock) (.slice Ao61 t871.length co61) t871) := ⟨h4_⟩
               have n5_ : Aside0 (Kd.R k104 104 w159 w.heap.size (fun k_ => some k_ ≠ (.slice Ao151 t927.length co151 : Value).ownBlock ∧ some k_ ≠ (.slice Ao155 t943.length co155 : Value).ownBlock ∧ some k_ ≠ (.slice Ao67 t880.length co67 : Value).ownBlock) (.slice Ao63 t874.length co63) t874) := ⟨h5_⟩
               have n6_ : Aside0 (Kd.R Kd.string 9 w159 w.heap.size (fun k_ => some k_ ≠ (.slice Ao146 t924.length co146 : Value).ownBlock ∧ some k_ ≠ (.slice Ao153 t940.length co153 : Value).ownBlock ∧ some k_ ≠ (.slice Ao61 t871.length co61 : Value).ownBlock) (.slice Ao65 t877.length co65) t877) := ⟨h6_⟩
               have n7_ : Aside0 (Kd.R k104 104 w159 w.heap.size (fun k_ => some k_ ≠ (.slice Ao151 t927.length co151 : Value).ownBlock ∧ some k_ ≠ (.slice Ao155 t943.length co155 : Value).ownBlock ∧ some k_ ≠ (.slice Ao63 t874.length co63 : Value).ownBlock) (.slice Ao67 t880.length co67) t880) := ⟨h7_⟩
               have n8_ : Aside0 (w159.heap[gb861]? = some (.cells #[.slice A0_0 l0_0.length c0_0, .slice A0_1 l0_1.length c0_1] 86 (0, 0))) := ⟨h8_⟩
               have n9_ : Aside0 (w159.heap[gb883]? = some (.cells #[.slice Ao61 t871.length co61, .slice Ao63 t874.length co63] 86 (0, 0))) := ⟨h9_⟩
               have n10_ : Aside0 (w159.heap[gb884]? = some (.cells #[.slice Ao65 t877.length co65, .slice Ao67 t880.length co67] 86 (0, 0))) := ⟨h10_⟩
               have n11_ : Aside0 (w159.heap[gb931]? = some (.cells #[.slice Ao153 t940.length co153, .slice Ao155 t943.length co155] 86 (0, 0))) := ⟨h11_⟩
               have n12_ : Aside0 (w159.heap[gb963]? = some (.cells #[.slice none 0 0, .slice none 0 0] 86 (0, 0))) := ⟨h12_⟩
               have n13_ : Aside0 (w.heap.size ≤ gb963) := ⟨h13_⟩
               have n14_ : Aside0 (w.heap.size ≤ gb963) := ⟨h14_⟩
               have n15_ : Aside0 (gb861 ≠ gb963) := ⟨h15_⟩
               have n16_ : Aside0 (gb963 ≠ gb861) := ⟨h16_⟩
               have n17_ : Aside0 (gb883 ≠ gb963) := ⟨h17_⟩
               have n18_ : Aside0 (gb963 ≠ gb883) := ⟨h18_⟩
               have n19_ : Aside0 (gb884 ≠ gb963) := ⟨h19_⟩
               have n20_ : Aside0 (gb963 ≠ gb884) := ⟨h20_⟩
               have n21_ : Aside0 (gb931 ≠ gb963) := ⟨h21_⟩
               have n22_ : Aside0 (gb963 ≠ gb931) := ⟨h22_⟩
               have n23_ : Aside0 (Below w.heap.size w w159) := ⟨h23_⟩
               clear HO_884000
               clear HO_884001
               clear HO_885000
               clear HO_885001
               clear HO926
               clear HO929
               clear HO942
               clear HO945
               clear BK861
               clear BK883
               clear BK884
               clear BK931
               clear HB
               clear h0_ h1_ h2_ h3_ h4_ h5_ h6_ h7_ h8_ h9_ h10_ h11_ h12_ h13_ h14_ h15_ h16_ h17_ h18_ h19_ h20_ h21_ h22_ h23_
               have HO926 := n0_
               have HO929 := n1_
               have HO942 := n2_
               have HO945 := n3_
               have HO_884000 := n4_
               have HO_884001 := n5_
               have HO_885000 := n6_
               have HO_885001 := n7_
               have BK861 := n8_
               have BK883 := n9_
               have BK884 := n10_
               have BK931 := n11_
               have BK963 := n12_
               have GW963 := n13_
               have GE963 := n14_
               have NB861_963 := n15_
               have NB963_861 := n16_
               have NB883_963 := n17_
               have NB963_883 := n18_
               have NB884_963 := n19_
               have NB963_884 := n20_
               have NB931_963 := n21_
               have NB963_931 := n22_
               have HB := n23_
               clear n0_ n1_ n2_ n3_ n4_ n5_ n6_ n7_ n8_ n9_ n10_ n11_ n12_ n13_ n14_ n15_ n16_ n17_ n18_ n19_ n20_ n21_ n22_ n23_
               have hHeld : w159.cell? ⟨gb861, 0, none⟩ = some (.slice A0_0 l0_0.length c0_0) ∧ w159.cell? ⟨gb861, 1, none⟩ = some (.slice A0_1 l0_1.length c0_1) := hS_
               refine norm_ (a' := ?_) ?_ ?_
               rotate_left
               ·simp only [putAll, Act.put, List.setIfInBounds_toArray, List.set_cons_zero, List.set_cons_succ]
                rfl
               refine one_ (i := 2) (N := some 107) #[true, true, true, true, false, true, false, false, false, false, false, true, false, false] rfl rfl (one_of HT_.out (by kernel_rfl)) (by decide) (fun K hK => ?_)
               refine Kd.R_lit_step Kd.string _ 9 ?hg (N := 107) ?hd (xs := ([] : List ByteArray)) (inner := []) (ok := fun _ => True) (okp := fun _ => True) ?hr ?hp (fun _ hk => hk) trivial (Below.refl _ _) (Nat.le_refl _) (by simp) ?_; (case hd => rfl); (case hg => rfl); (case hr => first | (go_simp; done) | (go_simp; rfl)); (case hp => exact (Reps.none _ _))
               intro v948 w160 ho161 hb hg_ hnew_
               clear hg_ hnew_
               (first | rw [← Ny947.out] at ho161 | (simp only [Int.reduceToNat] at ho161; rw [← Ny947.out] at ho161))
               have HO949 := Aside0.mk (Kd.R_lower (Kd.R_new' (Kd.R_new' (Kd.R_new' (Kd.R_new' ho161 (Kd.R_lt (rU HO_884000.out))) (Kd.R_lt (rU HO_885000.out))) (Kd.R_lt (rU HO926.out))) (Kd.R_lt (rU HO942.out))) (below_size (by repeat (first | exact beU HB.out | refine below_set ?_ (Aside0.out ‹_›) | apply below_alloc | apply pw_below_drewN | apply below_drew1))))
               replace HO_884000 := Aside0.mk (Kd.R_elder' (rU HO_884000.out) (Kd.R_base ho161) hb)
               replace HO_884001 := Aside0.mk (Kd.R_below (rU HO_884001.out) hb)
               replace HO_885000 := Aside0.mk (Kd.R_elder' (rU HO_885000.out) (Kd.R_base ho161) hb)
               replace HO_885001 := Aside0.mk (Kd.R_below (rU HO_885001.out) hb)
               replace HO926 := Aside0.mk (Kd.R_elder' (rU HO926.out) (Kd.R_base ho161) hb)
               replace HO929 := Aside0.mk (Kd.R_below (rU HO929.out) hb)
               replace HO942 := Aside0.mk (Kd.R_elder' (rU HO942.out) (Kd.R_base ho161) hb)
               replace HO945 := Aside0.mk (Kd.R_below (rU HO945.out) hb)
               replace BK861 := Aside0.mk (blk_below (bU BK861.out) hb)
               replace BK883 := Aside0.mk (blk_below (bU BK883.out) hb)
               replace BK884 := Aside0.mk (blk_below (bU BK884.out) hb)
               replace BK931 := Aside0.mk (blk_below (bU BK931.out) hb)
               replace BK963 := Aside0.mk (blk_below (bU BK963.out) hb)
               replace HB := Aside0.mk (below_step (by repeat (first | exact beU HB.out | refine below_set ?_ (Aside0.out ‹_›) | apply below_alloc | apply pw_below_drewN | apply below_drew1)) hb)
               clear hb ho161
               refine hK.out _ _ ⟨(blk_cell BK861.out 0).trans rfl, (blk_cell BK861.out 1).trans rfl⟩ (fun hHeld => ?_)
               clear hK K
               refine norm_ (a' := ?_) ?_ ?_
               rotate_left
               ·show Act.put _ (some 107) _ = _
                simp only [Act.put, List.setIfInBounds_toArray, List.set_cons_zero, List.set_cons_succ, i64_w, i32_w]
                rfl
               exact norm_ (by simp only [putAll, Act.put, List.setIfInBounds_toArray, List.set_cons_zero, List.set_cons_succ] <;> rfl) (hJ2_11 (v948, gb963) _ ⟨hHeld, (by (with_reducible repeat (first | apply Kd.R_alloc | apply Kd.R_drewN | apply Kd.R_drew)); exact Kd.R_mono HO926.out (fun _ hk => ⟨hk.1.1, ⟨hk.2, ⟨hk.1.2.1, hk.1.2.2⟩⟩⟩)), (rU HO929.out), (by (with_reducible repeat (first | apply Kd.R_alloc | apply Kd.R_drewN | apply Kd.R_drew)); exact Kd.R_mono HO942.out (fun _ hk => ⟨hk.1.1, ⟨hk.2, ⟨hk.1.2.1, hk.1.2.2⟩⟩⟩)), (rU HO945.out), (by (with_reducible repeat (first | apply Kd.R_alloc | apply Kd.R_drewN | apply Kd.R_drew)); exact Kd.R_mono HO949.out (fun _ hk => ⟨hk.1.2, ⟨hk.2, ⟨hk.1.1.1.2, hk.1.1.2⟩⟩⟩)), (by (with_reducible repeat (first | apply Kd.R_alloc | apply Kd.R_drewN | apply Kd.R_drew)); exact Kd.R_mono HO_884000.out (fun _ hk => ⟨hk.1.1, ⟨hk.1.2.1, ⟨hk.2, hk.1.2.2⟩⟩⟩)), (rU HO_884001.out), (by (with_reducible repeat (first | apply Kd.R_alloc | apply Kd.R_drewN | apply Kd.R_drew)); exact Kd.R_mono HO_885000.out (fun _ hk => ⟨hk.1.1, ⟨hk.1.2.1, ⟨hk.2, hk.1.2.2⟩⟩⟩)), (rU HO_885001.out), (bU BK861.out), (bU BK883.out), (bU BK884.out), (bU BK931.out), (bU BK963.out), GW963.out, GE963.out, NB861_963.out, NB963_861.out, NB883_963.out, NB963_883.out, NB884_963.out, NB963_884.out, NB931_963.out, NB963_931.out, (beU HB.out)⟩)
             ·skip
              rintro v948 w160 ⟨hS_, h0_, h1_, h2_, h3_, h4_, h5_, h6_, h7_, h8_, h9_, h10_, h11_, h12_, h13_⟩
              have n0_ : Aside0 (Kd.R Kd.string 9 w160 w.heap.size (fun k_ => some k_ ≠ (.slice Ao153 t940.length co153 : Value).ownBlock ∧ some k_ ≠ (v948 : Value).ownBlock ∧ some k_ ≠ (.slice Ao61 t871.length co61 : Value).ownBlock ∧ some k_ ≠ (.slice Ao65 t877.length co65 : Value).ownBlock) (.slice Ao146 t924.length co146) t924) := ⟨h0_⟩
              have n1_ : Aside0 (Kd.R k104 104 w160 w.heap.size (fun k_ => some k_ ≠ (.slice Ao155 t943.length co155 : Value).ownBlock ∧ some k_ ≠ (.slice Ao63 t874.length co63 : Value).ownBlock ∧ some k_ ≠ (.slice Ao67 t880.length co67 : Value).ownBlock) (.slice Ao151 t927.length co151) t927) := ⟨h1_⟩
              have n2_ : Aside0 (Kd.R Kd.string 9 w160 w.heap.size (fun k_ => some k_ ≠ (.slice Ao146 t924.length co146 : Value).ownBlock ∧ some k_ ≠ (v948 : Value).ownBlock ∧ some k_ ≠ (.slice Ao61 t871.length co61 : Value).ownBlock ∧ some k_ ≠ (.slice Ao65 t877.length co65 : Value).ownBlock) (.slice Ao153 t940.length co153) t940) := ⟨h2_⟩
              have n3_ : Aside0 (Kd.R k104 104 w160 w.heap.size (fun k_ => some k_ ≠ (.slice Ao151 t927.length co151 : Value).ownBlock ∧ some k_ ≠ (.slice Ao63 t874.length co63 : Value).ownBlock ∧ some k_ ≠ (.slice Ao67 t880.length co67 : Value).ownBlock) (.slice Ao155 t943.length co155) t943) := ⟨h3_⟩
              have n4_ : Aside0 (Kd.R Kd.string 9 w160 w.heap.size (fun k_ => some k_ ≠ (.slice Ao146 t924.length co146 : Value).ownBlock ∧ some k_ ≠ (.slice Ao153 t940.length co153 : Value).ownBlock ∧ some k_ ≠ (.slice Ao61 t871.length co61 : Value).ownBlock ∧ some k_ ≠ (.slice Ao65 t877.length co65 : Value).ownBlock) v948 y947) := ⟨h4_⟩
              have n5_ : Aside0 (Kd.R Kd.string 9 w160 w.heap.size (fun k_ => some k_ ≠ (.slice Ao146 t924.length co146 : Value).ownBlock ∧ some k_ ≠ (.slice Ao153 t940.length co153 : Value).ownBlock ∧ some k_ ≠ (v948 : Value).ownBlock ∧ some k_ ≠ (.slice Ao65 t877.length co65 : Value).ownBlock) (.slice Ao61 t871.length co61) t871) := ⟨h5_⟩
              have n6_ : Aside0 (Kd.R k104 104 w160 w.heap.size (fun k_ => some k_ ≠ (.slice Ao151 t927.length co151 : Value).ownBlock ∧ some k_ ≠ (.slice Ao155 t943.length co155 : Value).ownBlock ∧ some k_ ≠ (.slice Ao67 t880.length co67 : Value).ownBlock) (.slice Ao63 t874.length co63) t874) := ⟨h6_⟩
              have n7_ : Aside0 (Kd.R Kd.string 9 w160 w.heap.size (fun k_ => some k_ ≠ (.slice Ao146 t924.length co146 : Value).ownBlock ∧ some k_ ≠ (.slice Ao153 t940.length co153 : Value).ownBlock ∧ some k_ ≠ (v948 : Value).ownBlock ∧ some k_ ≠ (.slice Ao61 t871.length co61 : Value).ownBlock) (.slice Ao65 t877.length co65) t877) := ⟨h7_⟩
              have n8_ : Aside0 (Kd.R k104 104 w160 w.heap.size (fun k_ => some k_ ≠ (.slice Ao151 t927.length co151 : Value).ownBlock ∧ some k_ ≠ (.slice Ao155 t943.length co155 : Value).ownBlock ∧ some k_ ≠ (.slice Ao63 t874.length co63 : Value).ownBlock) (.slice Ao67 t880.length co67) t880) := ⟨h8_⟩
              have n9_ : Aside0 (w160.heap[gb861]? = some (.cells #[.slice A0_0 l0_0.length c0_0, .slice A0_1 l0_1.length c0_1] 86 (0, 0))) := ⟨h9_⟩
              have n10_ : Aside0 (w160.heap[gb883]? = some (.cells #[.slice Ao61 t871.length co61, .slice Ao63 t874.length co63] 86 (0, 0))) := ⟨h10_⟩
              have n11_ : Aside0 (w160.heap[gb884]? = some (.cells #[.slice Ao65 t877.length co65, .slice Ao67 t880.length co67] 86 (0, 0))) := ⟨h11_⟩
              have n12_ : Aside0 (w160.heap[gb931]? = some (.cells #[.slice Ao153 t940.length co153, .slice Ao155 t943.length co155] 86 (0, 0))) := ⟨h12_⟩
              have n13_ : Aside0 (Below w.heap.size w w160) := ⟨h13_⟩
              clear HO_884000
              clear HO_884001
              clear HO_885000
              clear HO_885001
              clear HO926
              clear HO929
              clear HO942
              clear HO945
              clear BK861
              clear BK883
              clear BK884
              clear BK931
              clear HB
              clear h0_ h1_ h2_ h3_ h4_ h5_ h6_ h7_ h8_ h9_ h10_ h11_ h12_ h13_
              have HO926 := n0_
              have HO929 := n1_
              have HO942 := n2_
              have HO945 := n3_
              have HO949 := n4_
              have HO_884000 := n5_
              have HO_884001 := n6_
              have HO_885000 := n7_
              have HO_885001 := n8_
              have BK861 := n9_
              have BK883 := n10_
              have BK884 := n11_
              have BK931 := n12_
              have HB := n13_
              clear n0_ n1_ n2_ n3_ n4_ n5_ n6_ n7_ n8_ n9_ n10_ n11_ n12_ n13_
              have hHeld : w160.cell? ⟨gb861, 0, none⟩ = some (.slice A0_0 l0_0.length c0_0) ∧ w160.cell? ⟨gb861, 1, none⟩ = some (.slice A0_1 l0_1.length c0_1) := hS_
              refine norm_ (a' := ?_) ?_ ?_
              rotate_left
              ·simp only [putAll, Act.put, List.setIfInBounds_toArray, List.set_cons_zero, List.set_cons_succ]
               rfl
              refine two_ (i := 4) (j := 11) (Ni := some 109) (Nj := some 18) #[true, true, true, true, true, true, false, false, false, false, false, false, false, false] #[true, true, true, true, false, true, false, false, false, false, false, true, false, false] rfl rfl rfl rfl (two_of HT_.out (by kernel_rfl)) (by decide) (by decide) (fun K hK => ?_) (fun K hK => ?_)
              ·skip
               refine Kd.R_append_rows_step Kd.string (w0 := w) w.heap.size (by rfl) (.tmp 107) (.tmp 108) 83 9 (.string ⟨#[]⟩) 16 rfl Try.underlying83 info9 rfl (by decide) (by omega) v948 y947 l2 _ _ _ (fun k_ => some k_ ≠ (.slice Ao61 t871.length co61 : Value).ownBlock ∧ some k_ ≠ (.slice Ao65 t877.length co65 : Value).ownBlock ∧ some k_ ≠ (.slice Ao146 t924.length co146 : Value).ownBlock ∧ some k_ ≠ (.slice Ao153 t940.length co153 : Value).ownBlock) (fun _ => False) rfl rfl ?aO ?aR (fun _ _ h => h) (fun _ h => h.elim) ?aF ?aB ?aS ?aL ?_
               (case aR => repeat (first | exact (Kd.C_below HR2.out HB.out) | (with_reducible refine Kd.C_alloc ?_ _) | (with_reducible refine Kd.C_drewN ?_ _) | (with_reducible refine Kd.C_drew ?_)))
               (case aB => exact (by repeat (first | exact beU HB.out | refine below_set ?_ (Aside0.out ‹_›) | apply below_alloc | apply pw_below_drewN | apply below_drew1)))
               (case aF => exact (fun k_ hk => ⟨Kd.fresh' (Kd.R_lt (rU HO_884000.out)) k_ hk, Kd.fresh' (Kd.R_lt (rU HO_885000.out)) k_ hk, Kd.fresh' (Kd.R_lt (rU HO926.out)) k_ hk, Kd.fresh' (Kd.R_lt (rU HO942.out)) k_ hk⟩))
               (case aO => exact (by (with_reducible repeat (first | apply Kd.R_alloc | apply Kd.R_drewN | apply Kd.R_drew)); exact Kd.R_mono HO949.out (fun _ hk => ⟨hk.2.2.1, ⟨hk.2.2.2, ⟨hk.1, hk.2.1⟩⟩⟩)))
               (case aS => exact (below_size (by repeat (first | exact beU HB.out | refine below_set ?_ (Aside0.out ‹_›) | apply below_alloc | apply pw_below_drewN | apply below_drew1))))
               (case aL => have := LMc132.out; omega)
               intro v951 w161 ho hb hg hat
               rw [← Ny950.out] at ho
               have n0_ := Aside0.mk (Kd.R_after (ok := (fun k_ => some k_ ≠ (.slice Ao65 t877.length co65 : Value).ownBlock ∧ some k_ ≠ (.slice Ao146 t924.length co146 : Value).ownBlock ∧ some k_ ≠ (.slice Ao153 t940.length co153 : Value).ownBlock)) (by (with_reducible repeat (first | apply Kd.R_alloc | apply Kd.R_drewN | apply Kd.R_drew)); exact Kd.R_mono HO_884000.out (fun _ hk => ⟨⟨hk.2.2.2, ⟨hk.1, hk.2.1⟩⟩, hk.2.2.1⟩)) hg hat)
               have n1_ := Aside0.mk (Kd.R_over' (rU HO_884001.out) (Kd.R_typed (rU HO949.out)) (by decide) hg)
               have n2_ := Aside0.mk (Kd.R_after (ok := (fun k_ => some k_ ≠ (.slice Ao61 t871.length co61 : Value).ownBlock ∧ some k_ ≠ (.slice Ao146 t924.length co146 : Value).ownBlock ∧ some k_ ≠ (.slice Ao153 t940.length co153 : Value).ownBlock)) (by (with_reducible repeat (first | apply Kd.R_alloc | apply Kd.R_drewN | apply Kd.R_drew)); exact Kd.R_mono HO_885000.out (fun _ hk => ⟨⟨hk.2.2.2, ⟨hk.1, hk.2.1⟩⟩, hk.2.2.1⟩)) hg hat)
               have n3_ := Aside0.mk (Kd.R_over' (rU HO_885001.out) (Kd.R_typed (rU HO949.out)) (by decide) hg)
               have n4_ := Aside0.mk (blk_grown (g := gb861) (o := .cells #[.slice A0_0 l0_0.length c0_0, .slice A0_1 l0_1.length c0_1] 86 (0, 0)) (bU BK861.out) hg (Kd.R_ne HO949.out BK861.out (by decide)))
               have n5_ := Aside0.mk (blk_grown (g := gb883) (o := .cells #[.slice Ao61 t871.length co61, .slice Ao63 t874.length co63] 86 (0, 0)) (bU BK883.out) hg (Kd.R_ne HO949.out BK883.out (by decide)))
               have n6_ := Aside0.mk (blk_grown (g := gb884) (o := .cells #[.slice Ao65 t877.length co65, .slice Ao67 t880.length co67] 86 (0, 0)) (bU BK884.out) hg (Kd.R_ne HO949.out BK884.out (by decide)))
               have n7_ := Aside0.mk (Kd.R_after (ok := (fun k_ => some k_ ≠ (.slice Ao61 t871.length co61 : Value).ownBlock ∧ some k_ ≠ (.slice Ao65 t877.length co65 : Value).ownBlock ∧ some k_ ≠ (.slice Ao153 t940.length co153 : Value).ownBlock)) (by (with_reducible repeat (first | apply Kd.R_alloc | apply Kd.R_drewN | apply Kd.R_drew)); exact Kd.R_mono HO926.out (fun _ hk => ⟨⟨hk.2.2.1, ⟨hk.2.2.2, hk.1⟩⟩, hk.2.1⟩)) hg hat)
               have n8_ := Aside0.mk (Kd.R_over' (rU HO929.out) (Kd.R_typed (rU HO949.out)) (by decide) hg)
               have n9_ := Aside0.mk (blk_grown (g := gb931) (o := .cells #[.slice Ao153 t940.length co153, .slice Ao155 t943.length co155] 86 (0, 0)) (bU BK931.out) hg (Kd.R_ne HO949.out BK931.out (by decide)))
               have n10_ := Aside0.mk (Kd.R_after (ok := (fun k_ => some k_ ≠ (.slice Ao61 t871.length co61 : Value).ownBlock ∧ some k_ ≠ (.slice Ao65 t877.length co65 : Value).ownBlock ∧ some k_ ≠ (.slice Ao146 t924.length co146 : Value).ownBlock)) (by (with_reducible repeat (first | apply Kd.R_alloc | apply Kd.R_drewN | apply Kd.R_drew)); exact Kd.R_mono HO942.out (fun _ hk => ⟨⟨hk.2.2.1, ⟨hk.2.2.2, hk.1⟩⟩, hk.2.1⟩)) hg hat)
               have n11_ := Aside0.mk (Kd.R_over' (rU HO945.out) (Kd.R_typed (rU HO949.out)) (by decide) hg)
               have n12_ := Aside0.mk (hb)
               have n13_ := Aside0.mk (ho)
               clear HO_884000
               clear HO_884001
               clear HO_885000
               clear HO_885001
               clear BK861
               clear BK883
               clear BK884
               clear HO926
               clear HO929
               clear BK931
               clear HO942
               clear HO945
               clear HB
               clear HO949
               have HO_884000 := n0_
               have HO_884001 := n1_
               have HO_885000 := n2_
               have HO_885001 := n3_
               have BK861 := n4_
               have BK883 := n5_
               have BK884 := n6_
               have HO926 := n7_
               have HO929 := n8_
               have BK931 := n9_
               have HO942 := n10_
               have HO945 := n11_
               have HB := n12_
               have HO952 := n13_
               clear n0_ n1_ n2_ n3_ n4_ n5_ n6_ n7_ n8_ n9_ n10_ n11_ n12_ n13_
               clear ho hb hg hat
               refine hK.out _ _ ⟨(blk_cell BK861.out 0).trans rfl, (blk_cell BK861.out 1).trans rfl⟩ (fun hHeld => ?_)
               clear hK K
               refine norm_ (a' := ?_) ?_ ?_
               rotate_left
               ·show Act.put _ (some 109) _ = _
                simp only [Act.put, List.setIfInBounds_toArray, List.set_cons_zero, List.set_cons_succ, i64_w, i32_w]
                rfl
               exact norm_ (by simp only [putAll, Act.put, List.setIfInBounds_toArray, List.set_cons_zero, List.set_cons_succ] <;> rfl) (hJ2_4 (v948, v951) _ ⟨hHeld, (by (with_reducible repeat (first | apply Kd.R_alloc | apply Kd.R_drewN | apply Kd.R_drew)); exact Kd.R_mono HO926.out (fun _ hk => ⟨hk.1.2.2, ⟨hk.2, ⟨hk.1.1, hk.1.2.1⟩⟩⟩)), (rU HO929.out), (by (with_reducible repeat (first | apply Kd.R_alloc | apply Kd.R_drewN | apply Kd.R_drew)); exact Kd.R_mono HO942.out (fun _ hk => ⟨hk.1.2.2, ⟨hk.2, ⟨hk.1.1, hk.1.2.1⟩⟩⟩)), (rU HO945.out), (by (with_reducible repeat (first | apply Kd.R_alloc | apply Kd.R_drewN | apply Kd.R_drew)); exact Kd.R_mono HO952.out (fun _ hk => ⟨hk.2.2.1, ⟨hk.2.2.2, ⟨hk.1, hk.2.1⟩⟩⟩)), (by (with_reducible repeat (first | apply Kd.R_alloc | apply Kd.R_drewN | apply Kd.R_drew)); exact Kd.R_mono HO_884000.out (fun _ hk => ⟨hk.1.2.1, ⟨hk.1.2.2, ⟨hk.2, hk.1.1⟩⟩⟩)), (rU HO_884001.out), (by (with_reducible repeat (first | apply Kd.R_alloc | apply Kd.R_drewN | apply Kd.R_drew)); exact Kd.R_mono HO_885000.out (fun _ hk => ⟨hk.1.2.1, ⟨hk.1.2.2, ⟨hk.2, hk.1.1⟩⟩⟩)), (rU HO_885001.out), (bU BK861.out), (bU BK883.out), (bU BK884.out), (bU BK931.out), (beU HB.out)⟩)
              ·skip
               refine box_step ?hg (N := 18) ?hd (cs := #[.slice none 0 0, .slice none 0 0]) (t := 86) ?hr ?_; (case hd => rfl); (case hg => rfl); (case hr => first | (go_simp; done) | (go_simp; rfl))
               intro gb963 hg w161 hbox hb
               have BK963 := Aside0.mk (hbox)
               have GW963 := Aside0.mk ((by first | exact geU HB.out hg | (rw [hg]; exact below_size (by repeat (first | exact beU HB.out | refine below_set ?_ (Aside0.out ‹_›) | apply below_alloc | apply pw_below_drewN | apply below_drew1)))))
               have GE963 := Aside0.mk ((by first | exact geU HB.out hg | (rw [hg]; exact below_size (by repeat (first | exact beU HB.out | refine below_set ?_ (Aside0.out ‹_›) | apply below_alloc | apply pw_below_drewN | apply below_drew1)))))
               have NB861_963 := Aside0.mk ((neU BK861.out hg))
               have NB963_861 := Aside0.mk ((enU BK861.out hg))
               have NB883_963 := Aside0.mk ((neU BK883.out hg))
               have NB963_883 := Aside0.mk ((enU BK883.out hg))
               have NB884_963 := Aside0.mk ((neU BK884.out hg))
               have NB963_884 := Aside0.mk ((enU BK884.out hg))
               have NB931_963 := Aside0.mk ((neU BK931.out hg))
               have NB963_931 := Aside0.mk ((enU BK931.out hg))
               replace HO_884000 := Aside0.mk (Kd.R_below (rU HO_884000.out) hb)
               replace HO_884001 := Aside0.mk (Kd.R_below (rU HO_884001.out) hb)
               replace HO_885000 := Aside0.mk (Kd.R_below (rU HO_885000.out) hb)
               replace HO_885001 := Aside0.mk (Kd.R_below (rU HO_885001.out) hb)
               replace HO926 := Aside0.mk (Kd.R_below (rU HO926.out) hb)
               replace HO929 := Aside0.mk (Kd.R_below (rU HO929.out) hb)
               replace HO942 := Aside0.mk (Kd.R_below (rU HO942.out) hb)
               replace HO945 := Aside0.mk (Kd.R_below (rU HO945.out) hb)
               replace HO949 := Aside0.mk (Kd.R_below (rU HO949.out) hb)
               replace BK861 := Aside0.mk (blk_below (bU BK861.out) hb)
               replace BK883 := Aside0.mk (blk_below (bU BK883.out) hb)
               replace BK884 := Aside0.mk (blk_below (bU BK884.out) hb)
               replace BK931 := Aside0.mk (blk_below (bU BK931.out) hb)
               replace HB := Aside0.mk (below_step (by repeat (first | exact beU HB.out | refine below_set ?_ (Aside0.out ‹_›) | apply below_alloc | apply pw_below_drewN | apply below_drew1)) hb)
               clear hb hbox hg
               refine hK.out _ _ ⟨(blk_cell BK861.out 0).trans rfl, (blk_cell BK861.out 1).trans rfl⟩ (fun hHeld => ?_)
               clear hK K
               refine norm_ (a' := ?_) ?_ ?_
               rotate_left
               ·show Act.put _ (some 18) _ = _
                simp only [Act.put, List.setIfInBounds_toArray, List.set_cons_zero, List.set_cons_succ, i64_w, i32_w]
                rfl
               exact norm_ (by simp only [putAll, Act.put, List.setIfInBounds_toArray, List.set_cons_zero, List.set_cons_succ] <;> rfl) (hJ2_11 (v948, gb963) _ ⟨hHeld, (rU HO926.out), (rU HO929.out), (rU HO942.out), (rU HO945.out), (rU HO949.out), (rU HO_884000.out), (rU HO_884001.out), (rU HO_885000.out), (rU HO_885001.out), (bU BK861.out), (bU BK883.out), (bU BK884.out), (bU BK931.out), (bU BK963.out), GW963.out, GE963.out, NB861_963.out, NB963_861.out, NB883_963.out, NB963_883.out, NB884_963.out, NB963_884.out, NB931_963.out, NB963_931.out, (beU HB.out)⟩)
            ·skip
             rintro ⟨v948, gb963⟩ w161 ⟨hS_, h0_, h1_, h2_, h3_, h4_, h5_, h6_, h7_, h8_, h9_, h10_, h11_, h12_, h13_, h14_, h15_, h16_, h17_, h18_, h19_, h20_, h21_, h22_, h23_, h24_⟩
             have n0_ : Aside0 (Kd.R Kd.string 9 w161 w.heap.size (fun k_ => some k_ ≠ (.slice Ao153 t940.length co153 : Value).ownBlock ∧ some k_ ≠ (v948 : Value).ownBlock ∧ some k_ ≠ (.slice Ao61 t871.length co61 : Value).ownBlock ∧ some k_ ≠ (.slice Ao65 t877.length co65 : Value).ownBlock) (.slice Ao146 t924.length co146) t924) := ⟨h0_⟩
             have n1_ : Aside0 (Kd.R k104 104 w161 w.heap.size (fun k_ => some k_ ≠ (.slice Ao155 t943.length co155 : Value).ownBlock ∧ some k_ ≠ (.slice Ao63 t874.length co63 : Value).ownBlock ∧ some k_ ≠ (.slice Ao67 t880.length co67 : Value).ownBlock) (.slice Ao151 t927.length co151) t927) := ⟨h1_⟩
             have n2_ : Aside0 (Kd.R Kd.string 9 w161 w.heap.size (fun k_ => some k_ ≠ (.slice Ao146 t924.length co146 : Value).ownBlock ∧ some k_ ≠ (v948 : Value).ownBlock ∧ some k_ ≠ (.slice Ao61 t871.length co61 : Value).ownBlock ∧ some k_ ≠ (.slice Ao65 t877.length co65 : Value).ownBlock) (.slice Ao153 t940.length co153) t940) := ⟨h2_⟩
             have n3_ : Aside0 (Kd.R k104 104 w161 w.heap.size (fun k_ => some k_ ≠ (.slice Ao151 t927.length co151 : Value).ownBlock ∧ some k_ ≠ (.slice Ao63 t874.length co63 : Value).ownBlock ∧ some k_ ≠ (.slice Ao67 t880.length co67 : Value).ownBlock) (.slice Ao155 t943.length co155) t943) := ⟨h3_⟩
             have n4_ : Aside0 (Kd.R Kd.string 9 w161 w.heap.size (fun k_ => some k_ ≠ (.slice Ao146 t924.length co146 : Value).ownBlock ∧ some k_ ≠ (.slice Ao153 t940.length co153 : Value).ownBlock ∧ some k_ ≠ (.slice Ao61 t871.length co61 : Value).ownBlock ∧ some k_ ≠ (.slice Ao65 t877.length co65 : Value).ownBlock) v948 y947) := ⟨h4_⟩
             have n5_ : Aside0 (Kd.R Kd.string 9 w161 w.heap.size (fun k_ => some k_ ≠ (.slice Ao146 t924.length co146 : Value).ownBlock ∧ some k_ ≠ (.slice Ao153 t940.length co153 : Value).ownBlock ∧ some k_ ≠ (v948 : Value).ownBlock ∧ some k_ ≠ (.slice Ao65 t877.length co65 : Value).ownBlock) (.slice Ao61 t871.length co61) t871) := ⟨h5_⟩
             have n6_ : Aside0 (Kd.R k104 104 w161 w.heap.size (fun k_ => some k_ ≠ (.slice Ao151 t927.length co151 : Value).ownBlock ∧ some k_ ≠ (.slice Ao155 t943.length co155 : Value).ownBlock ∧ some k_ ≠ (.slice Ao67 t880.length co67 : Value).ownBlock) (.slice Ao63 t874.length co63) t874) := ⟨h6_⟩
             have n7_ : Aside0 (Kd.R Kd.string 9 w161 w.heap.size (fun k_ => some k_ ≠ (.slice Ao146 t924.length co146 : Value).ownBlock ∧ some k_ ≠ (.slice Ao153 t940.length co153 : Value).ownBlock ∧ some k_ ≠ (v948 : Value).ownBlock ∧ some k_ ≠ (.slice Ao61 t871.length co61 : Value).ownBlock) (.slice Ao65 t877.length co65) t877) := ⟨h7_⟩
             have n8_ : Aside0 (Kd.R k104 104 w161 w.heap.size (fun k_ => some k_ ≠ (.slice Ao151 t927.length co151 : Value).ownBlock ∧ some k_ ≠ (.slice Ao155 t943.length co155 : Value).ownBlock ∧ some k_ ≠ (.slice Ao63 t874.length co63 : Value).ownBlock) (.slice Ao67 t880.length co67) t880) := ⟨h8_⟩
             have n9_ : Aside0 (w161.heap[gb861]? = some (.cells #[.slice A0_0 l0_0.length c0_0, .slice A0_1 l0_1.length c0_1] 86 (0, 0))) := ⟨h9_⟩
             have n10_ : Aside0 (w161.heap[gb883]? = some (.cells #[.slice Ao61 t871.length co61, .slice Ao63 t874.length co63] 86 (0, 0))) := ⟨h10_⟩
             have n11_ : Aside0 (w161.heap[gb884]? = some (.cells #[.slice Ao65 t877.length co65, .slice Ao67 t880.length co67] 86 (0, 0))) := ⟨h11_⟩
             have n12_ : Aside0 (w161.heap[gb931]? = some (.cells #[.slice Ao153 t940.length co153, .slice Ao155 t943.length co155] 86 (0, 0))) := ⟨h12_⟩
             have n13_ : Aside0 (w161.heap[gb963]? = some (.cells #[.slice none 0 0, .slice none 0 0] 86 (0, 0))) := ⟨h13_⟩
             have n14_ : Aside0 (w.heap.size ≤ gb963) := ⟨h14_⟩
             have n15_ : Aside0 (w.heap.size ≤ gb963) := ⟨h15_⟩
             have n16_ : Aside0 (gb861 ≠ gb963) := ⟨h16_⟩
             have n17_ : Aside0 (gb963 ≠ gb861) := ⟨h17_⟩
             have n18_ : Aside0 (gb883 ≠ gb963) := ⟨h18_⟩
             have n19_ : Aside0 (gb963 ≠ gb883) := ⟨h19_⟩
             have n20_ : Aside0 (gb884 ≠ gb963) := ⟨h20_⟩
             have n21_ : Aside0 (gb963 ≠ gb884) := ⟨h21_⟩
             have n22_ : Aside0 (gb931 ≠ gb963) := ⟨h22_⟩
             have n23_ : Aside0 (gb963 ≠ gb931) := ⟨h23_⟩
             have n24_ : Aside0 (Below w.heap.size w w161) := ⟨h24_⟩
             clear HO_884000
             clear HO_884001
             clear HO_885000
             clear HO_885001
             clear HO926
             clear HO929
             clear HO942
             clear HO945
             clear BK861
             clear BK883
             clear BK884
             clear BK931
             clear HB
             clear h0_ h1_ h2_ h3_ h4_ h5_ h6_ h7_ h8_ h9_ h10_ h11_ h12_ h13_ h14_ h15_ h16_ h17_ h18_ h19_ h20_ h21_ h22_ h23_ h24_
             have HO926 := n0_
             have HO929 := n1_
             have HO942 := n2_
             have HO945 := n3_
             have HO949 := n4_
             have HO_884000 := n5_
             have HO_884001 := n6_
             have HO_885000 := n7_
             have HO_885001 := n8_
             have BK861 := n9_
             have BK883 := n10_
             have BK884 := n11_
             have BK931 := n12_
             have BK963 := n13_
             have GW963 := n14_
             have GE963 := n15_
             have NB861_963 := n16_
             have NB963_861 := n17_
             have NB883_963 := n18_
             have NB963_883 := n19_
             have NB884_963 := n20_
             have NB963_884 := n21_
             have NB931_963 := n22_
             have NB963_931 := n23_
             have HB := n24_
             clear n0_ n1_ n2_ n3_ n4_ n5_ n6_ n7_ n8_ n9_ n10_ n11_ n12_ n13_ n14_ n15_ n16_ n17_ n18_ n19_ n20_ n21_ n22_ n23_ n24_
             have hHeld : w161.cell? ⟨gb861, 0, none⟩ = some (.slice A0_0 l0_0.length c0_0) ∧ w161.cell? ⟨gb861, 1, none⟩ = some (.slice A0_1 l0_1.length c0_1) := hS_
             refine norm_ (a' := ?_) ?_ ?_
             rotate_left
             ·simp only [putAll, Act.put, List.setIfInBounds_toArray, List.set_cons_zero, List.set_cons_succ]
              rfl
             refine one_ (i := 4) (N := some 109) #[true, true, true, true, true, true, false, false, false, false, false, true, false, false] rfl rfl (one_of HT_.out (by kernel_rfl)) (by decide) (fun K hK => ?_)
             refine Kd.R_append_rows_step Kd.string (w0 := w) w.heap.size (by rfl) (.tmp 107) (.tmp 108) 83 9 (.string ⟨#[]⟩) 16 rfl Try.underlying83 info9 rfl (by decide) (by omega) v948 y947 l2 _ _ _ (fun k_ => some k_ ≠ (.slice Ao61 t871.length co61 : Value).ownBlock ∧ some k_ ≠ (.slice Ao65 t877.length co65 : Value).ownBlock ∧ some k_ ≠ (.slice Ao146 t924.length co146 : Value).ownBlock ∧ some k_ ≠ (.slice Ao153 t940.length co153 : Value).ownBlock) (fun _ => False) rfl rfl ?aO ?aR (fun _ _ h => h) (fun _ h => h.elim) ?aF ?aB ?aS ?aL ?_
             (case aR => repeat (first | exact (Kd.C_below HR2.out HB.out) | (with_reducible refine Kd.C_alloc ?_ _) | (with_reducible refine Kd.C_drewN ?_ _) | (with_reducible refine Kd.C_drew ?_)))
             (case aB => exact (by repeat (first | exact beU HB.out | refine below_set ?_ (Aside0.out ‹_›) | apply below_alloc | apply pw_below_drewN | apply below_drew1)))
             (case aF => exact (fun k_ hk => ⟨Kd.fresh' (Kd.R_lt (rU HO_884000.out)) k_ hk, Kd.fresh' (Kd.R_lt (rU HO_885000.out)) k_ hk, Kd.fresh' (Kd.R_lt (rU HO926.out)) k_ hk, Kd.fresh' (Kd.R_lt (rU HO942.out)) k_ hk⟩))
             (case aO => exact (by (with_reducible repeat (first | apply Kd.R_alloc | apply Kd.R_drewN | apply Kd.R_drew)); exact Kd.R_mono HO949.out (fun _ hk => ⟨hk.2.2.1, ⟨hk.2.2.2, ⟨hk.1, hk.2.1⟩⟩⟩)))
             (case aS => exact (below_size (by repeat (first | exact beU HB.out | refine below_set ?_ (Aside0.out ‹_›) | apply below_alloc | apply pw_below_drewN | apply below_drew1))))
             (case aL => have := LMc132.out; omega)
             intro v951 w162 ho hb hg hat
             rw [← Ny950.out] at ho
             have n0_ := Aside0.mk (Kd.R_after (ok := (fun k_ => some k_ ≠ (.slice Ao65 t877.length co65 : Value).ownBlock ∧ some k_ ≠ (.slice Ao146 t924.length co146 : Value).ownBlock ∧ some k_ ≠ (.slice Ao153 t940.length co153 : Value).ownBlock)) (by (with_reducible repeat (first | apply Kd.R_alloc | apply Kd.R_drewN | apply Kd.R_drew)); exact Kd.R_mono HO_884000.out (fun _ hk => ⟨⟨hk.2.2.2, ⟨hk.1, hk.2.1⟩⟩, hk.2.2.1⟩)) hg hat)
             have n1_ := Aside0.mk (Kd.R_over' (rU HO_884001.out) (Kd.R_typed (rU HO949.out)) (by decide) hg)
             have n2_ := Aside0.mk (Kd.R_after (ok := (fun k_ => some k_ ≠ (.slice Ao61 t871.length co61 : Value).ownBlock ∧ some k_ ≠ (.slice Ao146 t924.length co146 : Value).ownBlock ∧ some k_ ≠ (.slice Ao153 t940.length co153 : Value).ownBlock)) (by (with_reducible repeat (first | apply Kd.R_alloc | apply Kd.R_drewN | apply Kd.R_drew)); exact Kd.R_mono HO_885000.out (fun _ hk => ⟨⟨hk.2.2.2, ⟨hk.1, hk.2.1⟩⟩, hk.2.2.1⟩)) hg hat)
             have n3_ := Aside0.mk (Kd.R_over' (rU HO_885001.out) (Kd.R_typed (rU HO949.out)) (by decide) hg)
             have n4_ := Aside0.mk (blk_grown (g := gb861) (o := .cells #[.slice A0_0 l0_0.length c0_0, .slice A0_1 l0_1.length c0_1] 86 (0, 0)) (bU BK861.out) hg (Kd.R_ne HO949.out BK861.out (by decide)))
             have n5_ := Aside0.mk (blk_grown (g := gb883) (o := .cells #[.slice Ao61 t871.length co61, .slice Ao63 t874.length co63] 86 (0, 0)) (bU BK883.out) hg (Kd.R_ne HO949.out BK883.out (by decide)))
             have n6_ := Aside0.mk (blk_grown (g := gb884) (o := .cells #[.slice Ao65 t877.length co65, .slice Ao67 t880.length co67] 86 (0, 0)) (bU BK884.out) hg (Kd.R_ne HO949.out BK884.out (by decide)))
             have n7_ := Aside0.mk (Kd.R_after (ok := (fun k_ => some k_ ≠ (.slice Ao61 t871.length co61 : Value).ownBlock ∧ some k_ ≠ (.slice Ao65 t877.length co65 : Value).ownBlock ∧ some k_ ≠ (.slice Ao153 t940.length co153 : Value).ownBlock)) (by (with_reducible repeat (first | apply Kd.R_alloc | apply Kd.R_drewN | apply Kd.R_drew)); exact Kd.R_mono HO926.out (fun _ hk => ⟨⟨hk.2.2.1, ⟨hk.2.2.2, hk.1⟩⟩, hk.2.1⟩)) hg hat)
             have n8_ := Aside0.mk (Kd.R_over' (rU HO929.out) (Kd.R_typed (rU HO949.out)) (by decide) hg)
             have n9_ := Aside0.mk (blk_grown (g := gb931) (o := .cells #[.slice Ao153 t940.length co153, .slice Ao155 t943.length co155] 86 (0, 0)) (bU BK931.out) hg (Kd.R_ne HO949.out BK931.out (by decide)))
             have n10_ := Aside0.mk (Kd.R_after (ok := (fun k_ => some k_ ≠ (.slice Ao61 t871.length co61 : Value).ownBlock ∧ some k_ ≠ (.slice Ao65 t877.length co65 : Value).ownBlock ∧ some k_ ≠ (.slice Ao146 t924.length co146 : Value).ownBlock)) (by (with_reducible repeat (first | apply Kd.R_alloc | apply Kd.R_drewN | apply Kd.R_drew)); exact Kd.R_mono HO942.out (fun _ hk => ⟨⟨hk.2.2.1, ⟨hk.2.2.2, hk.1⟩⟩, hk.2.1⟩)) hg hat)
             have n11_ := Aside0.mk (Kd.R_over' (rU HO945.out) (Kd.R_typed (rU HO949.out)) (by decide) hg)
             have n12_ := Aside0.mk (blk_grown (g := gb963) (o := .cells #[.slice none 0 0, .slice none 0 0] 86 (0, 0)) (bU BK963.out) hg (Kd.R_ne HO949.out BK963.out (by decide)))
             have n13_ := Aside0.mk (hb)
             have n14_ := Aside0.mk (ho)
             clear HO_884000
             clear HO_884001
             clear HO_885000
             clear HO_885001
             clear BK861
             clear BK883
             clear BK884
             clear HO926
             clear HO929
             clear BK931
             clear HO942
             clear HO945
             clear BK963
             clear HB
             clear HO949
             have HO_884000 := n0_
             have HO_884001 := n1_
             have HO_885000 := n2_
             have HO_885001 := n3_
             have BK861 := n4_
             have BK883 := n5_
             have BK884 := n6_
             have HO926 := n7_
             have HO929 := n8_
             have BK931 := n9_
             have HO942 := n10_
             have HO945 := n11_
             have BK963 := n12_
             have HB := n13_
             have HO952 := n14_
             clear n0_ n1_ n2_ n3_ n4_ n5_ n6_ n7_ n8_ n9_ n10_ n11_ n12_ n13_ n14_
             clear ho hb hg hat
             refine hK.out _ _ ⟨(blk_cell BK861.out 0).trans rfl, (blk_cell BK861.out 1).trans rfl⟩ (fun hHeld => ?_)
             clear hK K
             refine norm_ (a' := ?_) ?_ ?_
             rotate_left
             ·show Act.put _ (some 109) _ = _
              simp only [Act.put, List.setIfInBounds_toArray, List.set_cons_zero, List.set_cons_succ, i64_w, i32_w]
              rfl
             exact norm_ (by simp only [putAll, Act.put, List.setIfInBounds_toArray, List.set_cons_zero, List.set_cons_succ] <;> rfl) (hJ2_4_11 (v948, v951, gb963) _ ⟨hHeld, (by (with_reducible repeat (first | apply Kd.R_alloc | apply Kd.R_drewN | apply Kd.R_drew)); exact Kd.R_mono HO926.out (fun _ hk => ⟨hk.1.2.2, ⟨hk.2, ⟨hk.1.1, hk.1.2.1⟩⟩⟩)), (rU HO929.out), (by (with_reducible repeat (first | apply Kd.R_alloc | apply Kd.R_drewN | apply Kd.R_drew)); exact Kd.R_mono HO942.out (fun _ hk => ⟨hk.1.2.2, ⟨hk.2, ⟨hk.1.1, hk.1.2.1⟩⟩⟩)), (rU HO945.out), (by (with_reducible repeat (first | apply Kd.R_alloc | apply Kd.R_drewN | apply Kd.R_drew)); exact Kd.R_mono HO952.out (fun _ hk => ⟨hk.2.2.1, ⟨hk.2.2.2, ⟨hk.1, hk.2.1⟩⟩⟩)), (by (with_reducible repeat (first | apply Kd.R_alloc | apply Kd.R_drewN | apply Kd.R_drew)); exact Kd.R_mono HO_884000.out (fun _ hk => ⟨hk.1.2.1, ⟨hk.1.2.2, ⟨hk.2, hk.1.1⟩⟩⟩)), (rU HO_884001.out), (by (with_reducible repeat (first | apply Kd.R_alloc | apply Kd.R_drewN | apply Kd.R_drew)); exact Kd.R_mono HO_885000.out (fun _ hk => ⟨hk.1.2.1, ⟨hk.1.2.2, ⟨hk.2, hk.1.1⟩⟩⟩)), (rU HO_885001.out), (bU BK861.out), (bU BK883.out), (bU BK884.out), (bU BK931.out), (bU BK963.out), GW963.out, GE963.out, NB861_963.out, NB963_861.out, NB883_963.out, NB963_883.out, NB884_963.out, NB963_884.out, NB931_963.out, NB963_931.out, (beU HB.out)⟩)
           ·skip
            rintro ⟨v948, v951⟩ w161 ⟨hS_, h0_, h1_, h2_, h3_, h4_, h5_, h6_, h7_, h8_, h9_, h10_, h11_, h12_, h13_⟩
            have n0_ : Aside0 (Kd.R Kd.string 9 w161 w.heap.size (fun k_ => some k_ ≠ (.slice Ao153 t940.length co153 : Value).ownBlock ∧ some k_ ≠ (v951 : Value).ownBlock ∧ some k_ ≠ (.slice Ao61 t871.length co61 : Value).ownBlock ∧ some k_ ≠ (.slice Ao65 t877.length co65 : Value).ownBlock) (.slice Ao146 t924.length co146) t924) := ⟨h0_⟩
            have n1_ : Aside0 (Kd.R k104 104 w161 w.heap.size (fun k_ => some k_ ≠ (.slice Ao155 t943.length co155 : Value).ownBlock ∧ some k_ ≠ (.slice Ao63 t874.length co63 : Value).ownBlock ∧ some k_ ≠ (.slice Ao67 t880.length co67 : Value).ownBlock) (.slice Ao151 t927.length co151) t927) := ⟨h1_⟩
            have n2_ : Aside0 (Kd.R Kd.string 9 w161 w.heap.size (fun k_ => some k_ ≠ (.slice Ao146 t924.length co146 : Value).ownBlock ∧ some k_ ≠ (v951 : Value).ownBlock ∧ some k_ ≠ (.slice Ao61 t871.length co61 : Value).ownBlock ∧ some k_ ≠ (.slice Ao65 t877.length co65 : Value).ownBlock) (.slice Ao153 t940.length co153) t940) := ⟨h2_⟩
            have n3_ : Aside0 (Kd.R k104 104 w161 w.heap.size (fun k_ => some k_ ≠ (.slice Ao151 t927.length co151 : Value).ownBlock ∧ some k_ ≠ (.slice Ao63 t874.length co63 : Value).ownBlock ∧ some k_ ≠ (.slice Ao67 t880.length co67 : Value).ownBlock) (.slice Ao155 t943.length co155) t943) := ⟨h3_⟩
            have n4_ : Aside0 (Kd.R Kd.string 9 w161 w.heap.size (fun k_ => some k_ ≠ (.slice Ao146 t924.length co146 : Value).ownBlock ∧ some k_ ≠ (.slice Ao153 t940.length co153 : Value).ownBlock ∧ some k_ ≠ (.slice Ao61 t871.length co61 : Value).ownBlock ∧ some k_ ≠ (.slice Ao65 t877.length co65 : Value).ownBlock) v951 y950) := ⟨h4_⟩
            have n5_ : Aside0 (Kd.R Kd.string 9 w161 w.heap.size (fun k_ => some k_ ≠ (.slice Ao146 t924.length co146 : Value).ownBlock ∧ some k_ ≠ (.slice Ao153 t940.length co153 : Value).ownBlock ∧ some k_ ≠ (v951 : Value).ownBlock ∧ some k_ ≠ (.slice Ao65 t877.length co65 : Value).ownBlock) (.slice Ao61 t871.length co61) t871) := ⟨h5_⟩
            have n6_ : Aside0 (Kd.R k104 104 w161 w.heap.size (fun k_ => some k_ ≠ (.slice Ao151 t927.length co151 : Value).ownBlock ∧ some k_ ≠ (.slice Ao155 t943.length co155 : Value).ownBlock ∧ some k_ ≠ (.slice Ao67 t880.length co67 : Value).ownBlock) (.slice Ao63 t874.length co63) t874) := ⟨h6_⟩
            have n7_ : Aside0 (Kd.R Kd.string 9 w161 w.heap.size (fun k_ => some k_ ≠ (.slice Ao146 t924.length co146 : Value).ownBlock ∧ some k_ ≠ (.slice Ao153 t940.length co153 : Value).ownBlock ∧ some k_ ≠ (v951 : Value).ownBlock ∧ some k_ ≠ (.slice Ao61 t871.length co61 : Value).ownBlock) (.slice Ao65 t877.length co65) t877) := ⟨h7_⟩
            have n8_ : Aside0 (Kd.R k104 104 w161 w.heap.size (fun k_ => some k_ ≠ (.slice Ao151 t927.length co151 : Value).ownBlock ∧ some k_ ≠ (.slice Ao155 t943.length co155 : Value).ownBlock ∧ some k_ ≠ (.slice Ao63 t874.length co63 : Value).ownBlock) (.slice Ao67 t880.length co67) t880) := ⟨h8_⟩
            have n9_ : Aside0 (w161.heap[gb861]? = some (.cells #[.slice A0_0 l0_0.length c0_0, .slice A0_1 l0_1.length c0_1] 86 (0, 0))) := ⟨h9_⟩
            have n10_ : Aside0 (w161.heap[gb883]? = some (.cells #[.slice Ao61 t871.length co61, .slice Ao63 t874.length co63] 86 (0, 0))) := ⟨h10_⟩
            have n11_ : Aside0 (w161.heap[gb884]? = some (.cells #[.slice Ao65 t877.length co65, .slice Ao67 t880.length co67] 86 (0, 0))) := ⟨h11_⟩
            have n12_ : Aside0 (w161.heap[gb931]? = some (.cells #[.slice Ao153 t940.length co153, .slice Ao155 t943.length co155] 86 (0, 0))) := ⟨h12_⟩
            have n13_ : Aside0 (Below w.heap.size w w161) := ⟨h13_⟩
            clear HO_884000
            clear HO_884001
            clear HO_885000
            clear HO_885001
            clear HO926
            clear HO929
            clear HO942
            clear HO945
            clear BK861
            clear BK883
            clear BK884
            clear BK931
            clear HB
            clear h0_ h1_ h2_ h3_ h4_ h5_ h6_ h7_ h8_ h9_ h10_ h11_ h12_ h13_
            have HO926 := n0_
            have HO929 := n1_
            have HO942 := n2_
            have HO945 := n3_
            have HO952 := n4_
            have HO_884000 := n5_
            have HO_884001 := n6_
            have HO_885000 := n7_
            have HO_885001 := n8_
            have BK861 := n9_
            have BK883 := n10_
            have BK884 := n11_
            have BK931 := n12_
            have HB := n13_
            clear n0_ n1_ n2_ n3_ n4_ n5_ n6_ n7_ n8_ n9_ n10_ n11_ n12_ n13_
            have hHeld : w161.cell? ⟨gb861, 0, none⟩ = some (.slice A0_0 l0_0.length c0_0) ∧ w161.cell? ⟨gb861, 1, none⟩ = some (.slice A0_1 l0_1.length c0_1) := hS_
            refine norm_ (a' := ?_) ?_ ?_
            rotate_left
            ·simp only [putAll, Act.put, List.setIfInBounds_toArray, List.set_cons_zero, List.set_cons_succ]
             rfl
            refine two_ (i := 6) (j := 11) (Ni := some 111) (Nj := some 18) #[true, true, true, true, true, true, true, false, false, false, false, false, false, false] #[true, true, true, true, true, true, false, false, false, false, false, true, false, false] rfl rfl rfl rfl (two_of HT_.out (by kernel_rfl)) (by decide) (by decide) (fun K hK => ?_) (fun K hK => ?_)
            ·skip
             refine Kd.R_append_rows_step Kd.string (w0 := w) w.heap.size (by rfl) (.tmp 109) (.tmp 110) 83 9 (.string ⟨#[]⟩) 16 rfl Try.underlying83 info9 rfl (by decide) (by omega) v951 y950 l3 _ _ _ (fun k_ => some k_ ≠ (.slice Ao61 t871.length co61 : Value).ownBlock ∧ some k_ ≠ (.slice Ao65 t877.length co65 : Value).ownBlock ∧ some k_ ≠ (.slice Ao146 t924.length co146 : Value).ownBlock ∧ some k_ ≠ (.slice Ao153 t940.length co153 : Value).ownBlock) (fun _ => False) rfl rfl ?aO ?aR (fun _ _ h => h) (fun _ h => h.elim) ?aF ?aB ?aS ?aL ?_
             (case aR => repeat (first | exact (Kd.C_below HR3.out HB.out) | (with_reducible refine Kd.C_alloc ?_ _) | (with_reducible refine Kd.C_drewN ?_ _) | (with_reducible refine Kd.C_drew ?_)))
             (case aB => exact (by repeat (first | exact beU HB.out | refine below_set ?_ (Aside0.out ‹_›) | apply below_alloc | apply pw_below_drewN | apply below_drew1)))
             (case aF => exact (fun k_ hk => ⟨Kd.fresh' (Kd.R_lt (rU HO_884000.out)) k_ hk, Kd.fresh' (Kd.R_lt (rU HO_885000.out)) k_ hk, Kd.fresh' (Kd.R_lt (rU HO926.out)) k_ hk, Kd.fresh' (Kd.R_lt (rU HO942.out)) k_ hk⟩))
             (case aO => exact (by (with_reducible repeat (first | apply Kd.R_alloc | apply Kd.R_drewN | apply Kd.R_drew)); exact Kd.R_mono HO952.out (fun _ hk => ⟨hk.2.2.1, ⟨hk.2.2.2, ⟨hk.1, hk.2.1⟩⟩⟩)))
             (case aS => exact (below_size (by repeat (first | exact beU HB.out | refine below_set ?_ (Aside0.out ‹_›) | apply below_alloc | apply pw_below_drewN | apply below_drew1))))
             (case aL => have := LMc133.out; omega)
             intro v954 w162 ho hb hg hat
             rw [← Ny953.out] at ho
             have n0_ := Aside0.mk (Kd.R_after (ok := (fun k_ => some k_ ≠ (.slice Ao65 t877.length co65 : Value).ownBlock ∧ some k_ ≠ (.slice Ao146 t924.length co146 : Value).ownBlock ∧ some k_ ≠ (.slice Ao153 t940.length co153 : Value).ownBlock)) (by (with_reducible repeat (first | apply Kd.R_alloc | apply Kd.R_drewN | apply Kd.R_drew)); exact Kd.R_mono HO_884000.out (fun _ hk => ⟨⟨hk.2.2.2, ⟨hk.1, hk.2.1⟩⟩, hk.2.2.1⟩)) hg hat)
             have n1_ := Aside0.mk (Kd.R_over' (rU HO_884001.out) (Kd.R_typed (rU HO952.out)) (by decide) hg)
             have n2_ := Aside0.mk (Kd.R_after (ok := (fun k_ => some k_ ≠ (.slice Ao61 t871.length co61 : Value).ownBlock ∧ some k_ ≠ (.slice Ao146 t924.length co146 : Value).ownBlock ∧ some k_ ≠ (.slice Ao153 t940.length co153 : Value).ownBlock)) (by (with_reducible repeat (first | apply Kd.R_alloc | apply Kd.R_drewN | apply Kd.R_drew)); exact Kd.R_mono HO_885000.out (fun _ hk => ⟨⟨hk.2.2.2, ⟨hk.1, hk.2.1⟩⟩, hk.2.2.1⟩)) hg hat)
             have n3_ := Aside0.mk (Kd.R_over' (rU HO_885001.out) (Kd.R_typed (rU HO952.out)) (by decide) hg)
             have n4_ := Aside0.mk (blk_grown (g := gb861) (o := .cells #[.slice A0_0 l0_0.length c0_0, .slice A0_1 l0_1.length c0_1] 86 (0, 0)) (bU BK861.out) hg (Kd.R_ne HO952.out BK861.out (by decide)))
             have n5_ := Aside0.mk (blk_grown (g := gb883) (o := .cells #[.slice Ao61 t871.length co61, .slice Ao63 t874.length co63] 86 (0, 0)) (bU BK883.out) hg (Kd.R_ne HO952.out BK883.out (by decide)))
             have n6_ := Aside0.mk (blk_grown (g := gb884) (o := .cells #[.slice Ao65 t877.length co65, .slice Ao67 t880.length co67] 86 (0, 0)) (bU BK884.out) hg (Kd.R_ne HO952.out BK884.out (by decide)))
             have n7_ := Aside0.mk (Kd.R_after (ok := (fun k_ => some k_ ≠ (.slice Ao61 t871.length co61 : Value).ownBlock ∧ some k_ ≠ (.slice Ao65 t877.length co65 : Value).ownBlock ∧ some k_ ≠ (.slice Ao153 t940.length co153 : Value).ownBlock)) (by (with_reducible repeat (first | apply Kd.R_alloc | apply Kd.R_drewN | apply Kd.R_drew)); exact Kd.R_mono HO926.out (fun _ hk => ⟨⟨hk.2.2.1, ⟨hk.2.2.2, hk.1⟩⟩, hk.2.1⟩)) hg hat)
             have n8_ := Aside0.mk (Kd.R_over' (rU HO929.out) (Kd.R_typed (rU HO952.out)) (by decide) hg)
             have n9_ := Aside0.mk (blk_grown (g := gb931) (o := .cells #[.slice Ao153 t940.length co153, .slice Ao155 t943.length co155] 86 (0, 0)) (bU BK931.out) hg (Kd.R_ne HO952.out BK931.out (by decide)))
             have n10_ := Aside0.mk (Kd.R_after (ok := (fun k_ => some k_ ≠ (.slice Ao61 t871.length co61 : Value).ownBlock ∧ some k_ ≠ (.slice Ao65 t877.length co65 : Value).ownBlock ∧ some k_ ≠ (.slice Ao146 t924.length co146 : Value).ownBlock)) (by (with_reducible repeat (first | apply Kd.R_alloc | apply Kd.R_drewN | apply Kd.R_drew)); exact Kd.R_mono HO942.out (fun _ hk => ⟨⟨hk.2.2.1, ⟨hk.2.2.2, hk.1⟩⟩, hk.2.1⟩)) hg hat)
             have n11_ := Aside0.mk (Kd.R_over' (rU HO945.out) (Kd.R_typed (rU HO952.out)) (by decide) hg)
             have n12_ := Aside0.mk (hb)
             have n13_ := Aside0.mk (ho)
             clear HO_884000
             clear HO_884001
             clear HO_885000
             clear HO_885001
             clear BK861
             clear BK883
             clear BK884
             clear HO926
             clear HO929
             clear BK931
             clear HO942
             clear HO945
             clear HB
             clear HO952
             have HO_884000 := n0_
             have HO_884001 := n1_
             have HO_885000 := n2_
             have HO_885001 := n3_
             have BK861 := n4_
             have BK883 := n5_
             have BK884 := n6_
             have HO926 := n7_
             have HO929 := n8_
             have BK931 := n9_
             have HO942 := n10_
             have HO945 := n11_
             have HB := n12_
             have HO955 := n13_
             clear n0_ n1_ n2_ n3_ n4_ n5_ n6_ n7_ n8_ n9_ n10_ n11_ n12_ n13_
             clear ho hb hg hat
             refine hK.out _ _ ⟨(blk_cell BK861.out 0).trans rfl, (blk_cell BK861.out 1).trans rfl⟩ (fun hHeld => ?_)
             clear hK K
             refine norm_ (a' := ?_) ?_ ?_
             rotate_left
             ·show Act.put _ (some 111) _ = _
              simp only [Act.put, List.setIfInBounds_toArray, List.set_cons_zero, List.set_cons_succ, i64_w, i32_w]
              rfl
             exact norm_ (by simp only [putAll, Act.put, List.setIfInBounds_toArray, List.set_cons_zero, List.set_cons_succ] <;> rfl) (hJ2_4_6 (v948, v951, v954) _ ⟨hHeld, (by (with_reducible repeat (first | apply Kd.R_alloc | apply Kd.R_drewN | apply Kd.R_drew)); exact Kd.R_mono HO926.out (fun _ hk => ⟨hk.1.2.2, ⟨hk.2, ⟨hk.1.1, hk.1.2.1⟩⟩⟩)), (rU HO929.out), (by (with_reducible repeat (first | apply Kd.R_alloc | apply Kd.R_drewN | apply Kd.R_drew)); exact Kd.R_mono HO942.out (fun _ hk => ⟨hk.1.2.2, ⟨hk.2, ⟨hk.1.1, hk.1.2.1⟩⟩⟩)), (rU HO945.out), (by (with_reducible repeat (first | apply Kd.R_alloc | apply Kd.R_drewN | apply Kd.R_drew)); exact Kd.R_mono HO955.out (fun _ hk => ⟨hk.2.2.1, ⟨hk.2.2.2, ⟨hk.1, hk.2.1⟩⟩⟩)), (by (with_reducible repeat (first | apply Kd.R_alloc | apply Kd.R_drewN | apply Kd.R_drew)); exact Kd.R_mono HO_884000.out (fun _ hk => ⟨hk.1.2.1, ⟨hk.1.2.2, ⟨hk.2, hk.1.1⟩⟩⟩)), (rU HO_884001.out), (by (with_reducible repeat (first | apply Kd.R_alloc | apply Kd.R_drewN | apply Kd.R_drew)); exact Kd.R_mono HO_885000.out (fun _ hk => ⟨hk.1.2.1, ⟨hk.1.2.2, ⟨hk.2, hk.1.1⟩⟩⟩)), (rU HO_885001.out), (bU BK861.out), (bU BK883.out), (bU BK884.out), (bU BK931.out), (beU HB.out)⟩)
            ·skip
             refine box_step ?hg (N := 18) ?hd (cs := #[.slice none 0 0, .slice none 0 0]) (t := 86) ?hr ?_; (case hd => rfl); (case hg => rfl); (case hr => first | (go_simp; done) | (go_simp; rfl))
             intro gb963 hg w162 hbox hb
             have BK963 := Aside0.mk (hbox)
             have GW963 := Aside0.mk ((by first | exact geU HB.out hg | (rw [hg]; exact below_size (by repeat (first | exact beU HB.out | refine below_set ?_ (Aside0.out ‹_›) | apply below_alloc | apply pw_below_drewN | apply below_drew1)))))
             have GE963 := Aside0.mk ((by first | exact geU HB.out hg | (rw [hg]; exact below_size (by repeat (first | exact beU HB.out | refine below_set ?_ (Aside0.out ‹_›) | apply below_alloc | apply pw_below_drewN | apply below_drew1)))))
             have NB861_963 := Aside0.mk ((neU BK861.out hg))
             have NB963_861 := Aside0.mk ((enU BK861.out hg))
             have NB883_963 := Aside0.mk ((neU BK883.out hg))
             have NB963_883 := Aside0.mk ((enU BK883.out hg))
             have NB884_963 := Aside0.mk ((neU BK884.out hg))
             have NB963_884 := Aside0.mk ((enU BK884.out hg))
             have NB931_963 := Aside0.mk ((neU BK931.out hg))
             have NB963_931 := Aside0.mk ((enU BK931.out hg))
             replace HO_884000 := Aside0.mk (Kd.R_below (rU HO_884000.out) hb)
             replace HO_884001 := Aside0.mk (Kd.R_below (rU HO_884001.out) hb)
             replace HO_885000 := Aside0.mk (Kd.R_below (rU HO_885000.out) hb)
             replace HO_885001 := Aside0.mk (Kd.R_below (rU HO_885001.out) hb)
             replace HO926 := Aside0.mk (Kd.R_below (rU HO926.out) hb)
             replace HO929 := Aside0.mk (Kd.R_below (rU HO929.out) hb)
             replace HO942 := Aside0.mk (Kd.R_below (rU HO942.out) hb)
             replace HO945 := Aside0.mk (Kd.R_below (rU HO945.out) hb)
             replace HO952 := Aside0.mk (Kd.R_below (rU HO952.out) hb)
             replace BK861 := Aside0.mk (blk_below (bU BK861.out) hb)
             replace BK883 := Aside0.mk (blk_below (bU BK883.out) hb)
             replace BK884 := Aside0.mk (blk_below (bU BK884.out) hb)
             replace BK931 := Aside0.mk (blk_below (bU BK931.out) hb)
             replace HB := Aside0.mk (below_step (by repeat (first | exact beU HB.out | refine below_set ?_ (Aside0.out ‹_›) | apply below_alloc | apply pw_below_drewN | apply below_drew1)) hb)
             clear hb hbox hg
             refine hK.out _ _ ⟨(blk_cell BK861.out 0).trans rfl, (blk_cell BK861.out 1).trans rfl⟩ (fun hHeld => ?_)
             clear hK K
             refine norm_ (a' := ?_) ?_ ?_
             rotate_left
             ·show Act.put _ (some 18) _ = _
              simp only [Act.put, List.setIfInBounds_toArray, List.set_cons_zero, List.set_cons_succ, i64_w, i32_w]
              rfl
             exact norm_ (by simp only [putAll, Act.put, List.setIfInBounds_toArray, List.set_cons_zero, List.set_cons_succ] <;> rfl) (hJ2_4_11 (v948, v951, gb963) _ ⟨hHeld, (rU HO926.out), (rU HO929.out), (rU HO942.out), (rU HO945.out), (rU HO952.out), (rU HO_884000.out), (rU HO_884001.out), (rU HO_885000.out), (rU HO_885001.out), (bU BK861.out), (bU BK883.out), (bU BK884.out), (bU BK931.out), (bU BK963.out), GW963.out, GE963.out, NB861_963.out, NB963_861.out, NB883_963.out, NB963_883.out, NB884_963.out, NB963_884.out, NB931_963.out, NB963_931.out, (beU HB.out)⟩)
          ·skip
           rintro ⟨v948, v951, gb963⟩ w162 ⟨hS_, h0_, h1_, h2_, h3_, h4_, h5_, h6_, h7_, h8_, h9_, h10_, h11_, h12_, h13_, h14_, h15_, h16_, h17_, h18_, h19_, h20_, h21_, h22_, h23_, h24_⟩
           have n0_ : Aside0 (Kd.R Kd.string 9 w162 w.heap.size (fun k_ => some k_ ≠ (.slice Ao153 t940.length co153 : Value).ownBlock ∧ some k_ ≠ (v951 : Value).ownBlock ∧ some k_ ≠ (.slice Ao61 t871.length co61 : Value).ownBlock ∧ some k_ ≠ (.slice Ao65 t877.length co65 : Value).ownBlock) (.slice Ao146 t924.length co146) t924) := ⟨h0_⟩
           have n1_ : Aside0 (Kd.R k104 104 w162 w.heap.size (fun k_ => some k_ ≠ (.slice Ao155 t943.length co155 : Value).ownBlock ∧ some k_ ≠ (.slice Ao63 t874.length co63 : Value).ownBlock ∧ some k_ ≠ (.slice Ao67 t880.length co67 : Value).ownBlock) (.slice Ao151 t927.length co151) t927) := ⟨h1_⟩
           have n2_ : Aside0 (Kd.R Kd.string 9 w162 w.heap.size (fun k_ => some k_ ≠ (.slice Ao146 t924.length co146 : Value).ownBlock ∧ some k_ ≠ (v951 : Value).ownBlock ∧ some k_ ≠ (.slice Ao61 t871.length co61 : Value).ownBlock ∧ some k_ ≠ (.slice Ao65 t877.length co65 : Value).ownBlock) (.slice Ao153 t940.length co153) t940) := ⟨h2_⟩
           have n3_ : Aside0 (Kd.R k104 104 w162 w.heap.size (fun k_ => some k_ ≠ (.slice Ao151 t927.length co151 : Value).ownBlock ∧ some k_ ≠ (.slice Ao63 t874.length co63 : Value).ownBlock ∧ some k_ ≠ (.slice Ao67 t880.length co67 : Value).ownBlock) (.slice Ao155 t943.length co155) t943) := ⟨h3_⟩
           have n4_ : Aside0 (Kd.R Kd.string 9 w162 w.heap.size (fun k_ => some k_ ≠ (.slice Ao146 t924.length co146 : Value).ownBlock ∧ some k_ ≠ (.slice Ao153 t940.length co153 : Value).ownBlock ∧ some k_ ≠ (.slice Ao61 t871.length co61 : Value).ownBlock ∧ some k_ ≠ (.slice Ao65 t877.length co65 : Value).ownBlock) v951 y950) := ⟨h4_⟩
           have n5_ : Aside0 (Kd.R Kd.string 9 w162 w.heap.size (fun k_ => some k_ ≠ (.slice Ao146 t924.length co146 : Value).ownBlock ∧ some k_ ≠ (.slice Ao153 t940.length co153 : Value).ownBlock ∧ some k_ ≠ (v951 : Value).ownBlock ∧ some k_ ≠ (.slice Ao65 t877.length co65 : Value).ownBlock) (.slice Ao61 t871.length co61) t871) := ⟨h5_⟩
           have n6_ : Aside0 (Kd.R k104 104 w162 w.heap.size (fun k_ => some k_ ≠ (.slice Ao151 t927.length co151 : Value).ownBlock ∧ some k_ ≠ (.slice Ao155 t943.length co155 : Value).ownBlock ∧ some k_ ≠ (.slice Ao67 t880.length co67 : Value).ownBlock) (.slice Ao63 t874.length co63) t874) := ⟨h6_⟩
           have n7_ : Aside0 (Kd.R Kd.string 9 w162 w.heap.size (fun k_ => some k_ ≠ (.slice Ao146 t924.length co146 : Value).ownBlock ∧ some k_ ≠ (.slice Ao153 t940.length co153 : Value).ownBlock ∧ some k_ ≠ (v951 : Value).ownBlock ∧ some k_ ≠ (.slice Ao61 t871.length co61 : Value).ownBlock) (.slice Ao65 t877.length co65) t877) := ⟨h7_⟩
           have n8_ : Aside0 (Kd.R k104 104 w162 w.heap.size (fun k_ => some k_ ≠ (.slice Ao151 t927.length co151 : Value).ownBlock ∧ some k_ ≠ (.slice Ao155 t943.length co155 : Value).ownBlock ∧ some k_ ≠ (.slice Ao63 t874.length co63 : Value).ownBlock) (.slice Ao67 t880.length co67) t880) := ⟨h8_⟩
           have n9_ : Aside0 (w162.heap[gb861]? = some (.cells #[.slice A0_0 l0_0.length c0_0, .slice A0_1 l0_1.length c0_1] 86 (0, 0))) := ⟨h9_⟩
           have n10_ : Aside0 (w162.heap[gb883]? = some (.cells #[.slice Ao61 t871.length co61, .slice Ao63 t874.length co63] 86 (0, 0))) := ⟨h10_⟩
           have n11_ : Aside0 (w162.heap[gb884]? = some (.cells #[.slice Ao65 t877.length co65, .slice Ao67 t880.length co67] 86 (0, 0))) := ⟨h11_⟩
           have n12_ : Aside0 (w162.heap[gb931]? = some (.cells #[.slice Ao153 t940.length co153, .slice Ao155 t943.length co155] 86 (0, 0))) := ⟨h12_⟩
           have n13_ : Aside0 (w162.heap[gb963]? = some (.cells #[.slice none 0 0, .slice none 0 0] 86 (0, 0))) := ⟨h13_⟩
           have n14_ : Aside0 (w.heap.size ≤ gb963) := ⟨h14_⟩
           have n15_ : Aside0 (w.heap.size ≤ gb963) := ⟨h15_⟩
           have n16_ : Aside0 (gb861 ≠ gb963) := ⟨h16_⟩
           have n17_ : Aside0 (gb963 ≠ gb861) := ⟨h17_⟩
           have n18_ : Aside0 (gb883 ≠ gb963) := ⟨h18_⟩
           have n19_ : Aside0 (gb963 ≠ gb883) := ⟨h19_⟩
           have n20_ : Aside0 (gb884 ≠ gb963) := ⟨h20_⟩
           have n21_ : Aside0 (gb963 ≠ gb884) := ⟨h21_⟩
           have n22_ : Aside0 (gb931 ≠ gb963) := ⟨h22_⟩
           have n23_ : Aside0 (gb963 ≠ gb931) := ⟨h23_⟩
           have n24_ : Aside0 (Below w.heap.size w w162) := ⟨h24_⟩
           clear HO_884000
           clear HO_884001
           clear HO_885000
           clear HO_885001
           clear HO926
           clear HO929
           clear HO942
           clear HO945
           clear BK861
           clear BK883
           clear BK884
           clear BK931
           clear HB
           clear h0_ h1_ h2_ h3_ h4_ h5_ h6_ h7_ h8_ h9_ h10_ h11_ h12_ h13_ h14_ h15_ h16_ h17_ h18_ h19_ h20_ h21_ h22_ h23_ h24_
           have HO926 := n0_
           have HO929 := n1_
           have HO942 := n2_
           have HO945 := n3_
           have HO952 := n4_
           have HO_884000 := n5_
           have HO_884001 := n6_
           have HO_885000 := n7_
           have HO_885001 := n8_
           have BK861 := n9_
           have BK883 := n10_
           have BK884 := n11_
           have BK931 := n12_
           have BK963 := n13_
           have GW963 := n14_
           have GE963 := n15_
           have NB861_963 := n16_
           have NB963_861 := n17_
           have NB883_963 := n18_
           have NB963_883 := n19_
           have NB884_963 := n20_
           have NB963_884 := n21_
           have NB931_963 := n22_
           have NB963_931 := n23_
           have HB := n24_
           clear n0_ n1_ n2_ n3_ n4_ n5_ n6_ n7_ n8_ n9_ n10_ n11_ n12_ n13_ n14_ n15_ n16_ n17_ n18_ n19_ n20_ n21_ n22_ n23_ n24_
           have hHeld : w162.cell? ⟨gb861, 0, none⟩ = some (.slice A0_0 l0_0.length c0_0) ∧ w162.cell? ⟨gb861, 1, none⟩ = some (.slice A0_1 l0_1.length c0_1) := hS_
           refine norm_ (a' := ?_) ?_ ?_
           rotate_left
           ·simp only [putAll, Act.put, List.setIfInBounds_toArray, List.set_cons_zero, List.set_cons_succ]
            rfl
           refine one_ (i := 6) (N := some 111) #[true, true, true, true, true, true, true, false, false, false, false, true, false, false] rfl rfl (one_of HT_.out (by kernel_rfl)) (by decide) (fun K hK => ?_)
           refine Kd.R_append_rows_step Kd.string (w0 := w) w.heap.size (by rfl) (.tmp 109) (.tmp 110) 83 9 (.string ⟨#[]⟩) 16 rfl Try.underlying83 info9 rfl (by decide) (by omega) v951 y950 l3 _ _ _ (fun k_ => some k_ ≠ (.slice Ao61 t871.length co61 : Value).ownBlock ∧ some k_ ≠ (.slice Ao65 t877.length co65 : Value).ownBlock ∧ some k_ ≠ (.slice Ao146 t924.length co146 : Value).ownBlock ∧ some k_ ≠ (.slice Ao153 t940.length co153 : Value).ownBlock) (fun _ => False) rfl rfl ?aO ?aR (fun _ _ h => h) (fun _ h => h.elim) ?aF ?aB ?aS ?aL ?_
           (case aR => repeat (first | exact (Kd.C_below HR3.out HB.out) | (with_reducible refine Kd.C_alloc ?_ _) | (with_reducible refine Kd.C_drewN ?_ _) | (with_reducible refine Kd.C_drew ?_)))
           (case aB => exact (by repeat (first | exact beU HB.out | refine below_set ?_ (Aside0.out ‹_›) | apply below_alloc | apply pw_below_drewN | apply below_drew1)))
           (case aF => exact (fun k_ hk => ⟨Kd.fresh' (Kd.R_lt (rU HO_884000.out)) k_ hk, Kd.fresh' (Kd.R_lt (rU HO_885000.out)) k_ hk, Kd.fresh' (Kd.R_lt (rU HO926.out)) k_ hk, Kd.fresh' (Kd.R_lt (rU HO942.out)) k_ hk⟩))
           (case aO => exact (by (with_reducible repeat (first | apply Kd.R_alloc | apply Kd.R_drewN | apply Kd.R_drew)); exact Kd.R_mono HO952.out (fun _ hk => ⟨hk.2.2.1, ⟨hk.2.2.2, ⟨hk.1, hk.2.1⟩⟩⟩)))
           (case aS => exact (below_size (by repeat (first | exact beU HB.out | refine below_set ?_ (Aside0.out ‹_›) | apply below_alloc | apply pw_below_drewN | apply below_drew1))))
           (case aL => have := LMc133.out; omega)
           intro v954 w163 ho hb hg hat
           rw [← Ny953.out] at ho
           have n0_ := Aside0.mk (Kd.R_after (ok := (fun k_ => some k_ ≠ (.slice Ao65 t877.length co65 : Value).ownBlock ∧ some k_ ≠ (.slice Ao146 t924.length co146 : Value).ownBlock ∧ some k_ ≠ (.slice Ao153 t940.length co153 : Value).ownBlock)) (by (with_reducible repeat (first | apply Kd.R_alloc | apply Kd.R_drewN | apply Kd.R_drew)); exact Kd.R_mono HO_884000.out (fun _ hk => ⟨⟨hk.2.2.2, ⟨hk.1, hk.2.1⟩⟩, hk.2.2.1⟩)) hg hat)
           have n1_ := Aside0.mk (Kd.R_over' (rU HO_884001.out) (Kd.R_typed (rU HO952.out)) (by decide) hg)
           have n2_ := Aside0.mk (Kd.R_after (ok := (fun k_ => some k_ ≠ (.slice Ao61 t871.length co61 : Value).ownBlock ∧ some k_ ≠ (.slice Ao146 t924.length co146 : Value).ownBlock ∧ some k_ ≠ (.slice Ao153 t940.length co153 : Value).ownBlock)) (by (with_reducible repeat (first | apply Kd.R_alloc | apply Kd.R_drewN | apply Kd.R_drew)); exact Kd.R_mono HO_885000.out (fun _ hk => ⟨⟨hk.2.2.2, ⟨hk.1, hk.2.1⟩⟩, hk.2.2.1⟩)) hg hat)
           have n3_ := Aside0.mk (Kd.R_over' (rU HO_885001.out) (Kd.R_typed (rU HO952.out)) (by decide) hg)
           have n4_ := Aside0.mk (blk_grown (g := gb861) (o := .cells #[.slice A0_0 l0_0.length c0_0, .slice A0_1 l0_1.length c0_1] 86 (0, 0)) (bU BK861.out) hg (Kd.R_ne HO952.out BK861.out (by decide)))
           have n5_ := Aside0.mk (blk_grown (g := gb883) (o := .cells #[.slice Ao61 t871.length co61, .slice Ao63 t874.length co63] 86 (0, 0)) (bU BK883.out) hg (Kd.R_ne HO952.out BK883.out (by decide)))
           have n6_ := Aside0.mk (blk_grown (g := gb884) (o := .cells #[.slice Ao65 t877.length co65, .slice Ao67 t880.length co67] 86 (0, 0)) (bU BK884.out) hg (Kd.R_ne HO952.out BK884.out (by decide)))
           have n7_ := Aside0.mk (Kd.R_after (ok := (fun k_ => some k_ ≠ (.slice Ao61 t871.length co61 : Value).ownBlock ∧ some k_ ≠ (.slice Ao65 t877.length co65 : Value).ownBlock ∧ some k_ ≠ (.slice Ao153 t940.length co153 : Value).ownBlock)) (by (with_reducible repeat (first | apply Kd.R_alloc | apply Kd.R_drewN | apply Kd.R_drew)); exact Kd.R_mono HO926.out (fun _ hk => ⟨⟨hk.2.2.1, ⟨hk.2.2.2, hk.1⟩⟩, hk.2.1⟩)) hg hat)
           have n8_ := Aside0.mk (Kd.R_over' (rU HO929.out) (Kd.R_typed (rU HO952.out)) (by decide) hg)
           have n9_ := Aside0.mk (blk_grown (g := gb931) (o := .cells #[.slice Ao153 t940.length co153, .slice Ao155 t943.length co155] 86 (0, 0)) (bU BK931.out) hg (Kd.R_ne HO952.out BK931.out (by decide)))
           have n10_ := Aside0.mk (Kd.R_after (ok := (fun k_ => some k_ ≠ (.slice Ao61 t871.length co61 : Value).ownBlock ∧ some k_ ≠ (.slice Ao65 t877.length co65 : Value).ownBlock ∧ some k_ ≠ (.slice Ao146 t924.length co146 : Value).ownBlock)) (by (with_reducible repeat (first | apply Kd.R_alloc | apply Kd.R_drewN | apply Kd.R_drew)); exact Kd.R_mono HO942.out (fun _ hk => ⟨⟨hk.2.2.1, ⟨hk.2.2.2, hk.1⟩⟩, hk.2.1⟩)) hg hat)
           have n11_ := Aside0.mk (Kd.R_over' (rU HO945.out) (Kd.R_typed (rU HO952.out)) (by decide) hg)
           have n12_ := Aside0.mk (blk_grown (g := gb963) (o := .cells #[.slice none 0 0, .slice none 0 0] 86 (0, 0)) (bU BK963.out) hg (Kd.R_ne HO952.out BK963.out (by decide)))
           have n13_ := Aside0.mk (hb)
           have n14_ := Aside0.mk (ho)
           clear HO_884000
           clear HO_884001
           clear HO_885000
           clear HO_885001
           clear BK861
           clear BK883
           clear BK884
           clear HO926
           clear HO929
           clear BK931
           clear HO942
           clear HO945
           clear BK963
           clear HB
           clear HO952
           have HO_884000 := n0_
           have HO_884001 := n1_
           have HO_885000 := n2_
           have HO_885001 := n3_
           have BK861 := n4_
           have BK883 := n5_
           have BK884 := n6_
           have HO926 := n7_
           have HO929 := n8_
           have BK931 := n9_
           have HO942 := n10_
           have HO945 := n11_
           have BK963 := n12_
           have HB := n13_
           have HO955 := n14_
           clear n0_ n1_ n2_ n3_ n4_ n5_ n6_ n7_ n8_ n9_ n10_ n11_ n12_ n13_ n14_
           clear ho hb hg hat
           refine hK.out _ _ ⟨(blk_cell BK861.out 0).trans rfl, (blk_cell BK861.out 1).trans rfl⟩ (fun hHeld => ?_)
           clear hK K
           refine norm_ (a' := ?_) ?_ ?_
           rotate_left
           ·show Act.put _ (some 111) _ = _
            simp only [Act.put, List.setIfInBounds_toArray, List.set_cons_zero, List.set_cons_succ, i64_w, i32_w]
            rfl
           exact norm_ (by simp only [putAll, Act.put, List.setIfInBounds_toArray, List.set_cons_zero, List.set_cons_succ] <;> rfl) (hJ2_4_6_11 (v948, v951, v954, gb963) _ ⟨hHeld, (by (with_reducible repeat (first | apply Kd.R_alloc | apply Kd.R_drewN | apply Kd.R_drew)); exact Kd.R_mono HO926.out (fun _ hk => ⟨hk.1.2.2, ⟨hk.2, ⟨hk.1.1, hk.1.2.1⟩⟩⟩)), (rU HO929.out), (by (with_reducible repeat (first | apply Kd.R_alloc | apply Kd.R_drewN | apply Kd.R_drew)); exact Kd.R_mono HO942.out (fun _ hk => ⟨hk.1.2.2, ⟨hk.2, ⟨hk.1.1, hk.1.2.1⟩⟩⟩)), (rU HO945.out), (by (with_reducible repeat (first | apply Kd.R_alloc | apply Kd.R_drewN | apply Kd.R_drew)); exact Kd.R_mono HO955.out (fun _ hk => ⟨hk.2.2.1, ⟨hk.2.2.2, ⟨hk.1, hk.2.1⟩⟩⟩)), (by (with_reducible repeat (first | apply Kd.R_alloc | apply Kd.R_drewN | apply Kd.R_drew)); exact Kd.R_mono HO_884000.out (fun _ hk => ⟨hk.1.2.1, ⟨hk.1.2.2, ⟨hk.2, hk.1.1⟩⟩⟩)), (rU HO_884001.out), (by (with_reducible repeat (first | apply Kd.R_alloc | apply Kd.R_drewN | apply Kd.R_drew)); exact Kd.R_mono HO_885000.out (fun _ hk => ⟨hk.1.2.1, ⟨hk.1.2.2, ⟨hk.2, hk.1.1⟩⟩⟩)), (rU HO_885001.out), (bU BK861.out), (bU BK883.out), (bU BK884.out), (bU BK931.out), (bU BK963.out), GW963.out, GE963.out, NB861_963.out, NB963_861.out, NB883_963.out, NB963_883.out, NB884_963.out, NB963_884.out, NB931_963.out, NB963_931.out, (beU HB.out)⟩)
         ·skip
          rintro ⟨v948, v951, v954⟩ w162 ⟨hS_, h0_, h1_, h2_, h3_, h4_, h5_, h6_, h7_, h8_, h9_, h10_, h11_, h12_, h13_⟩
          have n0_ : Aside0 (Kd.R Kd.string 9 w162 w.heap.size (fun k_ => some k_ ≠ (.slice Ao153 t940.length co153 : Value).ownBlock ∧ some k_ ≠ (v954 : Value).ownBlock ∧ some k_ ≠ (.slice Ao61 t871.length co61 : Value).ownBlock ∧ some k_ ≠ (.slice Ao65 t877.length co65 : Value).ownBlock) (.slice Ao146 t924.length co146) t924) := ⟨h0_⟩
          have n1_ : Aside0 (Kd.R k104 104 w162 w.heap.size (fun k_ => some k_ ≠ (.slice Ao155 t943.length co155 : Value).ownBlock ∧ some k_ ≠ (.slice Ao63 t874.length co63 : Value).ownBlock ∧ some k_ ≠ (.slice Ao67 t880.length co67 : Value).ownBlock) (.slice Ao151 t927.length co151) t927) := ⟨h1_⟩
          have n2_ : Aside0 (Kd.R Kd.string 9 w162 w.heap.size (fun k_ => some k_ ≠ (.slice Ao146 t924.length co146 : Value).ownBlock ∧ some k_ ≠ (v954 : Value).ownBlock ∧ some k_ ≠ (.slice Ao61 t871.length co61 : Value).ownBlock ∧ some k_ ≠ (.slice Ao65 t877.length co65 : Value).ownBlock) (.slice Ao153 t940.length co153) t940) := ⟨h2_⟩
          have n3_ : Aside0 (Kd.R k104 104 w162 w.heap.size (fun k_ => some k_ ≠ (.slice Ao151 t927.length co151 : Value).ownBlock ∧ some k_ ≠ (.slice Ao63 t874.length co63 : Value).ownBlock ∧ some k_ ≠ (.slice Ao67 t880.length co67 : Value).ownBlock) (.slice Ao155 t943.length co155) t943) := ⟨h3_⟩
          have n4_ : Aside0 (Kd.R Kd.string 9 w162 w.heap.size (fun k_ => some k_ ≠ (.slice Ao146 t924.length co146 : Value).ownBlock ∧ some k_ ≠ (.slice Ao153 t940.length co153 : Value).ownBlock ∧ some k_ ≠ (.slice Ao61 t871.length co61 : Value).ownBlock ∧ some k_ ≠ (.slice Ao65 t877.length co65 : Value).ownBlock) v954 y953) := ⟨h4_⟩
          have n5_ : Aside0 (Kd.R Kd.string 9 w162 w.heap.size (fun k_ => some k_ ≠ (.slice Ao146 t924.length co146 : Value).ownBlock ∧ some k_ ≠ (.slice Ao153 t940.length co153 : Value).ownBlock ∧ some k_ ≠ (v954 : Value).ownBlock ∧ some k_ ≠ (.slice Ao65 t877.length co65 : Value).ownBlock) (.slice Ao61 t871.length co61) t871) := ⟨h5_⟩
          have n6_ : Aside0 (Kd.R k104 104 w162 w.heap.size (fun k_ => some k_ ≠ (.slice Ao151 t927.length co151 : Value).ownBlock ∧ some k_ ≠ (.slice Ao155 t943.length co155 : Value).ownBlock ∧ some k_ ≠ (.slice Ao67 t880.length co67 : Value).ownBlock) (.slice Ao63 t874.length co63) t874) := ⟨h6_⟩
          have n7_ : Aside0 (Kd.R Kd.string 9 w162 w.heap.size (fun k_ => some k_ ≠ (.slice Ao146 t924.length co146 : Value).ownBlock ∧ some k_ ≠ (.slice Ao153 t940.length co153 : Value).ownBlock ∧ some k_ ≠ (v954 : Value).ownBlock ∧ some k_ ≠ (.slice Ao61 t871.length co61 : Value).ownBlock) (.slice Ao65 t877.length co65) t877) := ⟨h7_⟩
          have n8_ : Aside0 (Kd.R k104 104 w162 w.heap.size (fun k_ => some k_ ≠ (.slice Ao151 t927.length co151 : Value).ownBlock ∧ some k_ ≠ (.slice Ao155 t943.length co155 : Value).ownBlock ∧ some k_ ≠ (.slice Ao63 t874.length co63 : Value).ownBlock) (.slice Ao67 t880.length co67) t880) := ⟨h8_⟩
          have n9_ : Aside0 (w162.heap[gb861]? = some (.cells #[.slice A0_0 l0_0.length c0_0, .slice A0_1 l0_1.length c0_1] 86 (0, 0))) := ⟨h9_⟩
          have n10_ : Aside0 (w162.heap[gb883]? = some (.cells #[.slice Ao61 t871.length co61, .slice Ao63 t874.length co63] 86 (0, 0))) := ⟨h10_⟩
          have n11_ : Aside0 (w162.heap[gb884]? = some (.cells #[.slice Ao65 t877.length co65, .slice Ao67 t880.length co67] 86 (0, 0))) := ⟨h11_⟩
          have n12_ : Aside0 (w162.heap[gb931]? = some (.cells #[.slice Ao153 t940.length co153, .slice Ao155 t943.length co155] 86 (0, 0))) := ⟨h12_⟩
          have n13_ : Aside0 (Below w.heap.size w w162) := ⟨h13_⟩
          clear HO_884000
          clear HO_884001
          clear HO_885000
          clear HO_885001
          clear HO926
          clear HO929
          clear HO942
          clear HO945
          clear BK861
          clear BK883
          clear BK884
          clear BK931
          clear HB
          clear h0_ h1_ h2_ h3_ h4_ h5_ h6_ h7_ h8_ h9_ h10_ h11_ h12_ h13_
          have HO926 := n0_
          have HO929 := n1_
          have HO942 := n2_
          have HO945 := n3_
          have HO955 := n4_
          have HO_884000 := n5_
          have HO_884001 := n6_
          have HO_885000 := n7_
          have HO_885001 := n8_
          have BK861 := n9_
          have BK883 := n10_
          have BK884 := n11_
          have BK931 := n12_
          have HB := n13_
          clear n0_ n1_ n2_ n3_ n4_ n5_ n6_ n7_ n8_ n9_ n10_ n11_ n12_ n13_
          have hHeld : w162.cell? ⟨gb861, 0, none⟩ = some (.slice A0_0 l0_0.length c0_0) ∧ w162.cell? ⟨gb861, 1, none⟩ = some (.slice A0_1 l0_1.length c0_1) := hS_
          obtain ⟨Ao163, co163, eo163⟩ := Kd.R_slice HO955.out
          (first | subst eo163 | (injection eo163 with f1_ f2_ f3_; have f4_ := f1_.symm; have f5_ := f3_.symm; clear f1_ f2_ f3_; subst f4_; subst f5_))
          refine norm_ (a' := ?_) ?_ ?_
          rotate_left
          ·simp only [putAll, Act.put, List.setIfInBounds_toArray, List.set_cons_zero, List.set_cons_succ]
           rfl
          refine two_ (i := 7) (j := 11) (Ni := some 112) (Nj := some 18) #[true, true, true, true, true, true, true, true, false, false, false, false, false, false] #[true, true, true, true, true, true, true, false, false, false, false, true, false, false] rfl rfl rfl rfl (two_of HT_.out (by kernel_rfl)) (by decide) (by decide) (fun K hK => ?_) (fun K hK => ?_)
          ·skip
           refine goes_ Try.func48 (by kernel_rfl) rfl #[.agg #[.slice A0_0 l0_0.length c0_0, .slice A0_1 l0_1.length c0_1], .int .i64 a1, .slice Ao163 y953.length co163] (by rfl) rfl rfl (by (try simp only [List.map_toArray, List.map_cons, List.map_nil]); first | done | rfl | (simp only [List.length_drop, List.length_take]; rfl)) ?_
           with_reducible refine (disk_Put.calls _ _ l0_0 _ _ l0_1 a1 _ _ y953 t956 t959 t962 _ ?side1 ?side2 ?side3 ?side4 ?side5 ?side6 A134.out).mono ?_
           (case side1 => repeat (first | exact (Kd.C_below HR0_0.out HB.out) | (with_reducible refine Kd.C_alloc ?_ _) | (with_reducible refine Kd.C_drewN ?_ _) | (with_reducible refine Kd.C_drew ?_)))
           (case side2 => exact HC0_0.out)
           (case side3 => repeat (first | exact (Kd.C_below HR0_1.out HB.out) | (with_reducible refine Kd.C_alloc ?_ _) | (with_reducible refine Kd.C_drewN ?_ _) | (with_reducible refine Kd.C_drew ?_)))
           (case side4 => exact HC0_1.out)
           (case side5 => repeat (first | exact (Kd.R_reads' HO955.out).2.2 | (with_reducible refine Kd.C_alloc ?_ _) | (with_reducible refine Kd.C_drewN ?_ _) | (with_reducible refine Kd.C_drew ?_)))
           (case side6 => exact (Kd.R_reads' HO955.out).2.1)
           rintro e w164 ⟨v957, v960, rfl, ho0, ho1, hb⟩
           refine ⟨_, rfl, ?_⟩
           have HO958 := Aside0.mk (Kd.R_lower (Kd.R_new' (Kd.R_new' (Kd.R_new' (Kd.R_new' (Kd.R_new' ho0 (Kd.R_lt (rU HO_884000.out))) (Kd.R_lt (rU HO_885000.out))) (Kd.R_lt (rU HO926.out))) (Kd.R_lt (rU HO942.out))) (Kd.R_lt (rU HO955.out))) (below_size (by repeat (first | exact beU HB.out | refine below_set ?_ (Aside0.out ‹_›) | apply below_alloc | apply pw_below_drewN | apply below_drew1))))
           have HO961 := Aside0.mk (Kd.R_lower (Kd.R_new' (Kd.R_new' (Kd.R_new' (Kd.R_new' ho1 (Kd.R_lt (rU HO_884001.out))) (Kd.R_lt (rU HO_885001.out))) (Kd.R_lt (rU HO929.out))) (Kd.R_lt (rU HO945.out))) (below_size (by repeat (first | exact beU HB.out | refine below_set ?_ (Aside0.out ‹_›) | apply below_alloc | apply pw_below_drewN | apply below_drew1))))
           replace HO_884000 := Aside0.mk (Kd.R_elder' (rU HO_884000.out) (Kd.R_base ho0) hb)
           replace HO_884001 := Aside0.mk (Kd.R_elder' (rU HO_884001.out) (Kd.R_base ho1) hb)
           replace HO_885000 := Aside0.mk (Kd.R_elder' (rU HO_885000.out) (Kd.R_base ho0) hb)
           replace HO_885001 := Aside0.mk (Kd.R_elder' (rU HO_885001.out) (Kd.R_base ho1) hb)
           replace HO926 := Aside0.mk (Kd.R_elder' (rU HO926.out) (Kd.R_base ho0) hb)
           replace HO929 := Aside0.mk (Kd.R_elder' (rU HO929.out) (Kd.R_base ho1) hb)
           replace HO942 := Aside0.mk (Kd.R_elder' (rU HO942.out) (Kd.R_base ho0) hb)
           replace HO945 := Aside0.mk (Kd.R_elder' (rU HO945.out) (Kd.R_base ho1) hb)
           replace HO955 := Aside0.mk (Kd.R_elder' (rU HO955.out) (Kd.R_base ho0) hb)
           replace BK861 := Aside0.mk (blk_below (bU BK861.out) hb)
           replace BK883 := Aside0.mk (blk_below (bU BK883.out) hb)
           replace BK884 := Aside0.mk (blk_below (bU BK884.out) hb)
           replace BK931 := Aside0.mk (blk_below (bU BK931.out) hb)
           replace HB := Aside0.mk (below_step (by repeat (first | exact beU HB.out | refine below_set ?_ (Aside0.out ‹_›) | apply below_alloc | apply pw_below_drewN | apply below_drew1)) hb)
           (try clear hb)
           (try clear hb2)
           (try clear hk)
           (try clear hi)
           (try clear ho0)
           (try clear ho1)
           refine hK.out _ _ ⟨(blk_cell BK861.out 0).trans rfl, (blk_cell BK861.out 1).trans rfl⟩ (fun hHeld => ?_)
           clear hK K
           refine norm_ (a' := ?_) ?_ ?_
           rotate_left
           ·show Act.put _ (some 112) _ = _
            simp only [Act.put, List.setIfInBounds_toArray, List.set_cons_zero, List.set_cons_succ, i64_w, i32_w]
            rfl
           refine pure_ (i := 8) (N := some 104) (v := ?_) (a' := ?_) #[true, true, true, true, true, true, true, true, true, false, false, false, false, false] rfl rfl (any_of HT_.out (by kernel_rfl)) (fun _ _ _ h => h) (Or.inl ⟨by rfl, ?_⟩) ?_ ?_
           rotate_left
           ·intro w'
            go_simp
            with_reducible rfl
           rotate_left
           ·simp only [Act.put, List.setIfInBounds_toArray, List.set_cons_zero, List.set_cons_succ, i64_w, i32_w]
            rfl
           refine pure_ (i := 9) (N := some 113) (v := ?_) (a' := ?_) #[true, true, true, true, true, true, true, true, true, true, false, false, false, false] rfl rfl (any_of HT_.out (by kernel_rfl)) (fun _ _ _ h => h) (Or.inl ⟨by rfl, ?_⟩) ?_ ?_
           rotate_left
           ·intro w'
            go_simp
            with_reducible rfl
           rotate_left
           ·simp only [Act.put, List.setIfInBounds_toArray, List.set_cons_zero, List.set_cons_succ, i64_w, i32_w]
            rfl
           refine pure_ (i := 10) (N := some 114) (v := ?_) (a' := ?_) #[true, true, true, true, true, true, true, true, true, true, true, false, false, false] rfl rfl (any_of HT_.out (by kernel_rfl)) (fun _ _ _ h => h) (Or.inl ⟨by rfl, ?_⟩) ?_ ?_
           rotate_left
           ·intro w'
            go_simp
            with_reducible rfl
           rotate_left
           ·simp only [Act.put, List.setIfInBounds_toArray, List.set_cons_zero, List.set_cons_succ, i64_w, i32_w]
            rfl
           exact norm_ (by simp only [putAll, Act.put, List.setIfInBounds_toArray, List.set_cons_zero, List.set_cons_succ] <;> rfl) (hJ2_4_6_7 (v948, v951, .slice Ao163 y953.length co163, v957, v960) _ ⟨hHeld, (by (with_reducible repeat (first | apply Kd.R_alloc | apply Kd.R_drewN | apply Kd.R_drew)); exact Kd.R_mono HO926.out (fun _ hk => ⟨hk.1.1, ⟨hk.1.2.1, ⟨hk.2, ⟨hk.1.2.2.1, hk.1.2.2.2⟩⟩⟩⟩)), (by (with_reducible repeat (first | apply Kd.R_alloc | apply Kd.R_drewN | apply Kd.R_drew)); exact Kd.R_mono HO929.out (fun _ hk => ⟨hk.1.1, ⟨hk.2, ⟨hk.1.2.1, hk.1.2.2⟩⟩⟩)), (by (with_reducible repeat (first | apply Kd.R_alloc | apply Kd.R_drewN | apply Kd.R_drew)); exact Kd.R_mono HO942.out (fun _ hk => ⟨hk.1.1, ⟨hk.1.2.1, ⟨hk.2, ⟨hk.1.2.2.1, hk.1.2.2.2⟩⟩⟩⟩)), (by (with_reducible repeat (first | apply Kd.R_alloc | apply Kd.R_drewN | apply Kd.R_drew)); exact Kd.R_mono HO945.out (fun _ hk => ⟨hk.1.1, ⟨hk.2, ⟨hk.1.2.1, hk.1.2.2⟩⟩⟩)), (by (with_reducible repeat (first | apply Kd.R_alloc | apply Kd.R_drewN | apply Kd.R_drew)); exact Kd.R_mono HO955.out (fun _ hk => ⟨hk.1.1, ⟨hk.1.2.1, ⟨hk.2, ⟨hk.1.2.2.1, hk.1.2.2.2⟩⟩⟩⟩)), (by (with_reducible repeat (first | apply Kd.R_alloc | apply Kd.R_drewN | apply Kd.R_drew)); exact Kd.R_mono HO958.out (fun _ hk => ⟨hk.1.1.2, ⟨hk.1.2, ⟨hk.2, ⟨hk.1.1.1.1.2, hk.1.1.1.2⟩⟩⟩⟩)), (by (with_reducible repeat (first | apply Kd.R_alloc | apply Kd.R_drewN | apply Kd.R_drew)); exact Kd.R_mono HO961.out (fun _ hk => ⟨hk.1.2, ⟨hk.2, ⟨hk.1.1.1.2, hk.1.1.2⟩⟩⟩)), (by (with_reducible repeat (first | apply Kd.R_alloc | apply Kd.R_drewN | apply Kd.R_drew)); exact Kd.R_mono HO_884000.out (fun _ hk => ⟨hk.1.1, ⟨hk.1.2.1, ⟨hk.1.2.2.1, ⟨hk.2, hk.1.2.2.2⟩⟩⟩⟩)), (by (with_reducible repeat (first | apply Kd.R_alloc | apply Kd.R_drewN | apply Kd.R_drew)); exact Kd.R_mono HO_884001.out (fun _ hk => ⟨hk.1.1, ⟨hk.1.2.1, ⟨hk.2, hk.1.2.2⟩⟩⟩)), (by (with_reducible repeat (first | apply Kd.R_alloc | apply Kd.R_drewN | apply Kd.R_drew)); exact Kd.R_mono HO_885000.out (fun _ hk => ⟨hk.1.1, ⟨hk.1.2.1, ⟨hk.1.2.2.1, ⟨hk.2, hk.1.2.2.2⟩⟩⟩⟩)), (by (with_reducible repeat (first | apply Kd.R_alloc | apply Kd.R_drewN | apply Kd.R_drew)); exact Kd.R_mono HO_885001.out (fun _ hk => ⟨hk.1.1, ⟨hk.1.2.1, ⟨hk.2, hk.1.2.2⟩⟩⟩)), (bU BK861.out), (bU BK883.out), (bU BK884.out), (bU BK931.out), (beU HB.out)⟩)
          ·skip
           refine box_step ?hg (N := 18) ?hd (cs := #[.slice none 0 0, .slice none 0 0]) (t := 86) ?hr ?_; (case hd => rfl); (case hg => rfl); (case hr => first | (go_simp; done) | (go_simp; rfl))
           intro gb963 hg w163 hbox hb
           have BK963 := Aside0.mk (hbox)
           have GW963 := Aside0.mk ((by first | exact geU HB.out hg | (rw [hg]; exact below_size (by repeat (first | exact beU HB.out | refine below_set ?_ (Aside0.out ‹_›) | apply below_alloc | apply pw_below_drewN | apply below_drew1)))))
           have GE963 := Aside0.mk ((by first | exact geU HB.out hg | (rw [hg]; exact below_size (by repeat (first | exact beU HB.out | refine below_set ?_ (Aside0.out ‹_›) | apply below_alloc | apply pw_below_drewN | apply below_drew1)))))
           have NB861_963 := Aside0.mk ((neU BK861.out hg))
           have NB963_861 := Aside0.mk ((enU BK861.out hg))
           have NB883_963 := Aside0.mk ((neU BK883.out hg))
           have NB963_883 := Aside0.mk ((enU BK883.out hg))
           have NB884_963 := Aside0.mk ((neU BK884.out hg))
           have NB963_884 := Aside0.mk ((enU BK884.out hg))
           have NB931_963 := Aside0.mk ((neU BK931.out hg))
           have NB963_931 := Aside0.mk ((enU BK931.out hg))
           replace HO_884000 := Aside0.mk (Kd.R_below (rU HO_884000.out) hb)
           replace HO_884001 := Aside0.mk (Kd.R_below (rU HO_884001.out) hb)
           replace HO_885000 := Aside0.mk (Kd.R_below (rU HO_885000.out) hb)
           replace HO_885001 := Aside0.mk (Kd.R_below (rU HO_885001.out) hb)
           replace HO926 := Aside0.mk (Kd.R_below (rU HO926.out) hb)
           replace HO929 := Aside0.mk (Kd.R_below (rU HO929.out) hb)
           replace HO942 := Aside0.mk (Kd.R_below (rU HO942.out) hb)
           replace HO945 := Aside0.mk (Kd.R_below (rU HO945.out) hb)
           replace HO955 := Aside0.mk (Kd.R_below (rU HO955.out) hb)
           replace BK861 := Aside0.mk (blk_below (bU BK861.out) hb)
           replace BK883 := Aside0.mk (blk_below (bU BK883.out) hb)
           replace BK884 := Aside0.mk (blk_below (bU BK884.out) hb)
           replace BK931 := Aside0.mk (blk_below (bU BK931.out) hb)
           replace HB := Aside0.mk (below_step (by repeat (first | exact beU HB.out | refine below_set ?_ (Aside0.out ‹_›) | apply below_alloc | apply pw_below_drewN | apply below_drew1)) hb)
           clear hb hbox hg
           refine hK.out _ _ ⟨(blk_cell BK861.out 0).trans rfl, (blk_cell BK861.out 1).trans rfl⟩ (fun hHeld => ?_)
           clear hK K
           refine norm_ (a' := ?_) ?_ ?_
           rotate_left
           ·show Act.put _ (some 18) _ = _
            simp only [Act.put, List.setIfInBounds_toArray, List.set_cons_zero, List.set_cons_succ, i64_w, i32_w]
            rfl
           exact norm_ (by simp only [putAll, Act.put, List.setIfInBounds_toArray, List.set_cons_zero, List.set_cons_succ] <;> rfl) (hJ2_4_6_11 (v948, v951, .slice Ao163 y953.length co163, gb963) _ ⟨hHeld, (rU HO926.out), (rU HO929.out), (rU HO942.out), (rU HO945.out), (rU HO955.out), (rU HO_884000.out), (rU HO_884001.out), (rU HO_885000.out), (rU HO_885001.out), (bU BK861.out), (bU BK883.out), (bU BK884.out), (bU BK931.out), (bU BK963.out), GW963.out, GE963.out, NB861_963.out, NB963_861.out, NB883_963.out, NB963_883.out, NB884_963.out, NB963_884.out, NB931_963.out, NB963_931.out, (beU HB.out)⟩)
        ·skip
         rintro ⟨v948, v951, v954, gb963⟩ w163 ⟨hS_, h0_, h1_, h2_, h3_, h4_, h5_, h6_, h7_, h8_, h9_, h10_, h11_, h12_, h13_, h14_, h15_, h16_, h17_, h18_, h19_, h20_, h21_, h22_, h23_, h24_⟩
         have n0_ : Aside0 (Kd.R Kd.string 9 w163 w.heap.size (fun k_ => some k_ ≠ (.slice Ao153 t940.length co153 : Value).ownBlock ∧ some k_ ≠ (v954 : Value).ownBlock ∧ some k_ ≠ (.slice Ao61 t871.length co61 : Value).ownBlock ∧ some k_ ≠ (.slice Ao65 t877.length co65 : Value).ownBlock) (.slice Ao146 t924.length co146) t924) := ⟨h0_⟩
         have n1_ : Aside0 (Kd.R k104 104 w163 w.heap.size (fun k_ => some k_ ≠ (.slice Ao155 t943.length co155 : Value).ownBlock ∧ some k_ ≠ (.slice Ao63 t874.length co63 : Value).ownBlock ∧ some k_ ≠ (.slice Ao67 t880.length co67 : Value).ownBlock) (.slice Ao151 t927.length co151) t927) := ⟨h1_⟩
         have n2_ : Aside0 (Kd.R Kd.string 9 w163 w.heap.size (fun k_ => some k_ ≠ (.slice Ao146 t924.length co146 : Value).ownBlock ∧ some k_ ≠ (v954 : Value).ownBlock ∧ some k_ ≠ (.slice Ao61 t871.length co61 : Value).ownBlock ∧ some k_ ≠ (.slice Ao65 t877.length co65 : Value).ownBlock) (.slice Ao153 t940.length co153) t940) := ⟨h2_⟩
         have n3_ : Aside0 (Kd.R k104 104 w163 w.heap.size (fun k_ => some k_ ≠ (.slice Ao151 t927.length co151 : Value).ownBlock ∧ some k_ ≠ (.slice Ao63 t874.length co63 : Value).ownBlock ∧ some k_ ≠ (.slice Ao67 t880.length co67 : Value).ownBlock) (.slice Ao155 t943.length co155) t943) := ⟨h3_⟩
         have n4_ : Aside0 (Kd.R Kd.string 9 w163 w.heap.size (fun k_ => some k_ ≠ (.slice Ao146 t924.length co146 : Value).ownBlock ∧ some k_ ≠ (.slice Ao153 t940.length co153 : Value).ownBlock ∧ some k_ ≠ (.slice Ao61 t871.length co61 : Value).ownBlock ∧ some k_ ≠ (.slice Ao65 t877.length co65 : Value).ownBlock) v954 y953) := ⟨h4_⟩
         have n5_ : Aside0 (Kd.R Kd.string 9 w163 w.heap.size (fun k_ => some k_ ≠ (.slice Ao146 t924.length co146 : Value).ownBlock ∧ some k_ ≠ (.slice Ao153 t940.length co153 : Value).ownBlock ∧ some k_ ≠ (v954 : Value).ownBlock ∧ some k_ ≠ (.slice Ao65 t877.length co65 : Value).ownBlock) (.slice Ao61 t871.length co61) t871) := ⟨h5_⟩
         have n6_ : Aside0 (Kd.R k104 104 w163 w.heap.size (fun k_ => some k_ ≠ (.slice Ao151 t927.length co151 : Value).ownBlock ∧ some k_ ≠ (.slice Ao155 t943.length co155 : Value).ownBlock ∧ some k_ ≠ (.slice Ao67 t880.length co67 : Value).ownBlock) (.slice Ao63 t874.length co63) t874) := ⟨h6_⟩
         have n7_ : Aside0 (Kd.R Kd.string 9 w163 w.heap.size (fun k_ => some k_ ≠ (.slice Ao146 t924.length co146 : Value).ownBlock ∧ some k_ ≠ (.slice Ao153 t940.length co153 : Value).ownBlock ∧ some k_ ≠ (v954 : Value).ownBlock ∧ some k_ ≠ (.slice Ao61 t871.length co61 : Value).ownBlock) (.slice Ao65 t877.length co65) t877) := ⟨h7_⟩
         have n8_ : Aside0 (Kd.R k104 104 w163 w.heap.size (fun k_ => some k_ ≠ (.slice Ao151 t927.length co151 : Value).ownBlock ∧ some k_ ≠ (.slice Ao155 t943.length co155 : Value).ownBlock ∧ some k_ ≠ (.slice Ao63 t874.length co63 : Value).ownBlock) (.slice Ao67 t880.length co67) t880) := ⟨h8_⟩
         have n9_ : Aside0 (w163.heap[gb861]? = some (.cells #[.slice A0_0 l0_0.length c0_0, .slice A0_1 l0_1.length c0_1] 86 (0, 0))) := ⟨h9_⟩
         have n10_ : Aside0 (w163.heap[gb883]? = some (.cells #[.slice Ao61 t871.length co61, .slice Ao63 t874.length co63] 86 (0, 0))) := ⟨h10_⟩
         have n11_ : Aside0 (w163.heap[gb884]? = some (.cells #[.slice Ao65 t877.length co65, .slice Ao67 t880.length co67] 86 (0, 0))) := ⟨h11_⟩
         have n12_ : Aside0 (w163.heap[gb931]? = some (.cells #[.slice Ao153 t940.length co153, .slice Ao155 t943.length co155] 86 (0, 0))) := ⟨h12_⟩
         have n13_ : Aside0 (w163.heap[gb963]? = some (.cells #[.slice none 0 0, .slice none 0 0] 86 (0, 0))) := ⟨h13_⟩
         have n14_ : Aside0 (w.heap.size ≤ gb963) := ⟨h14_⟩
         have n15_ : Aside0 (w.heap.size ≤ gb963) := ⟨h15_⟩
         have n16_ : Aside0 (gb861 ≠ gb963) := ⟨h16_⟩
         have n17_ : Aside0 (gb963 ≠ gb861) := ⟨h17_⟩
         have n18_ : Aside0 (gb883 ≠ gb963) := ⟨h18_⟩
         have n19_ : Aside0 (gb963 ≠ gb883) := ⟨h19_⟩
         have n20_ : Aside0 (gb884 ≠ gb963) := ⟨h20_⟩
         have n21_ : Aside0 (gb963 ≠ gb884) := ⟨h21_⟩
         have n22_ : Aside0 (gb931 ≠ gb963) := ⟨h22_⟩
         have n23_ : Aside0 (gb963 ≠ gb931) := ⟨h23_⟩
         have n24_ : Aside0 (Below w.heap.size w w163) := ⟨h24_⟩
         clear HO_884000
         clear HO_884001
         clear HO_885000
         clear HO_885001
         clear HO926
         clear HO929
         clear HO942
         clear HO945
         clear BK861
         clear BK883
         clear BK884
         clear BK931
         clear HB
         clear h0_ h1_ h2_ h3_ h4_ h5_ h6_ h7_ h8_ h9_ h10_ h11_ h12_ h13_ h14_ h15_ h16_ h17_ h18_ h19_ h20_ h21_ h22_ h23_ h24_
         have HO926 := n0_
         have HO929 := n1_
         have HO942 := n2_
         have HO945 := n3_
         have HO955 := n4_
         have HO_884000 := n5_
         have HO_884001 := n6_
         have HO_885000 := n7_
         have HO_885001 := n8_
         have BK861 := n9_
         have BK883 := n10_
         have BK884 := n11_
         have BK931 := n12_
         have BK963 := n13_
         have GW963 := n14_
         have GE963 := n15_
         have NB861_963 := n16_
         have NB963_861 := n17_
         have NB883_963 := n18_
         have NB963_883 := n19_
         have NB884_963 := n20_
         have NB963_884 := n21_
         have NB931_963 := n22_
         have NB963_931 := n23_
         have HB := n24_
         clear n0_ n1_ n2_ n3_ n4_ n5_ n6_ n7_ n8_ n9_ n10_ n11_ n12_ n13_ n14_ n15_ n16_ n17_ n18_ n19_ n20_ n21_ n22_ n23_ n24_
         have hHeld : w163.cell? ⟨gb861, 0, none⟩ = some (.slice A0_0 l0_0.length c0_0) ∧ w163.cell? ⟨gb861, 1, none⟩ = some (.slice A0_1 l0_1.length c0_1) := hS_
         obtain ⟨Ao164, co164, eo164⟩ := Kd.R_slice HO955.out
         (first | subst eo164 | (injection eo164 with f1_ f2_ f3_; have f4_ := f1_.symm; have f5_ := f3_.symm; clear f1_ f2_ f3_; subst f4_; subst f5_))
         refine norm_ (a' := ?_) ?_ ?_
         rotate_left
         ·simp only [putAll, Act.put, List.setIfInBounds_toArray, List.set_cons_zero, List.set_cons_succ]
          rfl
         refine one_ (i := 7) (N := some 112) #[true, true, true, true, true, true, true, true, false, false, false, true, false, false] rfl rfl (one_of HT_.out (by kernel_rfl)) (by decide) (fun K hK => ?_)
         refine goes_ Try.func48 (by kernel_rfl) rfl #[.agg #[.slice A0_0 l0_0.length c0_0, .slice A0_1 l0_1.length c0_1], .int .i64 a1, .slice Ao164 y953.length co164] (by rfl) rfl rfl (by (try simp only [List.map_toArray, List.map_cons, List.map_nil]); first | done | rfl | (simp only [List.length_drop, List.length_take]; rfl)) ?_
         with_reducible refine (disk_Put.calls _ _ l0_0 _ _ l0_1 a1 _ _ y953 t956 t959 t962 _ ?side1 ?side2 ?side3 ?side4 ?side5 ?side6 A134.out).mono ?_
         (case side1 => repeat (first | exact (Kd.C_below HR0_0.out HB.out) | (with_reducible refine Kd.C_alloc ?_ _) | (with_reducible refine Kd.C_drewN ?_ _) | (with_reducible refine Kd.C_drew ?_)))
         (case side2 => exact HC0_0.out)
         (case side3 => repeat (first | exact (Kd.C_below HR0_1.out HB.out) | (with_reducible refine Kd.C_alloc ?_ _) | (with_reducible refine Kd.C_drewN ?_ _) | (with_reducible refine Kd.C_drew ?_)))
         (case side4 => exact HC0_1.out)
         (case side5 => repeat (first | exact (Kd.R_reads' HO955.out).2.2 | (with_reducible refine Kd.C_alloc ?_ _) | (with_reducible refine Kd.C_drewN ?_ _) | (with_reducible refine Kd.C_drew ?_)))
         (case side6 => exact (Kd.R_reads' HO955.out).2.1)
         rintro e w165 ⟨v957, v960, rfl, ho0, ho1, hb⟩
         refine ⟨_, rfl, ?_⟩
         have HO958 := Aside0.mk (Kd.R_lower (Kd.R_new' (Kd.R_new' (Kd.R_new' (Kd.R_new' (Kd.R_new' ho0 (Kd.R_lt (rU HO_884000.out))) (Kd.R_lt (rU HO_885000.out))) (Kd.R_lt (rU HO926.out))) (Kd.R_lt (rU HO942.out))) (Kd.R_lt (rU HO955.out))) (below_size (by repeat (first | exact beU HB.out | refine below_set ?_ (Aside0.out ‹_›) | apply below_alloc | apply pw_below_drewN | apply below_drew1))))
         have HO961 := Aside0.mk (Kd.R_lower (Kd.R_new' (Kd.R_new' (Kd.R_new' (Kd.R_new' ho1 (Kd.R_lt (rU HO_884001.out))) (Kd.R_lt (rU HO_885001.out))) (Kd.R_lt (rU HO929.out))) (Kd.R_lt (rU HO945.out))) (below_size (by repeat (first | exact beU HB.out | refine below_set ?_ (Aside0.out ‹_›) | apply below_alloc | apply pw_below_drewN | apply below_drew1))))
         replace HO_884000 := Aside0.mk (Kd.R_elder' (rU HO_884000.out) (Kd.R_base ho0) hb)
         replace HO_884001 := Aside0.mk (Kd.R_elder' (rU HO_884001.out) (Kd.R_base ho1) hb)
         replace HO_885000 := Aside0.mk (Kd.R_elder' (rU HO_885000.out) (Kd.R_base ho0) hb)
         replace HO_885001 := Aside0.mk (Kd.R_elder' (rU HO_885001.out) (Kd.R_base ho1) hb)
         replace HO926 := Aside0.mk (Kd.R_elder' (rU HO926.out) (Kd.R_base ho0) hb)
         replace HO929 := Aside0.mk (Kd.R_elder' (rU HO929.out) (Kd.R_base ho1) hb)
         replace HO942 := Aside0.mk (Kd.R_elder' (rU HO942.out) (Kd.R_base ho0) hb)
         replace HO945 := Aside0.mk (Kd.R_elder' (rU HO945.out) (Kd.R_base ho1) hb)
         replace HO955 := Aside0.mk (Kd.R_elder' (rU HO955.out) (Kd.R_base ho0) hb)
         replace BK861 := Aside0.mk (blk_below (bU BK861.out) hb)
         replace BK883 := Aside0.mk (blk_below (bU BK883.out) hb)
         replace BK884 := Aside0.mk (blk_below (bU BK884.out) hb)
         replace BK931 := Aside0.mk (blk_below (bU BK931.out) hb)
         replace BK963 := Aside0.mk (blk_below (bU BK963.out) hb)
         replace HB := Aside0.mk (below_step (by repeat (first | exact beU HB.out | refine below_set ?_ (Aside0.out ‹_›) | apply below_alloc | apply pw_below_drewN | apply below_drew1)) hb)
         (try clear hb)
         (try clear hb2)
         (try clear hk)
         (try clear hi)
         (try clear ho0)
         (try clear ho1)
         refine hK.out _ _ ⟨(blk_cell BK861.out 0).trans rfl, (blk_cell BK861.out 1).trans rfl⟩ (fun hHeld => ?_)
         clear hK K
         refine norm_ (a' := ?_) ?_ ?_
         rotate_left
         ·show Act.put _ (some 112) _ = _
          simp only [Act.put, List.setIfInBounds_toArray, List.set_cons_zero, List.set_cons_succ, i64_w, i32_w]
          rfl
         refine pure_ (i := 8) (N := some 104) (v := ?_) (a' := ?_) #[true, true, true, true, true, true, true, true, true, false, false, true, false, false] rfl rfl (any_of HT_.out (by kernel_rfl)) (fun _ _ _ h => h) (Or.inl ⟨by rfl, ?_⟩) ?_ ?_
         rotate_left
         ·intro w'
          go_simp
          with_reducible rfl
         rotate_left
         ·simp only [Act.put, List.setIfInBounds_toArray, List.set_cons_zero, List.set_cons_succ, i64_w, i32_w]
          rfl
         refine pure_ (i := 9) (N := some 113) (v := ?_) (a' := ?_) #[true, true, true, true, true, true, true, true, true, true, false, true, false, false] rfl rfl (any_of HT_.out (by kernel_rfl)) (fun _ _ _ h => h) (Or.inl ⟨by rfl, ?_⟩) ?_ ?_
         rotate_left
         ·intro w'
          go_simp
          with_reducible rfl
         rotate_left
         ·simp only [Act.put, List.setIfInBounds_toArray, List.set_cons_zero, List.set_cons_succ, i64_w, i32_w]
          rfl
         refine pure_ (i := 10) (N := some 114) (v := ?_) (a' := ?_) #[true, true, true, true, true, true, true, true, true, true, true, true, false, false] rfl rfl (any_of HT_.out (by kernel_rfl)) (fun _ _ _ h => h) (Or.inl ⟨by rfl, ?_⟩) ?_ ?_
         rotate_left
         ·intro w'
          go_simp
          with_reducible rfl
         rotate_left
         ·simp only [Act.put, List.setIfInBounds_toArray, List.set_cons_zero, List.set_cons_succ, i64_w, i32_w]
          rfl
         exact norm_ (by simp only [putAll, Act.put, List.setIfInBounds_toArray, List.set_cons_zero, List.set_cons_succ] <;> rfl) (hJ2_4_6_7_11 (v948, v951, .slice Ao164 y953.length co164, v957, v960, gb963) _ ⟨hHeld, (by (with_reducible repeat (first | apply Kd.R_alloc | apply Kd.R_drewN | apply Kd.R_drew)); exact Kd.R_mono HO926.out (fun _ hk => ⟨hk.1.1, ⟨hk.1.2.1, ⟨hk.2, ⟨hk.1.2.2.1, hk.1.2.2.2⟩⟩⟩⟩)), (by (with_reducible repeat (first | apply Kd.R_alloc | apply Kd.R_drewN | apply Kd.R_drew)); exact Kd.R_mono HO929.out (fun _ hk => ⟨hk.1.1, ⟨hk.2, ⟨hk.1.2.1, hk.1.2.2⟩⟩⟩)), (by (with_reducible repeat (first | apply Kd.R_alloc | apply Kd.R_drewN | apply Kd.R_drew)); exact Kd.R_mono HO942.out (fun _ hk => ⟨hk.1.1, ⟨hk.1.2.1, ⟨hk.2, ⟨hk.1.2.2.1, hk.1.2.2.2⟩⟩⟩⟩)), (by (with_reducible repeat (first | apply Kd.R_alloc | apply Kd.R_drewN | apply Kd.R_drew)); exact Kd.R_mono HO945.out (fun _ hk => ⟨hk.1.1, ⟨hk.2, ⟨hk.1.2.1, hk.1.2.2⟩⟩⟩)), (by (with_reducible repeat (first | apply Kd.R_alloc | apply Kd.R_drewN | apply Kd.R_drew)); exact Kd.R_mono HO955.out (fun _ hk => ⟨hk.1.1, ⟨hk.1.2.1, ⟨hk.2, ⟨hk.1.2.2.1, hk.1.2.2.2⟩⟩⟩⟩)), (by (with_reducible repeat (first | apply Kd.R_alloc | apply Kd.R_drewN | apply Kd.R_drew)); exact Kd.R_mono HO958.out (fun _ hk => ⟨hk.1.1.2, ⟨hk.1.2, ⟨hk.2, ⟨hk.1.1.1.1.2, hk.1.1.1.2⟩⟩⟩⟩)), (by (with_reducible repeat (first | apply Kd.R_alloc | apply Kd.R_drewN | apply Kd.R_drew)); exact Kd.R_mono HO961.out (fun _ hk => ⟨hk.1.2, ⟨hk.2, ⟨hk.1.1.1.2, hk.1.1.2⟩⟩⟩)), (by (with_reducible repeat (first | apply Kd.R_alloc | apply Kd.R_drewN | apply Kd.R_drew)); exact Kd.R_mono HO_884000.out (fun _ hk => ⟨hk.1.1, ⟨hk.1.2.1, ⟨hk.1.2.2.1, ⟨hk.2, hk.1.2.2.2⟩⟩⟩⟩)), (by (with_reducible repeat (first | apply Kd.R_alloc | apply Kd.R_drewN | apply Kd.R_drew)); exact Kd.R_mono HO_884001.out (fun _ hk => ⟨hk.1.1, ⟨hk.1.2.1, ⟨hk.2, hk.1.2.2⟩⟩⟩)), (by (with_reducible repeat (first | apply Kd.R_alloc | apply Kd.R_drewN | apply Kd.R_drew)); exact Kd.R_mono HO_885000.out (fun _ hk => ⟨hk.1.1, ⟨hk.1.2.1, ⟨hk.1.2.2.1, ⟨hk.2, hk.1.2.2.2⟩⟩⟩⟩)), (by (with_reducible repeat (first | apply Kd.R_alloc | apply Kd.R_drewN | apply Kd.R_drew)); exact Kd.R_mono HO_885001.out (fun _ hk => ⟨hk.1.1, ⟨hk.1.2.1, ⟨hk.2, hk.1.2.2⟩⟩⟩)), (bU BK861.out), (bU BK883.out), (bU BK884.out), (bU BK931.out), (bU BK963.out), GW963.out, GE963.out, NB861_963.out, NB963_861.out, NB883_963.out, NB963_883.out, NB884_963.out, NB963_884.out, NB931_963.out, NB963_931.out, (beU HB.out)⟩)
       ·skip
        rintro ⟨v948, v951, v954, v957, v960⟩ w164 ⟨hS_, h0_, h1_, h2_, h3_, h4_, h5_, h6_, h7_, h8_, h9_, h10_, h11_, h12_, h13_, h14_, h15_⟩
        have n0_ : Aside0 (Kd.R Kd.string 9 w164 w.heap.size (fun k_ => some k_ ≠ (.slice Ao153 t940.length co153 : Value).ownBlock ∧ some k_ ≠ (v954 : Value).ownBlock ∧ some k_ ≠ (v957 : Value).ownBlock ∧ some k_ ≠ (.slice Ao61 t871.length co61 : Value).ownBlock ∧ some k_ ≠ (.slice Ao65 t877.length co65 : Value).ownBlock) (.slice Ao146 t924.length co146) t924) := ⟨h0_⟩
        have n1_ : Aside0 (Kd.R k104 104 w164 w.heap.size (fun k_ => some k_ ≠ (.slice Ao155 t943.length co155 : Value).ownBlock ∧ some k_ ≠ (v960 : Value).ownBlock ∧ some k_ ≠ (.slice Ao63 t874.length co63 : Value).ownBlock ∧ some k_ ≠ (.slice Ao67 t880.length co67 : Value).ownBlock) (.slice Ao151 t927.length co151) t927) := ⟨h1_⟩
        have n2_ : Aside0 (Kd.R Kd.string 9 w164 w.heap.size (fun k_ => some k_ ≠ (.slice Ao146 t924.length co146 : Value).ownBlock ∧ some k_ ≠ (v954 : Value).ownBlock ∧ some k_ ≠ (v957 : Value).ownBlock ∧ some k_ ≠ (.slice Ao61 t871.length co61 : Value).ownBlock ∧ some k_ ≠ (.slice Ao65 t877.length co65 : Value).ownBlock) (.slice Ao153 t940.length co153) t940) := ⟨h2_⟩
        have n3_ : Aside0 (Kd.R k104 104 w164 w.heap.size (fun k_ => some k_ ≠ (.slice Ao151 t927.length co151 : Value).ownBlock ∧ some k_ ≠ (v960 : Value).ownBlock ∧ some k_ ≠ (.slice Ao63 t874.length co63 : Value).ownBlock ∧ some k_ ≠ (.slice Ao67 t880.length co67 : Value).ownBlock) (.slice Ao155 t943.length co155) t943) := ⟨h3_⟩
        have n4_ : Aside0 (Kd.R Kd.string 9 w164 w.heap.size (fun k_ => some k_ ≠ (.slice Ao146 t924.length co146 : Value).ownBlock ∧ some k_ ≠ (.slice Ao153 t940.length co153 : Value).ownBlock ∧ some k_ ≠ (v957 : Value).ownBlock ∧ some k_ ≠ (.slice Ao61 t871.length co61 : Value).ownBlock ∧ some k_ ≠ (.slice Ao65 t877.length co65 : Value).ownBlock) v954 y953) := ⟨h4_⟩
        have n5_ : Aside0 (Kd.R Kd.string 9 w164 w.heap.size (fun k_ => some k_ ≠ (.slice Ao146 t924.length co146 : Value).ownBlock ∧ some k_ ≠ (.slice Ao153 t940.length co153 : Value).ownBlock ∧ some k_ ≠ (v954 : Value).ownBlock ∧ some k_ ≠ (.slice Ao61 t871.length co61 : Value).ownBlock ∧ some k_ ≠ (.slice Ao65 t877.length co65 : Value).ownBlock) v957 t956) := ⟨h5_⟩
        have n6_ : Aside0 (Kd.R k104 104 w164 w.heap.size (fun k_ => some k_ ≠ (.slice Ao151 t927.length co151 : Value).ownBlock ∧ some k_ ≠ (.slice Ao155 t943.length co155 : Value).ownBlock ∧ some k_ ≠ (.slice Ao63 t874.length co63 : Value).ownBlock ∧ some k_ ≠ (.slice Ao67 t880.length co67 : Value).ownBlock) v960 t959) := ⟨h6_⟩
        have n7_ : Aside0 (Kd.R Kd.string 9 w164 w.heap.size (fun k_ => some k_ ≠ (.slice Ao146 t924.length co146 : Value).ownBlock ∧ some k_ ≠ (.slice Ao153 t940.length co153 : Value).ownBlock ∧ some k_ ≠ (v954 : Value).ownBlock ∧ some k_ ≠ (v957 : Value).ownBlock ∧ some k_ ≠ (.slice Ao65 t877.length co65 : Value).ownBlock) (.slice Ao61 t871.length co61) t871) := ⟨h7_⟩
        have n8_ : Aside0 (Kd.R k104 104 w164 w.heap.size (fun k_ => some k_ ≠ (.slice Ao151 t927.length co151 : Value).ownBlock ∧ some k_ ≠ (.slice Ao155 t943.length co155 : Value).ownBlock ∧ some k_ ≠ (v960 : Value).ownBlock ∧ some k_ ≠ (.slice Ao67 t880.length co67 : Value).ownBlock) (.slice Ao63 t874.length co63) t874) := ⟨h8_⟩
        have n9_ : Aside0 (Kd.R Kd.string 9 w164 w.heap.size (fun k_ => some k_ ≠ (.slice Ao146 t924.length co146 : Value).ownBlock ∧ some k_ ≠ (.slice Ao153 t940.length co153 : Value).ownBlock ∧ some k_ ≠ (v954 : Value).ownBlock ∧ some k_ ≠ (v957 : Value).ownBlock ∧ some k_ ≠ (.slice Ao61 t871.length co61 : Value).ownBlock) (.slice Ao65 t877.length co65) t877) := ⟨h9_⟩
        have n10_ : Aside0 (Kd.R k104 104 w164 w.heap.size (fun k_ => some k_ ≠ (.slice Ao151 t927.length co151 : Value).ownBlock ∧ some k_ ≠ (.slice Ao155 t943.length co155 : Value).ownBlock ∧ some k_ ≠ (v960 : Value).ownBlock ∧ some k_ ≠ (.slice Ao63 t874.length co63 : Value).ownBlock) (.slice Ao67 t880.length co67) t880) := ⟨h10_⟩
        have n11_ : Aside0 (w164.heap[gb861]? = some (.cells #[.slice A0_0 l0_0.length c0_0, .slice A0_1 l0_1.length c0_1] 86 (0, 0))) := ⟨h11_⟩
        have n12_ : Aside0 (w164.heap[gb883]? = some (.cells #[.slice Ao61 t871.length co61, .slice Ao63 t874.length co63] 86 (0, 0))) := ⟨h12_⟩
        have n13_ : Aside0 (w164.heap[gb884]? = some (.cells #[.slice Ao65 t877.length co65, .slice Ao67 t880.length co67] 86 (0, 0))) := ⟨h13_⟩
        have n14_ : Aside0 (w164.heap[gb931]? = some (.cells #[.slice Ao153 t940.length co153, .slice Ao155 t943.length co155] 86 (0, 0))) := ⟨h14_⟩
        have n15_ : Aside0 (Below w.heap.size w w164) := ⟨h15_⟩
        clear HO_884000
        clear HO_884001
        clear HO_885000
        clear HO_885001
        clear HO926
        clear HO929
        clear HO942
        clear HO945
        clear BK861
        clear BK883
        clear BK884
        clear BK931
        clear HB
        clear h0_ h1_ h2_ h3_ h4_ h5_ h6_ h7_ h8_ h9_ h10_ h11_ h12_ h13_ h14_ h15_
        have HO926 := n0_
        have HO929 := n1_
        have HO942 := n2_
        have HO945 := n3_
        have HO955 := n4_
        have HO958 := n5_
        have HO961 := n6_
        have HO_884000 := n7_
        have HO_884001 := n8_
        have HO_885000 := n9_
        have HO_885001 := n10_
        have BK861 := n11_
        have BK883 := n12_
        have BK884 := n13_
        have BK931 := n14_
        have HB := n15_
        clear n0_ n1_ n2_ n3_ n4_ n5_ n6_ n7_ n8_ n9_ n10_ n11_ n12_ n13_ n14_ n15_
        have hHeld : w164.cell? ⟨gb861, 0, none⟩ = some (.slice A0_0 l0_0.length c0_0) ∧ w164.cell? ⟨gb861, 1, none⟩ = some (.slice A0_1 l0_1.length c0_1) := hS_
        refine norm_ (a' := ?_) ?_ ?_
        rotate_left
        ·simp only [putAll, Act.put, List.setIfInBounds_toArray, List.set_cons_zero, List.set_cons_succ]
         rfl
        refine one_ (i := 11) (N := some 18) #[true, true, true, true, true, true, true, true, true, true, true, true, false, false] rfl rfl (one_of HT_.out (by kernel_rfl)) (by decide) (fun K hK => ?_)
        refine box_step ?hg (N := 18) ?hd (cs := #[.slice none 0 0, .slice none 0 0]) (t := 86) ?hr ?_; (case hd => rfl); (case hg => rfl); (case hr => first | (go_simp; done) | (go_simp; rfl))
        intro gb963 hg w165 hbox hb
        have BK963 := Aside0.mk (hbox)
        have GW963 := Aside0.mk ((by first | exact geU HB.out hg | (rw [hg]; exact below_size (by repeat (first | exact beU HB.out | refine below_set ?_ (Aside0.out ‹_›) | apply below_alloc | apply pw_below_drewN | apply below_drew1)))))
        have GE963 := Aside0.mk ((by first | exact geU HB.out hg | (rw [hg]; exact below_size (by repeat (first | exact beU HB.out | refine below_set ?_ (Aside0.out ‹_›) | apply below_alloc | apply pw_below_drewN | apply below_drew1)))))
        have NB861_963 := Aside0.mk ((neU BK861.out hg))
        have NB963_861 := Aside0.mk ((enU BK861.out hg))
        have NB883_963 := Aside0.mk ((neU BK883.out hg))
        have NB963_883 := Aside0.mk ((enU BK883.out hg))
        have NB884_963 := Aside0.mk ((neU BK884.out hg))
        have NB963_884 := Aside0.mk ((enU BK884.out hg))
        have NB931_963 := Aside0.mk ((neU BK931.out hg))
        have NB963_931 := Aside0.mk ((enU BK931.out hg))
        replace HO_884000 := Aside0.mk (Kd.R_below (rU HO_884000.out) hb)
        replace HO_884001 := Aside0.mk (Kd.R_below (rU HO_884001.out) hb)
        replace HO_885000 := Aside0.mk (Kd.R_below (rU HO_885000.out) hb)
        replace HO_885001 := Aside0.mk (Kd.R_below (rU HO_885001.out) hb)
        replace HO926 := Aside0.mk (Kd.R_below (rU HO926.out) hb)
        replace HO929 := Aside0.mk (Kd.R_below (rU HO929.out) hb)
        replace HO942 := Aside0.mk (Kd.R_below (rU HO942.out) hb)
        replace HO945 := Aside0.mk (Kd.R_below (rU HO945.out) hb)
        replace HO955 := Aside0.mk (Kd.R_below (rU HO955.out) hb)
        replace HO958 := Aside0.mk (Kd.R_below (rU HO958.out) hb)
        replace HO961 := Aside0.mk (Kd.R_below (rU HO961.out) hb)
        replace BK861 := Aside0.mk (blk_below (bU BK861.out) hb)
        replace BK883 := Aside0.mk (blk_below (bU BK883.out) hb)
        replace BK884 := Aside0.mk (blk_below (bU BK884.out) hb)
        replace BK931 := Aside0.mk (blk_below (bU BK931.out) hb)
        replace HB := Aside0.mk (below_step (by repeat (first | exact beU HB.out | refine below_set ?_ (Aside0.out ‹_›) | apply below_alloc | apply pw_below_drewN | apply below_drew1)) hb)
        clear hb hbox hg
        refine hK.out _ _ ⟨(blk_cell BK861.out 0).trans rfl, (blk_cell BK861.out 1).trans rfl⟩ (fun hHeld => ?_)
        clear hK K
        refine norm_ (a' := ?_) ?_ ?_
        rotate_left
        ·show Act.put _ (some 18) _ = _
         simp only [Act.put, List.setIfInBounds_toArray, List.set_cons_zero, List.set_cons_succ, i64_w, i32_w]
         rfl
        exact norm_ (by simp only [putAll, Act.put, List.setIfInBounds_toArray, List.set_cons_zero, List.set_cons_succ] <;> rfl) (hJ2_4_6_7_11 (v948, v951, v954, v957, v960, gb963) _ ⟨hHeld, (rU HO926.out), (rU HO929.out), (rU HO942.out), (rU HO945.out), (rU HO955.out), (rU HO958.out), (rU HO961.out), (rU HO_884000.out), (rU HO_884001.out), (rU HO_885000.out), (rU HO_885001.out), (bU BK861.out), (bU BK883.out), (bU BK884.out), (bU BK931.out), (bU BK963.out), GW963.out, GE963.out, NB861_963.out, NB963_861.out, NB883_963.out, NB963_883.out, NB884_963.out, NB963_884.out, NB931_963.out, NB963_931.out, (beU HB.out)⟩)
      rintro ⟨v948, v951, v954, v957, v960, gb963⟩ w165 ⟨hS_, h0_, h1_, h2_, h3_, h4_, h5_, h6_, h7_, h8_, h9_, h10_, h11_, h12_, h13_, h14_, h15_, h16_, h17_, h18_, h19_, h20_, h21_, h22_, h23_, h24_, h25_, h26_⟩
      have n0_ : Aside0 (Kd.R Kd.string 9 w165 w.heap.size (fun k_ => some k_ ≠ (.slice Ao153 t940.length co153 : Value).ownBlock ∧ some k_ ≠ (v954 : Value).ownBlock ∧ some k_ ≠ (v957 : Value).ownBlock ∧ some k_ ≠ (.slice Ao61 t871.length co61 : Value).ownBlock ∧ some k_ ≠ (.slice Ao65 t877.length co65 : Value).ownBlock) (.slice Ao146 t924.length co146) t924) := ⟨h0_⟩
      have n1_ : Aside0 (Kd.R k104 104 w165 w.heap.size (fun k_ => some k_ ≠ (.slice Ao155 t943.length co155 : Value).ownBlock ∧ some k_ ≠ (v960 : Value).ownBlock ∧ some k_ ≠ (.slice Ao63 t874.length co63 : Value).ownBlock ∧ some k_ ≠ (.slice Ao67 t880.length co67 : Value).ownBlock) (.slice Ao151 t927.length co151) t927) := ⟨h1_⟩
      have n2_ : Aside0 (Kd.R Kd.string 9 w165 w.heap.size (fun k_ => some k_ ≠ (.slice Ao146 t924.length co146 : Value).ownBlock ∧ some k_ ≠ (v954 : Value).ownBlock ∧ some k_ ≠ (v957 : Value).ownBlock ∧ some k_ ≠ (.slice Ao61 t871.length co61 : Value).ownBlock ∧ some k_ ≠ (.slice Ao65 t877.length co65 : Value).ownBlock) (.slice Ao153 t940.length co153) t940) := ⟨h2_⟩
      have n3_ : Aside0 (Kd.R k104 104 w165 w.heap.size (fun k_ => some k_ ≠ (.slice Ao151 t927.length co151 : Value).ownBlock ∧ some k_ ≠ (v960 : Value).ownBlock ∧ some k_ ≠ (.slice Ao63 t874.length co63 : Value).ownBlock ∧ some k_ ≠ (.slice Ao67 t880.length co67 : Value).ownBlock) (.slice Ao155 t943.length co155) t943) := ⟨h3_⟩
      have n4_ : Aside0 (Kd.R Kd.string 9 w165 w.heap.size (fun k_ => some k_ ≠ (.slice Ao146 t924.length co146 : Value).ownBlock ∧ some k_ ≠ (.slice Ao153 t940.length co153 : Value).ownBlock ∧ some k_ ≠ (v957 : Value).ownBlock ∧ some k_ ≠ (.slice Ao61 t871.length co61 : Value).ownBlock ∧ some k_ ≠ (.slice Ao65 t877.length co65 : Value).ownBlock) v954 y953) := ⟨h4_⟩
      have n5_ : Aside0 (Kd.R Kd.string 9 w165 w.heap.size (fun k_ => some k_ ≠ (.slice Ao146 t924.length co146 : Value).ownBlock ∧ some k_ ≠ (.slice Ao153 t940.length co153 : Value).ownBlock ∧ some k_ ≠ (v954 : Value).ownBlock ∧ some k_ ≠ (.slice Ao61 t871.length co61 : Value).ownBlock ∧ some k_ ≠ (.slice Ao65 t877.length co65 : Value).ownBlock) v957 t956) := ⟨h5_⟩
      have n6_ : Aside0 (Kd.R k104 104 w165 w.heap.size (fun k_ => some k_ ≠ (.slice Ao151 t927.length co151 : Value).ownBlock ∧ some k_ ≠ (.slice Ao155 t943.length co155 : Value).ownBlock ∧ some k_ ≠ (.slice Ao63 t874.length co63 : Value).ownBlock ∧ some k_ ≠ (.slice Ao67 t880.length co67 : Value).ownBlock) v960 t959) := ⟨h6_⟩
      have n7_ : Aside0 (Kd.R Kd.string 9 w165 w.heap.size (fun k_ => some k_ ≠ (.slice Ao146 t924.length co146 : Value).ownBlock ∧ some k_ ≠ (.slice Ao153 t940.length co153 : Value).ownBlock ∧ some k_ ≠ (v954 : Value).ownBlock ∧ some k_ ≠ (v957 : Value).ownBlock ∧ some k_ ≠ (.slice Ao65 t877.length co65 : Value).ownBlock) (.slice Ao61 t871.length co61) t871) := ⟨h7_⟩
      have n8_ : Aside0 (Kd.R k104 104 w165 w.heap.size (fun k_ => some k_ ≠ (.slice Ao151 t927.length co151 : Value).ownBlock ∧ some k_ ≠ (.slice Ao155 t943.length co155 : Value).ownBlock ∧ some k_ ≠ (v960 : Value).ownBlock ∧ some k_ ≠ (.slice Ao67 t880.length co67 : Value).ownBlock) (.slice Ao63 t874.length co63) t874) := ⟨h8_⟩
      have n9_ : Aside0 (Kd.R Kd.string 9 w165 w.heap.size (fun k_ => some k_ ≠ (.slice Ao146 t924.length co146 : Value).ownBlock ∧ some k_ ≠ (.slice Ao153 t940.length co153 : Value).ownBlock ∧ some k_ ≠ (v954 : Value).ownBlock ∧ some k_ ≠ (v957 : Value).ownBlock ∧ some k_ ≠ (.slice Ao61 t871.length co61 : Value).ownBlock) (.slice Ao65 t877.length co65) t877) := ⟨h9_⟩
      have n10_ : Aside0 (Kd.R k104 104 w165 w.heap.size (fun k_ => some k_ ≠ (.slice Ao151 t927.length co151 : Value).ownBlock ∧ some k_ ≠ (.slice Ao155 t943.length co155 : Value).ownBlock ∧ some k_ ≠ (v960 : Value).ownBlock ∧ some k_ ≠ (.slice Ao63 t874.length co63 : Value).ownBlock) (.slice Ao67 t880.length co67) t880) := ⟨h10_⟩
      have n11_ : Aside0 (w165.heap[gb861]? = some (.cells #[.slice A0_0 l0_0.length c0_0, .slice A0_1 l0_1.length c0_1] 86 (0, 0))) := ⟨h11_⟩
      have n12_ : Aside0 (w165.heap[gb883]? = some (.cells #[.slice Ao61 t871.length co61, .slice Ao63 t874.length co63] 86 (0, 0))) := ⟨h12_⟩
      have n13_ : Aside0 (w165.heap[gb884]? = some (.cells #[.slice Ao65 t877.length co65, .slice Ao67 t880.length co67] 86 (0, 0))) := ⟨h13_⟩
      have n14_ : Aside0 (w165.heap[gb931]? = some (.cells #[.slice Ao153 t940.length co153, .slice Ao155 t943.length co155] 86 (0, 0))) := ⟨h14_⟩
      have n15_ : Aside0 (w165.heap[gb963]? = some (.cells #[.slice none 0 0, .slice none 0 0] 86 (0, 0))) := ⟨h15_⟩
      have n16_ : Aside0 (w.heap.size ≤ gb963) := ⟨h16_⟩
      have n17_ : Aside0 (w.heap.size ≤ gb963) := ⟨h17_⟩
      have n18_ : Aside0 (gb861 ≠ gb963) := ⟨h18_⟩
      have n19_ : Aside0 (gb963 ≠ gb861) := ⟨h19_⟩
      have n20_ : Aside0 (gb883 ≠ gb963) := ⟨h20_⟩
      have n21_ : Aside0 (gb963 ≠ gb883) := ⟨h21_⟩
      have n22_ : Aside0 (gb884 ≠ gb963) := ⟨h22_⟩
      have n23_ : Aside0 (gb963 ≠ gb884) := ⟨h23_⟩
      have n24_ : Aside0 (gb931 ≠ gb963) := ⟨h24_⟩
      have n25_ : Aside0 (gb963 ≠ gb931) := ⟨h25_⟩
      have n26_ : Aside0 (Below w.heap.size w w165) := ⟨h26_⟩
      clear HO_884000
      clear HO_884001
      clear HO_885000
      clear HO_885001
      clear HO926
      clear HO929
      clear HO942
      clear HO945
      clear BK861
      clear BK883
      clear BK884
      clear BK931
      clear HB
      clear h0_ h1_ h2_ h3_ h4_ h5_ h6_ h7_ h8_ h9_ h10_ h11_ h12_ h13_ h14_ h15_ h16_ h17_ h18_ h19_ h20_ h21_ h22_ h23_ h24_ h25_ h26_
      have HO926 := n0_
      have HO929 := n1_
      have HO942 := n2_
      have HO945 := n3_
      have HO955 := n4_
      have HO958 := n5_
      have HO961 := n6_
      have HO_884000 := n7_
      have HO_884001 := n8_
      have HO_885000 := n9_
      have HO_885001 := n10_
      have BK861 := n11_
      have BK883 := n12_
      have BK884 := n13_
      have BK931 := n14_
      have BK963 := n15_
      have GW963 := n16_
      have GE963 := n17_
      have NB861_963 := n18_
      have NB963_861 := n19_
      have NB883_963 := n20_
      have NB963_883 := n21_
      have NB884_963 := n22_
      have NB963_884 := n23_
      have NB931_963 := n24_
      have NB963_931 := n25_
      have HB := n26_
      clear n0_ n1_ n2_ n3_ n4_ n5_ n6_ n7_ n8_ n9_ n10_ n11_ n12_ n13_ n14_ n15_ n16_ n17_ n18_ n19_ n20_ n21_ n22_ n23_ n24_ n25_ n26_
      have hHeld : w165.cell? ⟨gb861, 0, none⟩ = some (.slice A0_0 l0_0.length c0_0) ∧ w165.cell? ⟨gb861, 1, none⟩ = some (.slice A0_1 l0_1.length c0_1) := hS_
      obtain ⟨Ao166, co166, eo166⟩ := Kd.R_slice HO958.out
      (first | subst eo166 | (injection eo166 with f1_ f2_ f3_; have f4_ := f1_.symm; have f5_ := f3_.symm; clear f1_ f2_ f3_; subst f4_; subst f5_))
      obtain ⟨Ao168, co168, eo168⟩ := Kd.R_slice HO961.out
      (first | subst eo168 | (injection eo168 with f1_ f2_ f3_; have f4_ := f1_.symm; have f5_ := f3_.symm; clear f1_ f2_ f3_; subst f4_; subst f5_))
      refine norm_ (a' := ?_) ?_ ?_
      rotate_left
      ·simp only [putAll, Act.put, List.setIfInBounds_toArray, List.set_cons_zero, List.set_cons_succ]
       rfl
      refine one_ (i := 12) (N := none) #[true, true, true, true, true, true, true, true, true, true, true, true, true, false] rfl rfl (one_of HT_.out (by kernel_rfl)) (by decide) (fun K hK => ?_)
      have hs167 : w165.cell? ⟨gb963, 0, none⟩ = some (.slice none 0 0) := (blk_cell BK963.out 0).trans rfl
      have hfs167 := blk_frozen BK963.out 0
      have hns167_0 := NB861_963.out
      have hns167_1 := NB883_963.out
      have hns167_2 := NB884_963.out
      have hns167_3 := NB931_963.out
      have hms167_0 := NB963_861.out
      have hms167_1 := NB963_883.out
      have hms167_2 := NB963_884.out
      have hms167_3 := NB963_931.out
      have hs169 : w165.cell? ⟨gb963, 1, none⟩ = some (.slice none 0 0) := (blk_cell BK963.out 1).trans rfl
      have hfs169 := blk_frozen BK963.out 1
      have hns169_0 := NB861_963.out
      have hns169_1 := NB883_963.out
      have hns169_2 := NB884_963.out
      have hns169_3 := NB931_963.out
      have hms169_0 := NB963_861.out
      have hms169_1 := NB963_883.out
      have hms169_2 := NB963_884.out
      have hms169_3 := NB963_931.out
      refine skip_ (w1 := ?_) (by rfl) rfl ?_ ?_
      rotate_left
      ·go_simp
       rfl
      refine hK.out _ _ ⟨((cell_far (p := ⟨gb963, _, none⟩) NB861_963.out _).trans (((cell_far (p := ⟨gb963, _, none⟩) NB861_963.out _).trans (hHeld.1)))), ((cell_far (p := ⟨gb963, _, none⟩) NB861_963.out _).trans (((cell_far (p := ⟨gb963, _, none⟩) NB861_963.out _).trans (hHeld.2))))⟩ (fun hHeld => ?_)
      clear hK K
      refine pure_ (i := 13) (N := some 19) (v := ?_) (a' := ?_) #[true, true, true, true, true, true, true, true, true, true, true, true, true, true] rfl rfl (any_of HT_.out (by kernel_rfl)) (fun _ _ _ h => h) (Or.inl ⟨by rfl, ?_⟩) ?_ ?_
      rotate_left
      ·intro w'
       go_simp
       with_reducible rfl
      rotate_left
      ·simp only [Act.put, List.setIfInBounds_toArray, List.set_cons_zero, List.set_cons_succ, i64_w, i32_w]
       rfl
      refine done_ (done_of HT_.out (by kernel_rfl)) ?_
      try go_wp2
      have n0_ : Aside0 (Kd.R Kd.string 9 ((w165.setCell ⟨gb963, 0, none⟩ (.slice Ao166 t956.length co166)).setCell ⟨gb963, 1, none⟩ (.slice Ao168 t959.length co168)) w.heap.size (fun k_ => some k_ ≠ (.slice Ao65 t877.length co65 : Value).ownBlock ∧ some k_ ≠ (.slice Ao146 t924.length co146 : Value).ownBlock ∧ some k_ ≠ (.slice Ao153 t940.length co153 : Value).ownBlock ∧ some k_ ≠ (v954 : Value).ownBlock ∧ some k_ ≠ (.slice Ao166 t956.length co166 : Value).ownBlock) (.slice Ao61 t871.length co61) t871) := ⟨by (with_reducible repeat (first | apply Kd.R_alloc | apply Kd.R_drewN | apply Kd.R_drew)); exact Kd.R_mono (Kd.R_far (p := ⟨gb963, 1, none⟩) (Kd.R_far (p := ⟨gb963, 0, none⟩) (Kd.R_types HO_884000.out BK963.out (by decide)) (fun _ hk => hk.2) (.slice Ao166 t956.length co166)) (fun _ hk => hk.2) (.slice Ao168 t959.length co168)) (fun _ hk => ⟨hk.1.2.2.2.2, ⟨hk.1.1, ⟨hk.1.2.1, ⟨hk.1.2.2.1, hk.1.2.2.2.1⟩⟩⟩⟩)⟩
      have n1_ : Aside0 (Kd.R k104 104 ((w165.setCell ⟨gb963, 0, none⟩ (.slice Ao166 t956.length co166)).setCell ⟨gb963, 1, none⟩ (.slice Ao168 t959.length co168)) w.heap.size (fun k_ => some k_ ≠ (.slice Ao67 t880.length co67 : Value).ownBlock ∧ some k_ ≠ (.slice Ao151 t927.length co151 : Value).ownBlock ∧ some k_ ≠ (.slice Ao155 t943.length co155 : Value).ownBlock ∧ some k_ ≠ (.slice Ao168 t959.length co168 : Value).ownBlock) (.slice Ao63 t874.length co63) t874) := ⟨by (with_reducible repeat (first | apply Kd.R_alloc | apply Kd.R_drewN | apply Kd.R_drew)); exact Kd.R_mono (Kd.R_far (p := ⟨gb963, 1, none⟩) (Kd.R_far (p := ⟨gb963, 0, none⟩) (Kd.R_types HO_884001.out BK963.out (by decide)) (fun _ hk => hk.2) (.slice Ao166 t956.length co166)) (fun _ hk => hk.2) (.slice Ao168 t959.length co168)) (fun _ hk => ⟨hk.1.2.2.2, ⟨hk.1.1, ⟨hk.1.2.1, hk.1.2.2.1⟩⟩⟩)⟩
      have n2_ : Aside0 (Kd.R Kd.string 9 ((w165.setCell ⟨gb963, 0, none⟩ (.slice Ao166 t956.length co166)).setCell ⟨gb963, 1, none⟩ (.slice Ao168 t959.length co168)) w.heap.size (fun k_ => some k_ ≠ (.slice Ao61 t871.length co61 : Value).ownBlock ∧ some k_ ≠ (.slice Ao146 t924.length co146 : Value).ownBlock ∧ some k_ ≠ (.slice Ao153 t940.length co153 : Value).ownBlock ∧ some k_ ≠ (v954 : Value).ownBlock ∧ some k_ ≠ (.slice Ao166 t956.length co166 : Value).ownBlock) (.slice Ao65 t877.length co65) t877) := ⟨by (with_reducible repeat (first | apply Kd.R_alloc | apply Kd.R_drewN | apply Kd.R_drew)); exact Kd.R_mono (Kd.R_far (p := ⟨gb963, 1, none⟩) (Kd.R_far (p := ⟨gb963, 0, none⟩) (Kd.R_types HO_885000.out BK963.out (by decide)) (fun _ hk => hk.2) (.slice Ao166 t956.length co166)) (fun _ hk => hk.2) (.slice Ao168 t959.length co168)) (fun _ hk => ⟨hk.1.2.2.2.2, ⟨hk.1.1, ⟨hk.1.2.1, ⟨hk.1.2.2.1, hk.1.2.2.2.1⟩⟩⟩⟩)⟩
      have n3_ : Aside0 (Kd.R k104 104 ((w165.setCell ⟨gb963, 0, none⟩ (.slice Ao166 t956.length co166)).setCell ⟨gb963, 1, none⟩ (.slice Ao168 t959.length co168)) w.heap.size (fun k_ => some k_ ≠ (.slice Ao63 t874.length co63 : Value).ownBlock ∧ some k_ ≠ (.slice Ao151 t927.length co151 : Value).ownBlock ∧ some k_ ≠ (.slice Ao155 t943.length co155 : Value).ownBlock ∧ some k_ ≠ (.slice Ao168 t959.length co168 : Value).ownBlock) (.slice Ao67 t880.length co67) t880) := ⟨by (with_reducible repeat (first | apply Kd.R_alloc | apply Kd.R_drewN | apply Kd.R_drew)); exact Kd.R_mono (Kd.R_far (p := ⟨gb963, 1, none⟩) (Kd.R_far (p := ⟨gb963, 0, none⟩) (Kd.R_types HO_885001.out BK963.out (by decide)) (fun _ hk => hk.2) (.slice Ao166 t956.length co166)) (fun _ hk => hk.2) (.slice Ao168 t959.length co168)) (fun _ hk => ⟨hk.1.2.2.2, ⟨hk.1.1, ⟨hk.1.2.1, hk.1.2.2.1⟩⟩⟩)⟩
      have n4_ : Aside0 (Kd.R Kd.string 9 ((w165.setCell ⟨gb963, 0, none⟩ (.slice Ao166 t956.length co166)).setCell ⟨gb963, 1, none⟩ (.slice Ao168 t959.length co168)) w.heap.size (fun k_ => some k_ ≠ (.slice Ao61 t871.length co61 : Value).ownBlock ∧ some k_ ≠ (.slice Ao65 t877.length co65 : Value).ownBlock ∧ some k_ ≠ (.slice Ao153 t940.length co153 : Value).ownBlock ∧ some k_ ≠ (v954 : Value).ownBlock ∧ some k_ ≠ (.slice Ao166 t956.length co166 : Value).ownBlock) (.slice Ao146 t924.length co146) t924) := ⟨by (with_reducible repeat (first | apply Kd.R_alloc | apply Kd.R_drewN | apply Kd.R_drew)); exact Kd.R_mono (Kd.R_far (p := ⟨gb963, 1, none⟩) (Kd.R_far (p := ⟨gb963, 0, none⟩) (Kd.R_types HO926.out BK963.out (by decide)) (fun _ hk => hk.2) (.slice Ao166 t956.length co166)) (fun _ hk => hk.2) (.slice Ao168 t959.length co168)) (fun _ hk => ⟨hk.1.2.2.2.1, ⟨hk.1.2.2.2.2, ⟨hk.1.1, ⟨hk.1.2.1, hk.1.2.2.1⟩⟩⟩⟩)⟩
      have n5_ : Aside0 (Kd.R k104 104 ((w165.setCell ⟨gb963, 0, none⟩ (.slice Ao166 t956.length co166)).setCell ⟨gb963, 1, none⟩ (.slice Ao168 t959.length co168)) w.heap.size (fun k_ => some k_ ≠ (.slice Ao63 t874.length co63 : Value).ownBlock ∧ some k_ ≠ (.slice Ao67 t880.length co67 : Value).ownBlock ∧ some k_ ≠ (.slice Ao155 t943.length co155 : Value).ownBlock ∧ some k_ ≠ (.slice Ao168 t959.length co168 : Value).ownBlock) (.slice Ao151 t927.length co151) t927) := ⟨by (with_reducible repeat (first | apply Kd.R_alloc | apply Kd.R_drewN | apply Kd.R_drew)); exact Kd.R_mono (Kd.R_far (p := ⟨gb963, 1, none⟩) (Kd.R_far (p := ⟨gb963, 0, none⟩) (Kd.R_types HO929.out BK963.out (by decide)) (fun _ hk => hk.2) (.slice Ao166 t956.length co166)) (fun _ hk => hk.2) (.slice Ao168 t959.length co168)) (fun _ hk => ⟨hk.1.2.2.1, ⟨hk.1.2.2.2, ⟨hk.1.1, hk.1.2.1⟩⟩⟩)⟩
      have n6_ : Aside0 (Kd.R Kd.string 9 ((w165.setCell ⟨gb963, 0, none⟩ (.slice Ao166 t956.length co166)).setCell ⟨gb963, 1, none⟩ (.slice Ao168 t959.length co168)) w.heap.size (fun k_ => some k_ ≠ (.slice Ao61 t871.length co61 : Value).ownBlock ∧ some k_ ≠ (.slice Ao65 t877.length co65 : Value).ownBlock ∧ some k_ ≠ (.slice Ao146 t924.length co146 : Value).ownBlock ∧ some k_ ≠ (v954 : Value).ownBlock ∧ some k_ ≠ (.slice Ao166 t956.length co166 : Value).ownBlock) (.slice Ao153 t940.length co153) t940) := ⟨by (with_reducible repeat (first | apply Kd.R_alloc | apply Kd.R_drewN | apply Kd.R_drew)); exact Kd.R_mono (Kd.R_far (p := ⟨gb963, 1, none⟩) (Kd.R_far (p := ⟨gb963, 0, none⟩) (Kd.R_types HO942.out BK963.out (by decide)) (fun _ hk => hk.2) (.slice Ao166 t956.length co166)) (fun _ hk => hk.2) (.slice Ao168 t959.length co168)) (fun _ hk => ⟨hk.1.2.2.2.1, ⟨hk.1.2.2.2.2, ⟨hk.1.1, ⟨hk.1.2.1, hk.1.2.2.1⟩⟩⟩⟩)⟩
      have n7_ : Aside0 (Kd.R k104 104 ((w165.setCell ⟨gb963, 0, none⟩ (.slice Ao166 t956.length co166)).setCell ⟨gb963, 1, none⟩ (.slice Ao168 t959.length co168)) w.heap.size (fun k_ => some k_ ≠ (.slice Ao63 t874.length co63 : Value).ownBlock ∧ some k_ ≠ (.slice Ao67 t880.length co67 : Value).ownBlock ∧ some k_ ≠ (.slice Ao151 t927.length co151 : Value).ownBlock ∧ some k_ ≠ (.slice Ao168 t959.length co168 : Value).ownBlock) (.slice Ao155 t943.length co155) t943) := ⟨by (with_reducible repeat (first | apply Kd.R_alloc | apply Kd.R_drewN | apply Kd.R_drew)); exact Kd.R_mono (Kd.R_far (p := ⟨gb963, 1, none⟩) (Kd.R_far (p := ⟨gb963, 0, none⟩) (Kd.R_types HO945.out BK963.out (by decide)) (fun _ hk => hk.2) (.slice Ao166 t956.length co166)) (fun _ hk => hk.2) (.slice Ao168 t959.length co168)) (fun _ hk => ⟨hk.1.2.2.1, ⟨hk.1.2.2.2, ⟨hk.1.1, hk.1.2.1⟩⟩⟩)⟩
      have n8_ : Aside0 (Kd.R Kd.string 9 ((w165.setCell ⟨gb963, 0, none⟩ (.slice Ao166 t956.length co166)).setCell ⟨gb963, 1, none⟩ (.slice Ao168 t959.length co168)) w.heap.size (fun k_ => some k_ ≠ (.slice Ao61 t871.length co61 : Value).ownBlock ∧ some k_ ≠ (.slice Ao65 t877.length co65 : Value).ownBlock ∧ some k_ ≠ (.slice Ao146 t924.length co146 : Value).ownBlock ∧ some k_ ≠ (.slice Ao153 t940.length co153 : Value).ownBlock ∧ some k_ ≠ (.slice Ao166 t956.length co166 : Value).ownBlock) v954 y953) := ⟨by (with_reducible repeat (first | apply Kd.R_alloc | apply Kd.R_drewN | apply Kd.R_drew)); exact Kd.R_mono (Kd.R_far (p := ⟨gb963, 1, none⟩) (Kd.R_far (p := ⟨gb963, 0, none⟩) (Kd.R_types HO955.out BK963.out (by decide)) (fun _ hk => hk.2) (.slice Ao166 t956.length co166)) (fun _ hk => hk.2) (.slice Ao168 t959.length co168)) (fun _ hk => ⟨hk.1.2.2.2.1, ⟨hk.1.2.2.2.2, ⟨hk.1.1, ⟨hk.1.2.1, hk.1.2.2.1⟩⟩⟩⟩)⟩
      have n9_ : Aside0 (Kd.R Kd.string 9 ((w165.setCell ⟨gb963, 0, none⟩ (.slice Ao166 t956.length co166)).setCell ⟨gb963, 1, none⟩ (.slice Ao168 t959.length co168)) w.heap.size (fun k_ => some k_ ≠ (.slice Ao61 t871.length co61 : Value).ownBlock ∧ some k_ ≠ (.slice Ao65 t877.length co65 : Value).ownBlock ∧ some k_ ≠ (.slice Ao146 t924.length co146 : Value).ownBlock ∧ some k_ ≠ (.slice Ao153 t940.length co153 : Value).ownBlock ∧ some k_ ≠ (v954 : Value).ownBlock) (.slice Ao166 t956.length co166) t956) := ⟨by (with_reducible repeat (first | apply Kd.R_alloc | apply Kd.R_drewN | apply Kd.R_drew)); exact Kd.R_mono (Kd.R_far (p := ⟨gb963, 1, none⟩) (Kd.R_far (p := ⟨gb963, 0, none⟩) (Kd.R_types HO958.out BK963.out (by decide)) (fun _ hk => hk.2) (.slice Ao166 t956.length co166)) (fun _ hk => hk.2) (.slice Ao168 t959.length co168)) (fun _ hk => ⟨hk.1.2.2.2.1, ⟨hk.1.2.2.2.2, ⟨hk.1.1, ⟨hk.1.2.1, hk.1.2.2.1⟩⟩⟩⟩)⟩
      have n10_ : Aside0 (Kd.R k104 104 ((w165.setCell ⟨gb963, 0, none⟩ (.slice Ao166 t956.length co166)).setCell ⟨gb963, 1, none⟩ (.slice Ao168 t959.length co168)) w.heap.size (fun k_ => some k_ ≠ (.slice Ao63 t874.length co63 : Value).ownBlock ∧ some k_ ≠ (.slice Ao67 t880.length co67 : Value).ownBlock ∧ some k_ ≠ (.slice Ao151 t927.length co151 : Value).ownBlock ∧ some k_ ≠ (.slice Ao155 t943.length co155 : Value).ownBlock) (.slice Ao168 t959.length co168) t959) := ⟨by (with_reducible repeat (first | apply Kd.R_alloc | apply Kd.R_drewN | apply Kd.R_drew)); exact Kd.R_mono (Kd.R_far (p := ⟨gb963, 1, none⟩) (Kd.R_far (p := ⟨gb963, 0, none⟩) (Kd.R_types HO961.out BK963.out (by decide)) (fun _ hk => hk.2) (.slice Ao166 t956.length co166)) (fun _ hk => hk.2) (.slice Ao168 t959.length co168)) (fun _ hk => ⟨hk.1.2.2.1, ⟨hk.1.2.2.2, ⟨hk.1.1, hk.1.2.1⟩⟩⟩)⟩
      have n11_ : Aside0 (((w165.setCell ⟨gb963, 0, none⟩ (.slice Ao166 t956.length co166)).setCell ⟨gb963, 1, none⟩ (.slice Ao168 t959.length co168)).heap[gb861]? = some (.cells #[.slice A0_0 l0_0.length c0_0, .slice A0_1 l0_1.length c0_1] 86 (0, 0))) := ⟨by (with_reducible repeat (first | refine blk_drewN ?_ _ | refine blk_drew ?_ | refine blk_alloc ?_ _)); refine blk_far ?_ NB861_963.out _; (with_reducible repeat (first | refine blk_drewN ?_ _ | refine blk_drew ?_ | refine blk_alloc ?_ _)); refine blk_far ?_ NB861_963.out _; (with_reducible repeat (first | refine blk_drewN ?_ _ | refine blk_drew ?_ | refine blk_alloc ?_ _)); exact BK861.out⟩
      have n12_ : Aside0 (((w165.setCell ⟨gb963, 0, none⟩ (.slice Ao166 t956.length co166)).setCell ⟨gb963, 1, none⟩ (.slice Ao168 t959.length co168)).heap[gb883]? = some (.cells #[.slice Ao61 t871.length co61, .slice Ao63 t874.length co63] 86 (0, 0))) := ⟨by (with_reducible repeat (first | refine blk_drewN ?_ _ | refine blk_drew ?_ | refine blk_alloc ?_ _)); refine blk_far ?_ NB883_963.out _; (with_reducible repeat (first | refine blk_drewN ?_ _ | refine blk_drew ?_ | refine blk_alloc ?_ _)); refine blk_far ?_ NB883_963.out _; (with_reducible repeat (first | refine blk_drewN ?_ _ | refine blk_drew ?_ | refine blk_alloc ?_ _)); exact BK883.out⟩
      have n13_ : Aside0 (((w165.setCell ⟨gb963, 0, none⟩ (.slice Ao166 t956.length co166)).setCell ⟨gb963, 1, none⟩ (.slice Ao168 t959.length co168)).heap[gb884]? = some (.cells #[.slice Ao65 t877.length co65, .slice Ao67 t880.length co67] 86 (0, 0))) := ⟨by (with_reducible repeat (first | refine blk_drewN ?_ _ | refine blk_drew ?_ | refine blk_alloc ?_ _)); refine blk_far ?_ NB884_963.out _; (with_reducible repeat (first | refine blk_drewN ?_ _ | refine blk_drew ?_ | refine blk_alloc ?_ _)); refine blk_far ?_ NB884_963.out _; (with_reducible repeat (first | refine blk_drewN ?_ _ | refine blk_drew ?_ | refine blk_alloc ?_ _)); exact BK884.out⟩
      have n14_ : Aside0 (((w165.setCell ⟨gb963, 0, none⟩ (.slice Ao166 t956.length co166)).setCell ⟨gb963, 1, none⟩ (.slice Ao168 t959.length co168)).heap[gb931]? = some (.cells #[.slice Ao153 t940.length co153, .slice Ao155 t943.length co155] 86 (0, 0))) := ⟨by (with_reducible repeat (first | refine blk_drewN ?_ _ | refine blk_drew ?_ | refine blk_alloc ?_ _)); refine blk_far ?_ NB931_963.out _; (with_reducible repeat (first | refine blk_drewN ?_ _ | refine blk_drew ?_ | refine blk_alloc ?_ _)); refine blk_far ?_ NB931_963.out _; (with_reducible repeat (first | refine blk_drewN ?_ _ | refine blk_drew ?_ | refine blk_alloc ?_ _)); exact BK931.out⟩
      have n15_ : Aside0 (((w165.setCell ⟨gb963, 0, none⟩ (.slice Ao166 t956.length co166)).setCell ⟨gb963, 1, none⟩ (.slice Ao168 t959.length co168)).heap[gb963]? = some (.cells #[.slice Ao166 t956.length co166, .slice Ao168 t959.length co168] 86 (0, 0))) := ⟨by (with_reducible repeat (first | refine blk_drewN ?_ _ | refine blk_drew ?_ | refine blk_alloc ?_ _)); refine blk_put (cs := #[.slice Ao166 t956.length co166, .slice none 0 0]) ?_ 1 _ rfl; (with_reducible repeat (first | refine blk_drewN ?_ _ | refine blk_drew ?_ | refine blk_alloc ?_ _)); refine blk_put (cs := #[.slice none 0 0, .slice none 0 0]) ?_ 0 _ rfl; (with_reducible repeat (first | refine blk_drewN ?_ _ | refine blk_drew ?_ | refine blk_alloc ?_ _)); exact BK963.out⟩
      have n16_ : Aside0 (Below w.heap.size w ((w165.setCell ⟨gb963, 0, none⟩ (.slice Ao166 t956.length co166)).setCell ⟨gb963, 1, none⟩ (.slice Ao168 t959.length co168))) := ⟨by repeat (first | (with_reducible first | exact HB.out | apply below_alloc | apply pw_below_drewN | apply below_drew1 | refine below_set ?_ GE861.out | refine below_set ?_ GE883.out | refine below_set ?_ GE884.out | refine below_set ?_ GE931.out | refine below_set ?_ GE963.out) | exact HB.out)⟩
      (try clear HO_884000)
      (try clear HO_884001)
      (try clear HO_885000)
      (try clear HO_885001)
      (try clear HO926)
      (try clear HO929)
      (try clear HO942)
      (try clear HO945)
      (try clear HO955)
      (try clear HO958)
      (try clear HO961)
      (try clear BK861)
      (try clear BK883)
      (try clear BK884)
      (try clear BK931)
      (try clear BK963)
      (try clear HB)
      generalize ((w165.setCell ⟨gb963, 0, none⟩ (.slice Ao166 t956.length co166)).setCell ⟨gb963, 1, none⟩ (.slice Ao168 t959.length co168)) = w170 at n0_ n1_ n2_ n3_ n4_ n5_ n6_ n7_ n8_ n9_ n10_ n11_ n12_ n13_ n14_ n15_ n16_ ⊢
      have HO_884000 := n0_
      have HO_884001 := n1_
      have HO_885000 := n2_
      have HO_885001 := n3_
      have HO926 := n4_
      have HO929 := n5_
      have HO942 := n6_
      have HO945 := n7_
      have HO955 := n8_
      have HO958 := n9_
      have HO961 := n10_
      have BK861 := n11_
      have BK883 := n12_
      have BK884 := n13_
      have BK931 := n14_
      have BK963 := n15_
      have HB := n16_
      clear n0_ n1_ n2_ n3_ n4_ n5_ n6_ n7_ n8_ n9_ n10_ n11_ n12_ n13_ n14_ n15_ n16_
      replace HO_884000 := Aside0.mk (Kd.R_drew HO_884000.out)
      replace HO_884001 := Aside0.mk (Kd.R_drew HO_884001.out)
      replace HO_885000 := Aside0.mk (Kd.R_drew HO_885000.out)
      replace HO_885001 := Aside0.mk (Kd.R_drew HO_885001.out)
      replace HO926 := Aside0.mk (Kd.R_drew HO926.out)
      replace HO929 := Aside0.mk (Kd.R_drew HO929.out)
      replace HO942 := Aside0.mk (Kd.R_drew HO942.out)
      replace HO945 := Aside0.mk (Kd.R_drew HO945.out)
      replace HO955 := Aside0.mk (Kd.R_drew HO955.out)
      replace HO958 := Aside0.mk (Kd.R_drew HO958.out)
      replace HO961 := Aside0.mk (Kd.R_drew HO961.out)
      replace BK861 := Aside0.mk (blk_drew BK861.out)
      replace BK883 := Aside0.mk (blk_drew BK883.out)
      replace BK884 := Aside0.mk (blk_drew BK884.out)
      replace BK931 := Aside0.mk (blk_drew BK931.out)
      replace BK963 := Aside0.mk (blk_drew BK963.out)
      replace HB := Aside0.mk (below_drew1 HB.out)
      by_cases c136 : t946 = 0
      ·rw [if_pos c136] at H
       have c136b0 : (t946 == 0) = true := beq_iff_eq.mpr c136
       have c136b1 : (t946 != 0) = false := bne_eq_false_iff_eq.mpr c136
       clear c136
       replace H := Option.bind_eq_some_iff.mp H
       obtain ⟨⟨t964, t967⟩, A1370, H⟩ := H
       try dsimp only at H
       have A137 := Aside0.mk A1370
       clear A1370
       replace H := Option.bind_eq_some_iff.mp H
       obtain ⟨t970, A1380, H⟩ := H
       try dsimp only at H
       have A138 := Aside0.mk A1380
       clear A1380
       by_cases c139 : t970 = true
       ·subst c139
        have H1 : ((weirkeeperlaw04_awake.f).bind fun t971 => (some t971)) = some true := by rw [if_pos rfl] at H; exact H
        clear H
        have H := H1
        clear H1
        replace H := Option.bind_eq_some_iff.mp H
        obtain ⟨t971, A1400, H⟩ := H
        try dsimp only at H
        have A140 := Aside0.mk A1400
        clear A1400
        (have H9_ := Option.some.inj H; first | subst H9_ | (have h9_ := Aside0.mk H9_; clear H9_))
        refine start_ (n := 17) (S := fun w' => w'.cell? ⟨gb931, 0, none⟩ = some (.slice Ao153 t940.length co153) ∧ w'.cell? ⟨gb931, 1, none⟩ = some (.slice Ao155 t943.length co155) ∧ w'.cell? ⟨gb963, 0, none⟩ = some (.slice Ao166 t956.length co166) ∧ w'.cell? ⟨gb963, 1, none⟩ = some (.slice Ao168 t959.length co168)) (ds := []) #[false, false, false, false, false, false, false, false, false, false, false, false, false, false, false, false, false] (by kernel_rfl) rfl rfl ⟨(blk_cell BK931.out 0).trans rfl, (blk_cell BK931.out 1).trans rfl, (blk_cell BK963.out 0).trans rfl, (blk_cell BK963.out 1).trans rfl⟩ (fun hHeld => ?_); refine with_tabW weirkeeperlaw04_DiskOnce.tab11 weirkeeperlaw04_DiskOnce.bits11 (fun HT_ HW_ => ?_)
        generalize w170.drew = w171 at HO_884000 HO_884001 HO_885000 HO_885001 HO926 HO929 HO942 HO945 HO955 HO958 HO961 BK861 BK883 BK884 BK931 BK963 HB hHeld ⊢
        refine pure_ (i := 0) (N := some 115) (v := ?_) (a' := ?_) #[true, false, false, false, false, false, false, false, false, false, false, false, false, false, false, false, false] rfl rfl (any_of HT_.out (by kernel_rfl)) (fun _ _ _ h => h) (Or.inl ⟨by rfl, ?_⟩) ?_ ?_
        rotate_left
        ·intro w'
         go_simp
         with_reducible rfl
        rotate_left
        ·simp only [Act.put, List.setIfInBounds_toArray, List.set_cons_zero, List.set_cons_succ, i64_w, i32_w]
         rfl
        refine pure_ (i := 1) (N := some 116) (v := ?_) (a' := ?_) #[true, true, false, false, false, false, false, false, false, false, false, false, false, false, false, false, false] rfl rfl (any_of HT_.out (by kernel_rfl)) (fun _ _ _ h => h) (Or.inl ⟨by rfl, ?_⟩) ?_ ?_
        rotate_left
        ·intro w'
         go_simp
         with_reducible rfl
        rotate_left
        ·simp only [Act.put, List.setIfInBounds_toArray, List.set_cons_zero, List.set_cons_succ, i64_w, i32_w]
         rfl
        refine pure_ (i := 2) (N := some 117) (v := ?_) (a' := ?_) #[true, true, true, false, false, false, false, false, false, false, false, false, false, false, false, false, false] rfl rfl (any_of HT_.out (by kernel_rfl)) (fun _ _ _ h => h) (Or.inl ⟨by rfl, ?_⟩) ?_ ?_
        rotate_left
        ·intro w'
         go_simp
         with_reducible rfl
        rotate_left
        ·simp only [Act.put, List.setIfInBounds_toArray, List.set_cons_zero, List.set_cons_succ, i64_w, i32_w]
         rfl
        refine pure_ (i := 3) (N := some 118) (v := ?_) (a' := ?_) #[true, true, true, true, false, false, false, false, false, false, false, false, false, false, false, false, false] rfl rfl (any_of HT_.out (by kernel_rfl)) (fun _ _ _ h => h) (Or.inl ⟨by rfl, ?_⟩) ?_ ?_
        rotate_left
        ·intro w'
         go_simp
         with_reducible rfl
        rotate_left
        ·simp only [Act.put, List.setIfInBounds_toArray, List.set_cons_zero, List.set_cons_succ, i64_w, i32_w]
         rfl
        refine pure_ (i := 4) (N := some 119) (v := ?_) (a' := ?_) #[true, true, true, true, true, false, false, false, false, false, false, false, false, false, false, false, false] rfl rfl (any_of HT_.out (by kernel_rfl)) (fun _ _ _ h => h) (Or.inl ⟨by rfl, ?_⟩) ?_ ?_
        rotate_left
        ·intro w'
         go_simp
         with_reducible rfl
        rotate_left
        ·simp only [Act.put, List.setIfInBounds_toArray, List.set_cons_zero, List.set_cons_succ, i64_w, i32_w]
         rfl
        refine pure_ (i := 5) (N := some 120) (v := ?_) (a' := ?_) #[true, true, true, true, true, true, false, false, false, false, false, false, false, false, false, false, false] rfl rfl (any_of HT_.out (by kernel_rfl)) (fun _ _ _ h => h) (Or.inl ⟨by rfl, ?_⟩) ?_ ?_
        rotate_left
        ·intro w'
         go_simp
         with_reducible rfl
        rotate_left
        ·simp only [Act.put, List.setIfInBounds_toArray, List.set_cons_zero, List.set_cons_succ, i64_w, i32_w]
         rfl
        refine pure_ (i := 6) (N := some 121) (v := ?_) (a' := ?_) #[true, true, true, true, true, true, true, false, false, false, false, false, false, false, false, false, false] rfl rfl (any_of HT_.out (by kernel_rfl)) (fun _ _ _ h => h) (Or.inl ⟨by rfl, ?_⟩) ?_ ?_
        rotate_left
        ·intro w'
         go_simp
         with_reducible rfl
        rotate_left
        ·simp only [Act.put, List.setIfInBounds_toArray, List.set_cons_zero, List.set_cons_succ, i64_w, i32_w]
         rfl
        refine take_ (i := 7) (N := some 122) (v := ?_) (a' := ?_) #[true, true, true, true, true, true, true, true, false, false, false, false, false, false, false, false, false] rfl rfl (take_ofW HT_.out HW_.out (by kernel_rfl)) (fun _ _ _ h => h) (Or.inl ⟨by rfl, ?_⟩) hHeld ?_ ?_
        rotate_left
        ·rintro w' ⟨s0, s1, s2, s3⟩
         go_simp
         with_reducible rfl
        rotate_left
        ·simp only [Act.put, List.setIfInBounds_toArray, List.set_cons_zero, List.set_cons_succ, i64_w, i32_w]
         rfl
        refine take_ (i := 8) (N := some 123) (v := ?_) (a' := ?_) #[true, true, true, true, true, true, true, true, true, false, false, false, false, false, false, false, false] rfl rfl (take_ofW HT_.out HW_.out (by kernel_rfl)) (fun _ _ _ h => h) (Or.inl ⟨by rfl, ?_⟩) hHeld ?_ ?_
        rotate_left
        ·rintro w' ⟨s0, s1, s2, s3⟩
         go_simp
         with_reducible rfl
        rotate_left
        ·simp only [Act.put, List.setIfInBounds_toArray, List.set_cons_zero, List.set_cons_succ, i64_w, i32_w]
         rfl
        refine one_ (i := 9) (N := some 124) #[true, true, true, true, true, true, true, true, true, true, false, false, false, false, false, false, false] rfl rfl (one_of HT_.out (by kernel_rfl)) (by decide) (fun K hK => ?_)
        refine goes_ Try.func47 (by kernel_rfl) rfl #[.agg #[.slice Ao166 t956.length co166, .slice Ao168 t959.length co168]] (by rfl) rfl rfl (by (try simp only [List.map_toArray, List.map_cons, List.map_nil]); first | done | rfl | (simp only [List.length_drop, List.length_take]; rfl)) ?_
        with_reducible refine (weirkeeperlaw04_Ref.calls kj53 (fun k_ => some k_ = (.slice Ao166 t956.length co166 : Value).ownBlock) _ _ t956 _ _ t959 t964 t967 _ ?side1 ?side2 ?side3 A137.out).mono ?_
        (case side1 => exact Kd.R_V (Kd.R_tight rfl (Kd.R_types (Kd.R_types (Kd.R_types (Kd.R_types (Kd.R_types (Kd.R_apart' (Kd.R_apart' (Kd.R_apart' (Kd.R_apart' (Kd.R_apart' (HO958.out) (Kd.R_typed HO_884001.out) (by decide)) (Kd.R_typed HO_885001.out) (by decide)) (Kd.R_typed HO929.out) (by decide)) (Kd.R_typed HO945.out) (by decide)) (Kd.R_typed HO961.out) (by decide)) BK861.out (by decide)) BK883.out (by decide)) BK884.out (by decide)) BK931.out (by decide)) BK963.out (by decide))))
        (case side2 => repeat (first | exact (Kd.R_reads' HO961.out).2.2 | (with_reducible refine Kd.C_alloc ?_ _) | (with_reducible refine Kd.C_drewN ?_ _) | (with_reducible refine Kd.C_drew ?_)))
        (case side3 => exact (Kd.R_reads' HO961.out).2.1)
        rintro e w172 ⟨v965, v968, rfl, ho0, ho1, hb⟩
        refine ⟨_, rfl, ?_⟩
        have HO966 := Aside0.mk (Kd.V_lower (Kd.V_mono (ok' := fun k_ => some k_ ≠ (v968 : Value).ownBlock ∧ some k_ ≠ (.slice Ao61 t871.length co61 : Value).ownBlock ∧ some k_ ≠ (.slice Ao63 t874.length co63 : Value).ownBlock ∧ some k_ ≠ (.slice Ao65 t877.length co65 : Value).ownBlock ∧ some k_ ≠ (.slice Ao67 t880.length co67 : Value).ownBlock ∧ some k_ ≠ (.slice Ao146 t924.length co146 : Value).ownBlock ∧ some k_ ≠ (.slice Ao151 t927.length co151 : Value).ownBlock ∧ some k_ ≠ (.slice Ao153 t940.length co153 : Value).ownBlock ∧ some k_ ≠ (.slice Ao155 t943.length co155 : Value).ownBlock ∧ some k_ ≠ (v954 : Value).ownBlock ∧ some k_ ≠ (.slice Ao168 t959.length co168 : Value).ownBlock ∧ k_ ≠ gb861 ∧ k_ ≠ gb883 ∧ k_ ≠ gb884 ∧ k_ ≠ gb931 ∧ k_ ≠ gb963) ho0 (fun k_ hk_ => ⟨hk_.2, Or.elim hk_.1 (fun hs_ => ((Kd.R_types (Kd.R_types (Kd.R_types (Kd.R_types (Kd.R_types (Kd.R_apart' (Kd.R_apart' (Kd.R_apart' (Kd.R_apart' (Kd.R_apart' (HO958.out) (Kd.R_typed HO_884001.out) (by decide)) (Kd.R_typed HO_885001.out) (by decide)) (Kd.R_typed HO929.out) (by decide)) (Kd.R_typed HO945.out) (by decide)) (Kd.R_typed HO961.out) (by decide)) BK861.out (by decide)) BK883.out (by decide)) BK884.out (by decide)) BK931.out (by decide)) BK963.out (by decide)).1 k_ hs_.symm).1.1.1.1.1.1.1.1.1.1.1) (fun hn_ => (Kd.fresh' (Kd.R_lt (rU HO_884000.out)) k_ hn_)), Or.elim hk_.1 (fun hs_ => ((Kd.R_types (Kd.R_types (Kd.R_types (Kd.R_types (Kd.R_types (Kd.R_apart' (Kd.R_apart' (Kd.R_apart' (Kd.R_apart' (Kd.R_apart' (HO958.out) (Kd.R_typed HO_884001.out) (by decide)) (Kd.R_typed HO_885001.out) (by decide)) (Kd.R_typed HO929.out) (by decide)) (Kd.R_typed HO945.out) (by decide)) (Kd.R_typed HO961.out) (by decide)) BK861.out (by decide)) BK883.out (by decide)) BK884.out (by decide)) BK931.out (by decide)) BK963.out (by decide)).1 k_ hs_.symm).1.1.1.1.1.1.1.1.1.2) (fun hn_ => (Kd.fresh' (Kd.R_lt (rU HO_884001.out)) k_ hn_)), Or.elim hk_.1 (fun hs_ => ((Kd.R_types (Kd.R_types (Kd.R_types (Kd.R_types (Kd.R_types (Kd.R_apart' (Kd.R_apart' (Kd.R_apart' (Kd.R_apart' (Kd.R_apart' (HO958.out) (Kd.R_typed HO_884001.out) (by decide)) (Kd.R_typed HO_885001.out) (by decide)) (Kd.R_typed HO929.out) (by decide)) (Kd.R_typed HO945.out) (by decide)) (Kd.R_typed HO961.out) (by decide)) BK861.out (by decide)) BK883.out (by decide)) BK884.out (by decide)) BK931.out (by decide)) BK963.out (by decide)).1 k_ hs_.symm).1.1.1.1.1.1.1.1.1.1.2.1) (fun hn_ => (Kd.fresh' (Kd.R_lt (rU HO_885000.out)) k_ hn_)), Or.elim hk_.1 (fun hs_ => ((Kd.R_types (Kd.R_types (Kd.R_types (Kd.R_types (Kd.R_types (Kd.R_apart' (Kd.R_apart' (Kd.R_apart' (Kd.R_apart' (Kd.R_apart' (HO958.out) (Kd.R_typed HO_884001.out) (by decide)) (Kd.R_typed HO_885001.out) (by decide)) (Kd.R_typed HO929.out) (by decide)) (Kd.R_typed HO945.out) (by decide)) (Kd.R_typed HO961.out) (by decide)) BK861.out (by decide)) BK883.out (by decide)) BK884.out (by decide)) BK931.out (by decide)) BK963.out (by decide)).1 k_ hs_.symm).1.1.1.1.1.1.1.1.2) (fun hn_ => (Kd.fresh' (Kd.R_lt (rU HO_885001.out)) k_ hn_)), Or.elim hk_.1 (fun hs_ => ((Kd.R_types (Kd.R_types (Kd.R_types (Kd.R_types (Kd.R_types (Kd.R_apart' (Kd.R_apart' (Kd.R_apart' (Kd.R_apart' (Kd.R_apart' (HO958.out) (Kd.R_typed HO_884001.out) (by decide)) (Kd.R_typed HO_885001.out) (by decide)) (Kd.R_typed HO929.out) (by decide)) (Kd.R_typed HO945.out) (by decide)) (Kd.R_typed HO961.out) (by decide)) BK861.out (by decide)) BK883.out (by decide)) BK884.out (by decide)) BK931.out (by decide)) BK963.out (by decide)).1 k_ hs_.symm).1.1.1.1.1.1.1.1.1.1.2.2.1) (fun hn_ => (Kd.fresh' (Kd.R_lt (rU HO926.out)) k_ hn_)), Or.elim hk_.1 (fun hs_ => ((Kd.R_types (Kd.R_types (Kd.R_types (Kd.R_types (Kd.R_types (Kd.R_apart' (Kd.R_apart' (Kd.R_apart' (Kd.R_apart' (Kd.R_apart' (HO958.out) (Kd.R_typed HO_884001.out) (by decide)) (Kd.R_typed HO_885001.out) (by decide)) (Kd.R_typed HO929.out) (by decide)) (Kd.R_typed HO945.out) (by decide)) (Kd.R_typed HO961.out) (by decide)) BK861.out (by decide)) BK883.out (by decide)) BK884.out (by decide)) BK931.out (by decide)) BK963.out (by decide)).1 k_ hs_.symm).1.1.1.1.1.1.1.2) (fun hn_ => (Kd.fresh' (Kd.R_lt (rU HO929.out)) k_ hn_)), Or.elim hk_.1 (fun hs_ => ((Kd.R_types (Kd.R_types (Kd.R_types (Kd.R_types (Kd.R_types (Kd.R_apart' (Kd.R_apart' (Kd.R_apart' (Kd.R_apart' (Kd.R_apart' (HO958.out) (Kd.R_typed HO_884001.out) (by decide)) (Kd.R_typed HO_885001.out) (by decide)) (Kd.R_typed HO929.out) (by decide)) (Kd.R_typed HO945.out) (by decide)) (Kd.R_typed HO961.out) (by decide)) BK861.out (by decide)) BK883.out (by decide)) BK884.out (by decide)) BK931.out (by decide)) BK963.out (by decide)).1 k_ hs_.symm).1.1.1.1.1.1.1.1.1.1.2.2.2.1) (fun hn_ => (Kd.fresh' (Kd.R_lt (rU HO942.out)) k_ hn_)), Or.elim hk_.1 (fun hs_ => ((Kd.R_types (Kd.R_types (Kd.R_types (Kd.R_types (Kd.R_types (Kd.R_apart' (Kd.R_apart' (Kd.R_apart' (Kd.R_apart' (Kd.R_apart' (HO958.out) (Kd.R_typed HO_884001.out) (by decide)) (Kd.R_typed HO_885001.out) (by decide)) (Kd.R_typed HO929.out) (by decide)) (Kd.R_typed HO945.out) (by decide)) (Kd.R_typed HO961.out) (by decide)) BK861.out (by decide)) BK883.out (by decide)) BK884.out (by decide)) BK931.out (by decide)) BK963.out (by decide)).1 k_ hs_.symm).1.1.1.1.1.1.2) (fun hn_ => (Kd.fresh' (Kd.R_lt (rU HO945.out)) k_ hn_)), Or.elim hk_.1 (fun hs_ => ((Kd.R_types (Kd.R_types (Kd.R_types (Kd.R_types (Kd.R_types (Kd.R_apart' (Kd.R_apart' (Kd.R_apart' (Kd.R_apart' (Kd.R_apart' (HO958.out) (Kd.R_typed HO_884001.out) (by decide)) (Kd.R_typed HO_885001.out) (by decide)) (Kd.R_typed HO929.out) (by decide)) (Kd.R_typed HO945.out) (by decide)) (Kd.R_typed HO961.out) (by decide)) BK861.out (by decide)) BK883.out (by decide)) BK884.out (by decide)) BK931.out (by decide)) BK963.out (by decide)).1 k_ hs_.symm).1.1.1.1.1.1.1.1.1.1.2.2.2.2) (fun hn_ => (Kd.fresh' (Kd.R_lt (rU HO955.out)) k_ hn_)), Or.elim hk_.1 (fun hs_ => ((Kd.R_types (Kd.R_types (Kd.R_types (Kd.R_types (Kd.R_types (Kd.R_apart' (Kd.R_apart' (Kd.R_apart' (Kd.R_apart' (Kd.R_apart' (HO958.out) (Kd.R_typed HO_884001.out) (by decide)) (Kd.R_typed HO_885001.out) (by decide)) (Kd.R_typed HO929.out) (by decide)) (Kd.R_typed HO945.out) (by decide)) (Kd.R_typed HO961.out) (by decide)) BK861.out (by decide)) BK883.out (by decide)) BK884.out (by decide)) BK931.out (by decide)) BK963.out (by decide)).1 k_ hs_.symm).1.1.1.1.1.2) (fun hn_ => (Kd.fresh' (Kd.R_lt (rU HO961.out)) k_ hn_)), Or.elim hk_.1 (fun hs_ => ((Kd.R_types (Kd.R_types (Kd.R_types (Kd.R_types (Kd.R_types (Kd.R_apart' (Kd.R_apart' (Kd.R_apart' (Kd.R_apart' (Kd.R_apart' (HO958.out) (Kd.R_typed HO_884001.out) (by decide)) (Kd.R_typed HO_885001.out) (by decide)) (Kd.R_typed HO929.out) (by decide)) (Kd.R_typed HO945.out) (by decide)) (Kd.R_typed HO961.out) (by decide)) BK861.out (by decide)) BK883.out (by decide)) BK884.out (by decide)) BK931.out (by decide)) BK963.out (by decide)).1 k_ hs_.symm).1.1.1.1.2) (fun hn_ => (Kd.freshB (g := gb861) (o := .cells #[.slice A0_0 l0_0.length c0_0, .slice A0_1 l0_1.length c0_1] 86 (0, 0)) (bU BK861.out) k_ hn_)), Or.elim hk_.1 (fun hs_ => ((Kd.R_types (Kd.R_types (Kd.R_types (Kd.R_types (Kd.R_types (Kd.R_apart' (Kd.R_apart' (Kd.R_apart' (Kd.R_apart' (Kd.R_apart' (HO958.out) (Kd.R_typed HO_884001.out) (by decide)) (Kd.R_typed HO_885001.out) (by decide)) (Kd.R_typed HO929.out) (by decide)) (Kd.R_typed HO945.out) (by decide)) (Kd.R_typed HO961.out) (by decide)) BK861.out (by decide)) BK883.out (by decide)) BK884.out (by decide)) BK931.out (by decide)) BK963.out (by decide)).1 k_ hs_.symm).1.1.1.2) (fun hn_ => (Kd.freshB (g := gb883) (o := .cells #[.slice Ao61 t871.length co61, .slice Ao63 t874.length co63] 86 (0, 0)) (bU BK883.out) k_ hn_)), Or.elim hk_.1 (fun hs_ => ((Kd.R_types (Kd.R_types (Kd.R_types (Kd.R_types (Kd.R_types (Kd.R_apart' (Kd.R_apart' (Kd.R_apart' (Kd.R_apart' (Kd.R_apart' (HO958.out) (Kd.R_typed HO_884001.out) (by decide)) (Kd.R_typed HO_885001.out) (by decide)) (Kd.R_typed HO929.out) (by decide)) (Kd.R_typed HO945.out) (by decide)) (Kd.R_typed HO961.out) (by decide)) BK861.out (by decide)) BK883.out (by decide)) BK884.out (by decide)) BK931.out (by decide)) BK963.out (by decide)).1 k_ hs_.symm).1.1.2) (fun hn_ => (Kd.freshB (g := gb884) (o := .cells #[.slice Ao65 t877.length co65, .slice Ao67 t880.length co67] 86 (0, 0)) (bU BK884.out) k_ hn_)), Or.elim hk_.1 (fun hs_ => ((Kd.R_types (Kd.R_types (Kd.R_types (Kd.R_types (Kd.R_types (Kd.R_apart' (Kd.R_apart' (Kd.R_apart' (Kd.R_apart' (Kd.R_apart' (HO958.out) (Kd.R_typed HO_884001.out) (by decide)) (Kd.R_typed HO_885001.out) (by decide)) (Kd.R_typed HO929.out) (by decide)) (Kd.R_typed HO945.out) (by decide)) (Kd.R_typed HO961.out) (by decide)) BK861.out (by decide)) BK883.out (by decide)) BK884.out (by decide)) BK931.out (by decide)) BK963.out (by decide)).1 k_ hs_.symm).1.2) (fun hn_ => (Kd.freshB (g := gb931) (o := .cells #[.slice Ao153 t940.length co153, .slice Ao155 t943.length co155] 86 (0, 0)) (bU BK931.out) k_ hn_)), Or.elim hk_.1 (fun hs_ => ((Kd.R_types (Kd.R_types (Kd.R_types (Kd.R_types (Kd.R_types (Kd.R_apart' (Kd.R_apart' (Kd.R_apart' (Kd.R_apart' (Kd.R_apart' (HO958.out) (Kd.R_typed HO_884001.out) (by decide)) (Kd.R_typed HO_885001.out) (by decide)) (Kd.R_typed HO929.out) (by decide)) (Kd.R_typed HO945.out) (by decide)) (Kd.R_typed HO961.out) (by decide)) BK861.out (by decide)) BK883.out (by decide)) BK884.out (by decide)) BK931.out (by decide)) BK963.out (by decide)).1 k_ hs_.symm).2) (fun hn_ => (Kd.freshB (g := gb963) (o := .cells #[.slice Ao166 t956.length co166, .slice Ao168 t959.length co168] 86 (0, 0)) (bU BK963.out) k_ hn_))⟩)) (below_size (by repeat (first | exact beU HB.out | refine below_set ?_ (Aside0.out ‹_›) | apply below_alloc | apply pw_below_drewN | apply below_drew1))))
        have HO969 := Aside0.mk (Kd.R_lower (Kd.R_mono (ok' := fun k_ => True) ho1 (fun _ hk_ => trivial)) (below_size (by repeat (first | exact beU HB.out | refine below_set ?_ (Aside0.out ‹_›) | apply below_alloc | apply pw_below_drewN | apply below_drew1))))
        replace HO_884000 := Aside0.mk (Kd.R_below (rU HO_884000.out) hb)
        replace HO_884001 := Aside0.mk (Kd.R_below (rU HO_884001.out) hb)
        replace HO_885000 := Aside0.mk (Kd.R_below (rU HO_885000.out) hb)
        replace HO_885001 := Aside0.mk (Kd.R_below (rU HO_885001.out) hb)
        replace HO926 := Aside0.mk (Kd.R_below (rU HO926.out) hb)
        replace HO929 := Aside0.mk (Kd.R_below (rU HO929.out) hb)
        replace HO942 := Aside0.mk (Kd.R_below (rU HO942.out) hb)
        replace HO945 := Aside0.mk (Kd.R_below (rU HO945.out) hb)
        replace HO955 := Aside0.mk (Kd.R_below (rU HO955.out) hb)
        replace HO958 := Aside0.mk (Kd.R_below (rU HO958.out) hb)
        replace HO961 := Aside0.mk (Kd.R_below (rU HO961.out) hb)
        replace BK861 := Aside0.mk (blk_below (bU BK861.out) hb)
        replace BK883 := Aside0.mk (blk_below (bU BK883.out) hb)
        replace BK884 := Aside0.mk (blk_below (bU BK884.out) hb)
        replace BK931 := Aside0.mk (blk_below (bU BK931.out) hb)
        replace BK963 := Aside0.mk (blk_below (bU BK963.out) hb)
        replace HB := Aside0.mk (below_step (by repeat (first | exact beU HB.out | refine below_set ?_ (Aside0.out ‹_›) | apply below_alloc | apply pw_below_drewN | apply below_drew1)) hb)
        (try clear hb)
        (try clear hb2)
        (try clear hk)
        (try clear hi)
        (try clear ho0)
        (try clear ho1)
        obtain ⟨Ao173, co173, eo173⟩ := Kd.V_slice HO966.out
        (first | subst eo173 | (injection eo173 with f1_ f2_ f3_; have f4_ := f1_.symm; have f5_ := f3_.symm; clear f1_ f2_ f3_; subst f4_; subst f5_))
        obtain ⟨Ao174, co174, eo174⟩ := Kd.R_slice HO969.out
        (first | subst eo174 | (injection eo174 with f1_ f2_ f3_; have f4_ := f1_.symm; have f5_ := f3_.symm; clear f1_ f2_ f3_; subst f4_; subst f5_))
        refine hK.out _ _ ⟨(blk_cell BK931.out 0).trans rfl, (blk_cell BK931.out 1).trans rfl, (blk_cell BK963.out 0).trans rfl, (blk_cell BK963.out 1).trans rfl⟩ (fun hHeld => ?_)
        clear hK K
        refine norm_ (a' := ?_) ?_ ?_
        rotate_left
        ·show Act.put _ (some 124) _ = _
         simp only [Act.put, List.setIfInBounds_toArray, List.set_cons_zero, List.set_cons_succ, i64_w, i32_w]
         rfl
        refine one_ (i := 10) (N := some 125) #[true, true, true, true, true, true, true, true, true, true, true, false, false, false, false, false, false] rfl rfl (one_of HT_.out (by kernel_rfl)) (by decide) (fun K hK => ?_)
        refine goes_ Try.func49 (by kernel_rfl) rfl #[.agg #[.slice Ao153 t940.length co153, .slice Ao155 t943.length co155], .agg #[.slice Ao173 t964.length co173, .slice Ao174 t967.length co174]] (by rfl) rfl rfl (by (try simp only [List.map_toArray, List.map_cons, List.map_nil]); first | done | rfl | (simp only [List.length_drop, List.length_take]; rfl)) ?_
        with_reducible refine (weirkeeperlaw04_same.calls kj53 _ _ t940 _ _ t943 _ _ t964 _ _ t967 true _ ?side1 ?side2 ?side3 ?side4 ?side5 ?side6 ?side7 ?side8 A138.out).mono ?_
        (case side1 => repeat (first | exact (Kd.R_reads' HO942.out).2.2 | (with_reducible refine Kd.C_alloc ?_ _) | (with_reducible refine Kd.C_drewN ?_ _) | (with_reducible refine Kd.C_drew ?_)))
        (case side2 => exact (Kd.R_reads' HO942.out).2.1)
        (case side3 => repeat (first | exact (Kd.R_reads' HO945.out).2.2 | (with_reducible refine Kd.C_alloc ?_ _) | (with_reducible refine Kd.C_drewN ?_ _) | (with_reducible refine Kd.C_drew ?_)))
        (case side4 => exact (Kd.R_reads' HO945.out).2.1)
        (case side5 => repeat (first | exact (Kd.V_reads' HO966.out).2.2 | (with_reducible refine Kd.C_alloc ?_ _) | (with_reducible refine Kd.C_drewN ?_ _) | (with_reducible refine Kd.C_drew ?_)))
        (case side6 => exact (Kd.V_reads' HO966.out).2.1)
        (case side7 => repeat (first | exact (Kd.R_reads' HO969.out).2.2 | (with_reducible refine Kd.C_alloc ?_ _) | (with_reducible refine Kd.C_drewN ?_ _) | (with_reducible refine Kd.C_drew ?_)))
        (case side8 => exact (Kd.R_reads' HO969.out).2.1)
        rintro e w175 ⟨rfl, hb⟩
        refine ⟨_, rfl, ?_⟩
        replace HO_884000 := Aside0.mk (Kd.R_below (rU HO_884000.out) hb)
        replace HO_884001 := Aside0.mk (Kd.R_below (rU HO_884001.out) hb)
        replace HO_885000 := Aside0.mk (Kd.R_below (rU HO_885000.out) hb)
        replace HO_885001 := Aside0.mk (Kd.R_below (rU HO_885001.out) hb)
        replace HO926 := Aside0.mk (Kd.R_below (rU HO926.out) hb)
        replace HO929 := Aside0.mk (Kd.R_below (rU HO929.out) hb)
        replace HO942 := Aside0.mk (Kd.R_below (rU HO942.out) hb)
        replace HO945 := Aside0.mk (Kd.R_below (rU HO945.out) hb)
        replace HO955 := Aside0.mk (Kd.R_below (rU HO955.out) hb)
        replace HO958 := Aside0.mk (Kd.R_below (rU HO958.out) hb)
        replace HO961 := Aside0.mk (Kd.R_below (rU HO961.out) hb)
        replace HO966 := Aside0.mk (Kd.V_below (vU HO966.out) hb)
        replace HO969 := Aside0.mk (Kd.R_below (rU HO969.out) hb)
        replace BK861 := Aside0.mk (blk_below (bU BK861.out) hb)
        replace BK883 := Aside0.mk (blk_below (bU BK883.out) hb)
        replace BK884 := Aside0.mk (blk_below (bU BK884.out) hb)
        replace BK931 := Aside0.mk (blk_below (bU BK931.out) hb)
        replace BK963 := Aside0.mk (blk_below (bU BK963.out) hb)
        replace HB := Aside0.mk (below_step (by repeat (first | exact beU HB.out | refine below_set ?_ (Aside0.out ‹_›) | apply below_alloc | apply pw_below_drewN | apply below_drew1)) hb)
        (try clear hb)
        (try clear hb2)
        (try clear hk)
        (try clear hi)
        refine hK.out _ _ ⟨(blk_cell BK931.out 0).trans rfl, (blk_cell BK931.out 1).trans rfl, (blk_cell BK963.out 0).trans rfl, (blk_cell BK963.out 1).trans rfl⟩ (fun hHeld => ?_)
        clear hK K
        refine norm_ (a' := ?_) ?_ ?_
        rotate_left
        ·show Act.put _ (some 125) _ = _
         simp only [Act.put, List.setIfInBounds_toArray, List.set_cons_zero, List.set_cons_succ, i64_w, i32_w]
         rfl
        refine pure_ (i := 11) (N := some 126) (v := ?_) (a' := ?_) #[true, true, true, true, true, true, true, true, true, true, true, true, false, false, false, false, false] rfl rfl (any_of HT_.out (by kernel_rfl)) (fun _ _ _ h => h) (Or.inl ⟨by rfl, ?_⟩) ?_ ?_
        rotate_left
        ·intro w'
         go_simp
         with_reducible rfl
        rotate_left
        ·simp only [Act.put, List.setIfInBounds_toArray, List.set_cons_zero, List.set_cons_succ, i64_w, i32_w]
         rfl
        refine pure_ (i := 12) (N := some 127) (v := ?_) (a' := ?_) #[true, true, true, true, true, true, true, true, true, true, true, true, true, false, false, false, false] rfl rfl (any_of HT_.out (by kernel_rfl)) (fun _ _ _ h => h) (Or.inl ⟨by rfl, ?_⟩) ?_ ?_
        rotate_left
        ·intro w'
         go_simp
         with_reducible rfl
        rotate_left
        ·simp only [Act.put, List.setIfInBounds_toArray, List.set_cons_zero, List.set_cons_succ, i64_w, i32_w]
         rfl
        refine pure_ (i := 13) (N := some 128) (v := ?_) (a' := ?_) #[true, true, true, true, true, true, true, true, true, true, true, true, true, true, false, false, false] rfl rfl (any_of HT_.out (by kernel_rfl)) (fun _ _ _ h => h) (Or.inl ⟨by rfl, ?_⟩) ?_ ?_
        rotate_left
        ·intro w'
         go_simp
         with_reducible rfl
        rotate_left
        ·simp only [Act.put, List.setIfInBounds_toArray, List.set_cons_zero, List.set_cons_succ, i64_w, i32_w]
         rfl
        refine one_ (i := 14) (N := some 129) #[true, true, true, true, true, true, true, true, true, true, true, true, true, true, true, false, false] rfl rfl (one_of HT_.out (by kernel_rfl)) (by decide) (fun K hK => ?_)
        refine goes_ Try.func43 (by kernel_rfl) rfl #[] (by rfl) rfl rfl (by (try simp only [List.map_toArray, List.map_cons, List.map_nil]); first | done | rfl | (simp only [List.length_drop, List.length_take]; rfl)) ?_
        with_reducible refine (weirkeeperlaw04_awake.calls _ A140.out).mono ?_
        rintro e w176 ⟨rfl, hb⟩
        refine ⟨_, rfl, ?_⟩
        replace HO_884000 := Aside0.mk (Kd.R_below (rU HO_884000.out) hb)
        replace HO_884001 := Aside0.mk (Kd.R_below (rU HO_884001.out) hb)
        replace HO_885000 := Aside0.mk (Kd.R_below (rU HO_885000.out) hb)
        replace HO_885001 := Aside0.mk (Kd.R_below (rU HO_885001.out) hb)
        replace HO926 := Aside0.mk (Kd.R_below (rU HO926.out) hb)
        replace HO929 := Aside0.mk (Kd.R_below (rU HO929.out) hb)
        replace HO942 := Aside0.mk (Kd.R_below (rU HO942.out) hb)
        replace HO945 := Aside0.mk (Kd.R_below (rU HO945.out) hb)
        replace HO955 := Aside0.mk (Kd.R_below (rU HO955.out) hb)
        replace HO958 := Aside0.mk (Kd.R_below (rU HO958.out) hb)
        replace HO961 := Aside0.mk (Kd.R_below (rU HO961.out) hb)
        replace HO966 := Aside0.mk (Kd.V_below (vU HO966.out) hb)
        replace HO969 := Aside0.mk (Kd.R_below (rU HO969.out) hb)
        replace BK861 := Aside0.mk (blk_below (bU BK861.out) hb)
        replace BK883 := Aside0.mk (blk_below (bU BK883.out) hb)
        replace BK884 := Aside0.mk (blk_below (bU BK884.out) hb)
        replace BK931 := Aside0.mk (blk_below (bU BK931.out) hb)
        replace BK963 := Aside0.mk (blk_below (bU BK963.out) hb)
        replace HB := Aside0.mk (below_step (by repeat (first | exact beU HB.out | refine below_set ?_ (Aside0.out ‹_›) | apply below_alloc | apply pw_below_drewN | apply below_drew1)) hb)
        (try clear hb)
        (try clear hb2)
        (try clear hk)
        (try clear hi)
        refine hK.out _ _ ⟨(blk_cell BK931.out 0).trans rfl, (blk_cell BK931.out 1).trans rfl, (blk_cell BK963.out 0).trans rfl, (blk_cell BK963.out 1).trans rfl⟩ (fun hHeld => ?_)
        clear hK K
        refine norm_ (a' := ?_) ?_ ?_
        rotate_left
        ·show Act.put _ (some 129) _ = _
         simp only [Act.put, List.setIfInBounds_toArray, List.set_cons_zero, List.set_cons_succ, i64_w, i32_w]
         rfl
        refine pure_ (i := 15) (N := some 130) (v := ?_) (a' := ?_) #[true, true, true, true, true, true, true, true, true, true, true, true, true, true, true, true, false] rfl rfl (any_of HT_.out (by kernel_rfl)) (fun _ _ _ h => h) (Or.inl ⟨by rfl, ?_⟩) ?_ ?_
        rotate_left
        ·intro w'
         go_simp
         with_reducible rfl
        rotate_left
        ·simp only [Act.put, List.setIfInBounds_toArray, List.set_cons_zero, List.set_cons_succ, i64_w, i32_w]
         rfl
        refine pure_ (i := 16) (N := some 12) (v := ?_) (a' := ?_) #[true, true, true, true, true, true, true, true, true, true, true, true, true, true, true, true, true] rfl rfl (any_of HT_.out (by kernel_rfl)) (fun _ _ _ h => h) (Or.inl ⟨by rfl, ?_⟩) ?_ ?_
        rotate_left
        ·intro w'
         go_simp
         with_reducible rfl
        rotate_left
        ·simp only [Act.put, List.setIfInBounds_toArray, List.set_cons_zero, List.set_cons_succ, i64_w, i32_w]
         rfl
        refine done_ (done_of HT_.out (by kernel_rfl)) ?_
        try go_wp2
        go_ret
        exact ⟨by first | rfl | (simp only [h9_.out]; done) | (have h8_ := h9_.out; simp [h8_]; done) | (simp [errW_none, errW_some] <;> rfl) | (simp [*, errW_none, errW_some] <;> rfl), by repeat (first | (with_reducible first | exact HB.out | apply below_alloc | apply pw_below_drewN | apply below_drew1 | refine below_set ?_ GE861.out | refine below_set ?_ GE883.out | refine below_set ?_ GE884.out | refine below_set ?_ GE931.out | refine below_set ?_ GE963.out) | exact HB.out)⟩
       ·replace c139 := Bool.eq_false_iff.mpr c139
        subst c139
        have H1 : (some false) = some true := by rw [if_neg (show ¬ (false = true) by decide)] at H; exact H
        clear H
        have H := H1
        clear H1
        exact absurd H (by simp)
      ·rw [if_neg c136] at H
       have c136b0 : (t946 == 0) = false := beq_eq_false_iff_ne.mpr c136
       have c136b1 : (t946 != 0) = true := bne_iff_ne.mpr c136
       replace H := Option.bind_eq_some_iff.mp H
       obtain ⟨t972, A1770, H⟩ := H
       try dsimp only at H
       have A177 := Aside0.mk A1770
       clear A1770
       (have H9_ := Option.some.inj H; first | subst H9_ | (have h9_ := Aside0.mk H9_; clear H9_))
       refine start_ (n := 17) (S := fun w' => True) (ds := []) #[false, false, false, false, false, false, false, false, false, false, false, false, false, false, false, false, false] (by kernel_rfl) rfl rfl trivial (fun hHeld => ?_); refine with_tabW weirkeeperlaw04_DiskOnce.tab11 weirkeeperlaw04_DiskOnce.bits11 (fun HT_ HW_ => ?_)
       generalize w170.drew = w208 at HO_884000 HO_884001 HO_885000 HO_885001 HO926 HO929 HO942 HO945 HO955 HO958 HO961 BK861 BK883 BK884 BK931 BK963 HB hHeld ⊢
       refine pure_ (i := 0) (N := some 115) (v := ?_) (a' := ?_) #[true, false, false, false, false, false, false, false, false, false, false, false, false, false, false, false, false] rfl rfl (any_of HT_.out (by kernel_rfl)) (fun _ _ _ h => h) (Or.inl ⟨by rfl, ?_⟩) ?_ ?_
       rotate_left
       ·intro w'
        go_simp
        with_reducible rfl
       rotate_left
       ·simp only [Act.put, List.setIfInBounds_toArray, List.set_cons_zero, List.set_cons_succ, i64_w, i32_w]
        rfl
       refine pure_ (i := 1) (N := some 116) (v := ?_) (a' := ?_) #[true, true, false, false, false, false, false, false, false, false, false, false, false, false, false, false, false] rfl rfl (any_of HT_.out (by kernel_rfl)) (fun _ _ _ h => h) (Or.inl ⟨by rfl, ?_⟩) ?_ ?_
       rotate_left
       ·intro w'
        go_simp
        with_reducible rfl
       rotate_left
       ·simp only [Act.put, List.setIfInBounds_toArray, List.set_cons_zero, List.set_cons_succ, i64_w, i32_w]
        rfl
       refine pure_ (i := 2) (N := some 117) (v := ?_) (a' := ?_) #[true, true, true, false, false, false, false, false, false, false, false, false, false, false, false, false, false] rfl rfl (any_of HT_.out (by kernel_rfl)) (fun _ _ _ h => h) (Or.inl ⟨by rfl, ?_⟩) ?_ ?_
       rotate_left
       ·intro w'
        go_simp
        with_reducible rfl
       rotate_left
       ·simp only [Act.put, List.setIfInBounds_toArray, List.set_cons_zero, List.set_cons_succ, i64_w, i32_w]
        rfl
       refine pure_ (i := 3) (N := some 118) (v := ?_) (a' := ?_) #[true, true, true, true, false, false, false, false, false, false, false, false, false, false, false, false, false] rfl rfl (any_of HT_.out (by kernel_rfl)) (fun _ _ _ h => h) (Or.inl ⟨by rfl, ?_⟩) ?_ ?_
       rotate_left
       ·intro w'
        go_simp
        with_reducible rfl
       rotate_left
       ·simp only [Act.put, List.setIfInBounds_toArray, List.set_cons_zero, List.set_cons_succ, i64_w, i32_w]
        rfl
       refine pure_ (i := 4) (N := some 119) (v := ?_) (a' := ?_) #[true, true, true, true, true, false, false, false, false, false, false, false, false, false, false, false, false] rfl rfl (any_of HT_.out (by kernel_rfl)) (fun _ _ _ h => h) (Or.inl ⟨by rfl, ?_⟩) ?_ ?_
       rotate_left
       ·intro w'
        go_simp
        with_reducible rfl
       rotate_left
       ·simp only [Act.put, List.setIfInBounds_toArray, List.set_cons_zero, List.set_cons_succ, i64_w, i32_w]
        rfl
       refine pure_ (i := 5) (N := some 120) (v := ?_) (a' := ?_) #[true, true, true, true, true, true, false, false, false, false, false, false, false, false, false, false, false] rfl rfl (any_of HT_.out (by kernel_rfl)) (fun _ _ _ h => h) (Or.inl ⟨by rfl, ?_⟩) ?_ ?_
       rotate_left
       ·intro w'
        go_simp
        with_reducible rfl
       rotate_left
       ·simp only [Act.put, List.setIfInBounds_toArray, List.set_cons_zero, List.set_cons_succ, i64_w, i32_w]
        rfl
       refine pure_ (i := 6) (N := some 121) (v := ?_) (a' := ?_) #[true, true, true, true, true, true, true, false, false, false, false, false, false, false, false, false, false] rfl rfl (any_of HT_.out (by kernel_rfl)) (fun _ _ _ h => h) (Or.inl ⟨by rfl, ?_⟩) ?_ ?_
       rotate_left
       ·intro w'
        go_simp
        with_reducible rfl
       rotate_left
       ·simp only [Act.put, List.setIfInBounds_toArray, List.set_cons_zero, List.set_cons_succ, i64_w, i32_w]
        rfl
       refine pure_ (i := 7) (N := some 122) (v := undef) (a' := ?_) #[true, true, true, true, true, true, true, true, false, false, false, false, false, false, false, false, false] rfl rfl (any_of HT_.out (by kernel_rfl)) (fun _ _ _ h => h) (Or.inr ⟨by rfl, rfl⟩) ?_ ?_
       rotate_left
       ·simp only [Act.put, List.setIfInBounds_toArray, List.set_cons_zero, List.set_cons_succ, i64_w, i32_w]
        rfl
       refine pure_ (i := 8) (N := some 123) (v := undef) (a' := ?_) #[true, true, true, true, true, true, true, true, true, false, false, false, false, false, false, false, false] rfl rfl (any_of HT_.out (by kernel_rfl)) (fun _ _ _ h => h) (Or.inr ⟨by rfl, rfl⟩) ?_ ?_
       rotate_left
       ·simp only [Act.put, List.setIfInBounds_toArray, List.set_cons_zero, List.set_cons_succ, i64_w, i32_w]
        rfl
       refine pure_ (i := 9) (N := some 124) (v := undef) (a' := ?_) #[true, true, true, true, true, true, true, true, true, true, false, false, false, false, false, false, false] rfl rfl (any_of HT_.out (by kernel_rfl)) (fun _ _ _ h => h) (Or.inr ⟨by rfl, rfl⟩) ?_ ?_
       rotate_left
       ·simp only [Act.put, List.setIfInBounds_toArray, List.set_cons_zero, List.set_cons_succ, i64_w, i32_w]
        rfl
       refine pure_ (i := 10) (N := some 125) (v := undef) (a' := ?_) #[true, true, true, true, true, true, true, true, true, true, true, false, false, false, false, false, false] rfl rfl (any_of HT_.out (by kernel_rfl)) (fun _ _ _ h => h) (Or.inr ⟨by rfl, rfl⟩) ?_ ?_
       rotate_left
       ·simp only [Act.put, List.setIfInBounds_toArray, List.set_cons_zero, List.set_cons_succ, i64_w, i32_w]
        rfl
       refine pure_ (i := 11) (N := some 126) (v := ?_) (a' := ?_) #[true, true, true, true, true, true, true, true, true, true, true, true, false, false, false, false, false] rfl rfl (any_of HT_.out (by kernel_rfl)) (fun _ _ _ h => h) (Or.inl ⟨by rfl, ?_⟩) ?_ ?_
       rotate_left
       ·intro w'
        go_simp
        with_reducible rfl
       rotate_left
       ·simp only [Act.put, List.setIfInBounds_toArray, List.set_cons_zero, List.set_cons_succ, i64_w, i32_w]
        rfl
       refine pure_ (i := 12) (N := some 127) (v := ?_) (a' := ?_) #[true, true, true, true, true, true, true, true, true, true, true, true, true, false, false, false, false] rfl rfl (any_of HT_.out (by kernel_rfl)) (fun _ _ _ h => h) (Or.inl ⟨by rfl, ?_⟩) ?_ ?_
       rotate_left
       ·intro w'
        go_simp
        with_reducible rfl
       rotate_left
       ·simp only [Act.put, List.setIfInBounds_toArray, List.set_cons_zero, List.set_cons_succ, i64_w, i32_w]
        rfl
       refine pure_ (i := 13) (N := some 128) (v := ?_) (a' := ?_) #[true, true, true, true, true, true, true, true, true, true, true, true, true, true, false, false, false] rfl rfl (any_of HT_.out (by kernel_rfl)) (fun _ _ _ h => h) (Or.inl ⟨by rfl, ?_⟩) ?_ ?_
       rotate_left
       ·intro w'
        go_simp
        with_reducible rfl
       rotate_left
       ·simp only [Act.put, List.setIfInBounds_toArray, List.set_cons_zero, List.set_cons_succ, i64_w, i32_w]
        rfl
       refine one_ (i := 14) (N := some 129) #[true, true, true, true, true, true, true, true, true, true, true, true, true, true, true, false, false] rfl rfl (one_of HT_.out (by kernel_rfl)) (by decide) (fun K hK => ?_)
       refine goes_ Try.func43 (by kernel_rfl) rfl #[] (by rfl) rfl rfl (by (try simp only [List.map_toArray, List.map_cons, List.map_nil]); first | done | rfl | (simp only [List.length_drop, List.length_take]; rfl)) ?_
       with_reducible refine (weirkeeperlaw04_awake.calls _ A177.out).mono ?_
       rintro e w209 ⟨rfl, hb⟩
       refine ⟨_, rfl, ?_⟩
       replace HO_884000 := Aside0.mk (Kd.R_below (rU HO_884000.out) hb)
       replace HO_884001 := Aside0.mk (Kd.R_below (rU HO_884001.out) hb)
       replace HO_885000 := Aside0.mk (Kd.R_below (rU HO_885000.out) hb)
       replace HO_885001 := Aside0.mk (Kd.R_below (rU HO_885001.out) hb)
       replace HO926 := Aside0.mk (Kd.R_below (rU HO926.out) hb)
       replace HO929 := Aside0.mk (Kd.R_below (rU HO929.out) hb)
       replace HO942 := Aside0.mk (Kd.R_below (rU HO942.out) hb)
       replace HO945 := Aside0.mk (Kd.R_below (rU HO945.out) hb)
       replace HO955 := Aside0.mk (Kd.R_below (rU HO955.out) hb)
       replace HO958 := Aside0.mk (Kd.R_below (rU HO958.out) hb)
       replace HO961 := Aside0.mk (Kd.R_below (rU HO961.out) hb)
       replace BK861 := Aside0.mk (blk_below (bU BK861.out) hb)
       replace BK883 := Aside0.mk (blk_below (bU BK883.out) hb)
       replace BK884 := Aside0.mk (blk_below (bU BK884.out) hb)
       replace BK931 := Aside0.mk (blk_below (bU BK931.out) hb)
       replace BK963 := Aside0.mk (blk_below (bU BK963.out) hb)
       replace HB := Aside0.mk (below_step (by repeat (first | exact beU HB.out | refine below_set ?_ (Aside0.out ‹_›) | apply below_alloc | apply pw_below_drewN | apply below_drew1)) hb)
       (try clear hb)
       (try clear hb2)
       (try clear hk)
       (try clear hi)
       refine hK.out _ _ trivial (fun hHeld => ?_)
       clear hK K
       refine norm_ (a' := ?_) ?_ ?_
       rotate_left
       ·show Act.put _ (some 129) _ = _
        simp only [Act.put, List.setIfInBounds_toArray, List.set_cons_zero, List.set_cons_succ, i64_w, i32_w]
        rfl
       refine pure_ (i := 15) (N := some 130) (v := ?_) (a' := ?_) #[true, true, true, true, true, true, true, true, true, true, true, true, true, true, true, true, false] rfl rfl (any_of HT_.out (by kernel_rfl)) (fun _ _ _ h => h) (Or.inl ⟨by rfl, ?_⟩) ?_ ?_
       rotate_left
       ·intro w'
        go_simp
        with_reducible rfl
       rotate_left
       ·simp only [Act.put, List.setIfInBounds_toArray, List.set_cons_zero, List.set_cons_succ, i64_w, i32_w]
        rfl
       refine pure_ (i := 16) (N := some 12) (v := ?_) (a' := ?_) #[true, true, true, true, true, true, true, true, true, true, true, true, true, true, true, true, true] rfl rfl (any_of HT_.out (by kernel_rfl)) (fun _ _ _ h => h) (Or.inl ⟨by rfl, ?_⟩) ?_ ?_
       rotate_left
       ·intro w'
        go_simp
        with_reducible rfl
       rotate_left
       ·simp only [Act.put, List.setIfInBounds_toArray, List.set_cons_zero, List.set_cons_succ, i64_w, i32_w]
        rfl
       refine done_ (done_of HT_.out (by kernel_rfl)) ?_
       try go_wp2
       go_ret
       exact ⟨by first | rfl | (simp only [h9_.out]; done) | (have h8_ := h9_.out; simp [h8_]; done) | (simp [errW_none, errW_some] <;> rfl) | (simp [*, errW_none, errW_some] <;> rfl), by repeat (first | (with_reducible first | exact HB.out | apply below_alloc | apply pw_below_drewN | apply below_drew1 | refine below_set ?_ GE861.out | refine below_set ?_ GE883.out | refine below_set ?_ GE884.out | refine below_set ?_ GE931.out | refine below_set ?_ GE963.out) | exact HB.out)⟩
     ·rw [if_neg c135] at H
      have c135b0 : (t946 == t962) = false := beq_eq_false_iff_ne.mpr c135
      have c135b1 : (t946 != t962) = true := bne_iff_ne.mpr c135
      exact absurd H (by simp)
    ·rw [if_neg c133] at H
     exact absurd H (by simp)
   ·rw [if_neg c132] at H
    exact absurd H (by simp)
  ·rw [if_neg c130] at H
   have c130b0 : (t930 == 0) = false := beq_eq_false_iff_ne.mpr c130
   have c130b1 : (t930 != 0) = true := bne_iff_ne.mpr c130
   replace H := Option.bind_eq_some_iff.mp H
   obtain ⟨⟨t932, t935⟩, A2100, H⟩ := H
   try dsimp only at H
   have A210 := Aside0.mk A2100
   clear A2100
   replace H := Option.bind_eq_some_iff.mp H
   obtain ⟨t938, A2110, H⟩ := H
   try dsimp only at H
   have A211 := Aside0.mk A2110
   clear A2110
   by_cases c212 : t938 = true
   ·subst c212
    have H1 : ((weirkeeperlaw04_awake.f).bind fun t939 => (some t939)) = some true := by rw [if_pos rfl] at H; exact H
    clear H
    have H := H1
    clear H1
    replace H := Option.bind_eq_some_iff.mp H
    obtain ⟨t939, A2130, H⟩ := H
    try dsimp only at H
    have A213 := Aside0.mk A2130
    clear A2130
    (have H9_ := Option.some.inj H; first | subst H9_ | (have h9_ := Aside0.mk H9_; clear H9_))
    have hnb214 := NB861_883.out
    have hnc214 := NB883_861.out
    have hnb215 := NB861_884.out
    have hnc215 := NB884_861.out
    have hcz216_0 : wc.cell? ⟨gb861, 0, none⟩ = some (.slice A0_0 l0_0.length c0_0) := (blk_cell BK861.out 0).trans rfl
    have hcz216_1 : wc.cell? ⟨gb861, 1, none⟩ = some (.slice A0_1 l0_1.length c0_1) := (blk_cell BK861.out 1).trans rfl
    have hfz216_0 := blk_frozen BK861.out 0
    have hfz216_1 := blk_frozen BK861.out 1
    try go_wp2_with (first | ((with_reducible refine gate_callee (f := 48) rfl ?_); refine goesL_ (some 82) rfl rfl Try.func48 (by kernel_rfl) rfl #[.agg #[.slice A0_0 l0_0.length c0_0, .slice A0_1 l0_1.length c0_1], .int .i64 a1, .slice A2 l2.length c2] rfl (by (try simp only [List.map_toArray, List.map_cons, List.map_nil]); first | done | rfl | (simp only [List.length_drop, List.length_take]; rfl)) ?_; (with_reducible refine (disk_Put.calls _ _ l0_0 _ _ l0_1 a1 _ _ l2 t924 t927 t930 _ ?side1 ?side2 ?side3 ?side4 ?side5 ?side6 A129.out).mono ?_); (case side1 => repeat (first | exact (Kd.C_below HR0_0.out HB.out) | (with_reducible refine Kd.C_alloc ?_ _) | (with_reducible refine Kd.C_drewN ?_ _) | (with_reducible refine Kd.C_drew ?_))); (case side2 => exact HC0_0.out); (case side3 => repeat (first | exact (Kd.C_below HR0_1.out HB.out) | (with_reducible refine Kd.C_alloc ?_ _) | (with_reducible refine Kd.C_drewN ?_ _) | (with_reducible refine Kd.C_drew ?_))); (case side4 => exact HC0_1.out); (case side5 => repeat (first | exact (Kd.C_below HR2.out HB.out) | (with_reducible refine Kd.C_alloc ?_ _) | (with_reducible refine Kd.C_drewN ?_ _) | (with_reducible refine Kd.C_drew ?_))); (case side6 => exact HC2.out); rintro e w217 ⟨v925, v928, rfl, ho0, ho1, hb⟩; refine ⟨_, rfl, ?_⟩; have HO926 := Aside0.mk (Kd.R_lower (Kd.R_new' (Kd.R_new' ho0 (Kd.R_lt (rU HO_884000.out))) (Kd.R_lt (rU HO_885000.out))) (below_size (by repeat (first | exact beU HB.out | refine below_set ?_ (Aside0.out ‹_›) | apply below_alloc | apply pw_below_drewN | apply below_drew1)))); have HO929 := Aside0.mk (Kd.R_lower (Kd.R_new' (Kd.R_new' ho1 (Kd.R_lt (rU HO_884001.out))) (Kd.R_lt (rU HO_885001.out))) (below_size (by repeat (first | exact beU HB.out | refine below_set ?_ (Aside0.out ‹_›) | apply below_alloc | apply pw_below_drewN | apply below_drew1)))); replace HO_884000 := Aside0.mk (Kd.R_elder' (rU HO_884000.out) (Kd.R_base ho0) hb); replace HO_884001 := Aside0.mk (Kd.R_elder' (rU HO_884001.out) (Kd.R_base ho1) hb); replace HO_885000 := Aside0.mk (Kd.R_elder' (rU HO_885000.out) (Kd.R_base ho0) hb); replace HO_885001 := Aside0.mk (Kd.R_elder' (rU HO_885001.out) (Kd.R_base ho1) hb); replace BK861 := Aside0.mk (blk_below (bU BK861.out) hb); replace BK883 := Aside0.mk (blk_below (bU BK883.out) hb); replace BK884 := Aside0.mk (blk_below (bU BK884.out) hb); replace HB := Aside0.mk (below_step (by repeat (first | exact beU HB.out | refine below_set ?_ (Aside0.out ‹_›) | apply below_alloc | apply pw_below_drewN | apply below_drew1)) hb); (try clear hb); (try clear hb2); (try clear hk); (try clear hi); (try clear ho0); (try clear ho1)) | ((with_reducible refine gate_dst (N := 15) rfl ?_); (try (refine gate_guard (by rfl) ?_; dsimp only)); refine box_event ?hg (N := 15) ?hd (cs := #[.slice none 0 0, .slice none 0 0]) (t := 86) ?hr ?_; (case hd => rfl); (case hg => rfl); (case hr => first | (go_simp; done) | (go_simp; rfl)); intro gb931 hg w218 hbox hb; have BK931 := Aside0.mk (hbox); have GW931 := Aside0.mk ((by first | exact geU HB.out hg | (rw [hg]; exact below_size (by repeat (first | exact beU HB.out | refine below_set ?_ (Aside0.out ‹_›) | apply below_alloc | apply pw_below_drewN | apply below_drew1))))); have GE931 := Aside0.mk ((by first | exact geU HB.out hg | (rw [hg]; exact below_size (by repeat (first | exact beU HB.out | refine below_set ?_ (Aside0.out ‹_›) | apply below_alloc | apply pw_below_drewN | apply below_drew1))))); have NB861_931 := Aside0.mk ((neU BK861.out hg)); have NB931_861 := Aside0.mk ((enU BK861.out hg)); have NB883_931 := Aside0.mk ((neU BK883.out hg)); have NB931_883 := Aside0.mk ((enU BK883.out hg)); have NB884_931 := Aside0.mk ((neU BK884.out hg)); have NB931_884 := Aside0.mk ((enU BK884.out hg)); replace HO_884000 := Aside0.mk (Kd.R_below (rU HO_884000.out) hb); replace HO_884001 := Aside0.mk (Kd.R_below (rU HO_884001.out) hb); replace HO_885000 := Aside0.mk (Kd.R_below (rU HO_885000.out) hb); replace HO_885001 := Aside0.mk (Kd.R_below (rU HO_885001.out) hb); replace HO926 := Aside0.mk (Kd.R_below (rU HO926.out) hb); replace HO929 := Aside0.mk (Kd.R_below (rU HO929.out) hb); replace BK861 := Aside0.mk (blk_below (bU BK861.out) hb); replace BK883 := Aside0.mk (blk_below (bU BK883.out) hb); replace BK884 := Aside0.mk (blk_below (bU BK884.out) hb); replace HB := Aside0.mk (below_step (by repeat (first | exact beU HB.out | refine below_set ?_ (Aside0.out ‹_›) | apply below_alloc | apply pw_below_drewN | apply below_drew1)) hb); clear hb hbox hg; obtain ⟨Ao219, co219, eo219⟩ := Kd.R_slice HO926.out; subst eo219; have hnb220 := NB931_861.out; have hnc220 := NB861_931.out; have hnb221 := NB931_883.out; have hnc221 := NB883_931.out; have hnb222 := NB931_884.out; have hnc222 := NB884_931.out; have hcz223_0 : w218.cell? ⟨gb931, 0, none⟩ = some (.slice none 0 0) := (blk_cell BK931.out 0).trans rfl; have hcz223_1 : w218.cell? ⟨gb931, 1, none⟩ = some (.slice none 0 0) := (blk_cell BK931.out 1).trans rfl; have hfz223_0 := blk_frozen BK931.out 0; have hfz223_1 := blk_frozen BK931.out 1; obtain ⟨Ao224, co224, eo224⟩ := Kd.R_slice HO929.out; subst eo224))
    have n0_ : Aside0 (Kd.R Kd.string 9 ((w218.setCell ⟨gb931, 0, none⟩ (.slice Ao219 t924.length co219)).setCell ⟨gb931, 1, none⟩ (.slice Ao224 t927.length co224)) w.heap.size (fun k_ => some k_ ≠ (.slice Ao65 t877.length co65 : Value).ownBlock ∧ some k_ ≠ (.slice Ao219 t924.length co219 : Value).ownBlock) (.slice Ao61 t871.length co61) t871) := ⟨by (with_reducible repeat (first | apply Kd.R_alloc | apply Kd.R_drewN | apply Kd.R_drew)); exact Kd.R_mono (Kd.R_far (p := ⟨gb931, 1, none⟩) (Kd.R_far (p := ⟨gb931, 0, none⟩) (Kd.R_types HO_884000.out BK931.out (by decide)) (fun _ hk => hk.2) (.slice Ao219 t924.length co219)) (fun _ hk => hk.2) (.slice Ao224 t927.length co224)) (fun _ hk => ⟨hk.1.1, hk.1.2⟩)⟩
    have n1_ : Aside0 (Kd.R k104 104 ((w218.setCell ⟨gb931, 0, none⟩ (.slice Ao219 t924.length co219)).setCell ⟨gb931, 1, none⟩ (.slice Ao224 t927.length co224)) w.heap.size (fun k_ => some k_ ≠ (.slice Ao67 t880.length co67 : Value).ownBlock ∧ some k_ ≠ (.slice Ao224 t927.length co224 : Value).ownBlock) (.slice Ao63 t874.length co63) t874) := ⟨by (with_reducible repeat (first | apply Kd.R_alloc | apply Kd.R_drewN | apply Kd.R_drew)); exact Kd.R_mono (Kd.R_far (p := ⟨gb931, 1, none⟩) (Kd.R_far (p := ⟨gb931, 0, none⟩) (Kd.R_types HO_884001.out BK931.out (by decide)) (fun _ hk => hk.2) (.slice Ao219 t924.length co219)) (fun _ hk => hk.2) (.slice Ao224 t927.length co224)) (fun _ hk => ⟨hk.1.1, hk.1.2⟩)⟩
    have n2_ : Aside0 (Kd.R Kd.string 9 ((w218.setCell ⟨gb931, 0, none⟩ (.slice Ao219 t924.length co219)).setCell ⟨gb931, 1, none⟩ (.slice Ao224 t927.length co224)) w.heap.size (fun k_ => some k_ ≠ (.slice Ao61 t871.length co61 : Value).ownBlock ∧ some k_ ≠ (.slice Ao219 t924.length co219 : Value).ownBlock) (.slice Ao65 t877.length co65) t877) := ⟨by (with_reducible repeat (first | apply Kd.R_alloc | apply Kd.R_drewN | apply Kd.R_drew)); exact Kd.R_mono (Kd.R_far (p := ⟨gb931, 1, none⟩) (Kd.R_far (p := ⟨gb931, 0, none⟩) (Kd.R_types HO_885000.out BK931.out (by decide)) (fun _ hk => hk.2) (.slice Ao219 t924.length co219)) (fun _ hk => hk.2) (.slice Ao224 t927.length co224)) (fun _ hk => ⟨hk.1.1, hk.1.2⟩)⟩
    have n3_ : Aside0 (Kd.R k104 104 ((w218.setCell ⟨gb931, 0, none⟩ (.slice Ao219 t924.length co219)).setCell ⟨gb931, 1, none⟩ (.slice Ao224 t927.length co224)) w.heap.size (fun k_ => some k_ ≠ (.slice Ao63 t874.length co63 : Value).ownBlock ∧ some k_ ≠ (.slice Ao224 t927.length co224 : Value).ownBlock) (.slice Ao67 t880.length co67) t880) := ⟨by (with_reducible repeat (first | apply Kd.R_alloc | apply Kd.R_drewN | apply Kd.R_drew)); exact Kd.R_mono (Kd.R_far (p := ⟨gb931, 1, none⟩) (Kd.R_far (p := ⟨gb931, 0, none⟩) (Kd.R_types HO_885001.out BK931.out (by decide)) (fun _ hk => hk.2) (.slice Ao219 t924.length co219)) (fun _ hk => hk.2) (.slice Ao224 t927.length co224)) (fun _ hk => ⟨hk.1.1, hk.1.2⟩)⟩
    have n4_ : Aside0 (Kd.R Kd.string 9 ((w218.setCell ⟨gb931, 0, none⟩ (.slice Ao219 t924.length co219)).setCell ⟨gb931, 1, none⟩ (.slice Ao224 t927.length co224)) w.heap.size (fun k_ => some k_ ≠ (.slice Ao61 t871.length co61 : Value).ownBlock ∧ some k_ ≠ (.slice Ao65 t877.length co65 : Value).ownBlock) (.slice Ao219 t924.length co219) t924) := ⟨by (with_reducible repeat (first | apply Kd.R_alloc | apply Kd.R_drewN | apply Kd.R_drew)); exact Kd.R_mono (Kd.R_far (p := ⟨gb931, 1, none⟩) (Kd.R_far (p := ⟨gb931, 0, none⟩) (Kd.R_types HO926.out BK931.out (by decide)) (fun _ hk => hk.2) (.slice Ao219 t924.length co219)) (fun _ hk => hk.2) (.slice Ao224 t927.length co224)) (fun _ hk => ⟨hk.1.1.2, hk.1.2⟩)⟩
    have n5_ : Aside0 (Kd.R k104 104 ((w218.setCell ⟨gb931, 0, none⟩ (.slice Ao219 t924.length co219)).setCell ⟨gb931, 1, none⟩ (.slice Ao224 t927.length co224)) w.heap.size (fun k_ => some k_ ≠ (.slice Ao63 t874.length co63 : Value).ownBlock ∧ some k_ ≠ (.slice Ao67 t880.length co67 : Value).ownBlock) (.slice Ao224 t927.length co224) t927) := ⟨by (with_reducible repeat (first | apply Kd.R_alloc | apply Kd.R_drewN | apply Kd.R_drew)); exact Kd.R_mono (Kd.R_far (p := ⟨gb931, 1, none⟩) (Kd.R_far (p := ⟨gb931, 0, none⟩) (Kd.R_types HO929.out BK931.out (by decide)) (fun _ hk => hk.2) (.slice Ao219 t924.length co219)) (fun _ hk => hk.2) (.slice Ao224 t927.length co224)) (fun _ hk => ⟨hk.1.1.2, hk.1.2⟩)⟩
    have n6_ : Aside0 (((w218.setCell ⟨gb931, 0, none⟩ (.slice Ao219 t924.length co219)).setCell ⟨gb931, 1, none⟩ (.slice Ao224 t927.length co224)).heap[gb861]? = some (.cells #[.slice A0_0 l0_0.length c0_0, .slice A0_1 l0_1.length c0_1] 86 (0, 0))) := ⟨by (with_reducible repeat (first | refine blk_drewN ?_ _ | refine blk_drew ?_ | refine blk_alloc ?_ _)); refine blk_far ?_ NB861_931.out _; (with_reducible repeat (first | refine blk_drewN ?_ _ | refine blk_drew ?_ | refine blk_alloc ?_ _)); refine blk_far ?_ NB861_931.out _; (with_reducible repeat (first | refine blk_drewN ?_ _ | refine blk_drew ?_ | refine blk_alloc ?_ _)); exact BK861.out⟩
    have n7_ : Aside0 (((w218.setCell ⟨gb931, 0, none⟩ (.slice Ao219 t924.length co219)).setCell ⟨gb931, 1, none⟩ (.slice Ao224 t927.length co224)).heap[gb883]? = some (.cells #[.slice Ao61 t871.length co61, .slice Ao63 t874.length co63] 86 (0, 0))) := ⟨by (with_reducible repeat (first | refine blk_drewN ?_ _ | refine blk_drew ?_ | refine blk_alloc ?_ _)); refine blk_far ?_ NB883_931.out _; (with_reducible repeat (first | refine blk_drewN ?_ _ | refine blk_drew ?_ | refine blk_alloc ?_ _)); refine blk_far ?_ NB883_931.out _; (with_reducible repeat (first | refine blk_drewN ?_ _ | refine blk_drew ?_ | refine blk_alloc ?_ _)); exact BK883.out⟩
    have n8_ : Aside0 (((w218.setCell ⟨gb931, 0, none⟩ (.slice Ao219 t924.length co219)).setCell ⟨gb931, 1, none⟩ (.slice Ao224 t927.length co224)).heap[gb884]? = some (.cells #[.slice Ao65 t877.length co65, .slice Ao67 t880.length co67] 86 (0, 0))) := ⟨by (with_reducible repeat (first | refine blk_drewN ?_ _ | refine blk_drew ?_ | refine blk_alloc ?_ _)); refine blk_far ?_ NB884_931.out _; (with_reducible repeat (first | refine blk_drewN ?_ _ | refine blk_drew ?_ | refine blk_alloc ?_ _)); refine blk_far ?_ NB884_931.out _; (with_reducible repeat (first | refine blk_drewN ?_ _ | refine blk_drew ?_ | refine blk_alloc ?_ _)); exact BK884.out⟩
    have n9_ : Aside0 (((w218.setCell ⟨gb931, 0, none⟩ (.slice Ao219 t924.length co219)).setCell ⟨gb931, 1, none⟩ (.slice Ao224 t927.length co224)).heap[gb931]? = some (.cells #[.slice Ao219 t924.length co219, .slice Ao224 t927.length co224] 86 (0, 0))) := ⟨by (with_reducible repeat (first | refine blk_drewN ?_ _ | refine blk_drew ?_ | refine blk_alloc ?_ _)); refine blk_put (cs := #[.slice Ao219 t924.length co219, .slice none 0 0]) ?_ 1 _ rfl; (with_reducible repeat (first | refine blk_drewN ?_ _ | refine blk_drew ?_ | refine blk_alloc ?_ _)); refine blk_put (cs := #[.slice none 0 0, .slice none 0 0]) ?_ 0 _ rfl; (with_reducible repeat (first | refine blk_drewN ?_ _ | refine blk_drew ?_ | refine blk_alloc ?_ _)); exact BK931.out⟩
    have n10_ : Aside0 (Below w.heap.size w ((w218.setCell ⟨gb931, 0, none⟩ (.slice Ao219 t924.length co219)).setCell ⟨gb931, 1, none⟩ (.slice Ao224 t927.length co224))) := ⟨by repeat (first | (with_reducible first | exact HB.out | apply below_alloc | apply pw_below_drewN | apply below_drew1 | refine below_set ?_ GE861.out | refine below_set ?_ GE883.out | refine below_set ?_ GE884.out | refine below_set ?_ GE931.out) | exact HB.out)⟩
    (try clear HO_884000)
    (try clear HO_884001)
    (try clear HO_885000)
    (try clear HO_885001)
    (try clear HO926)
    (try clear HO929)
    (try clear BK861)
    (try clear BK883)
    (try clear BK884)
    (try clear BK931)
    (try clear HB)
    generalize ((w218.setCell ⟨gb931, 0, none⟩ (.slice Ao219 t924.length co219)).setCell ⟨gb931, 1, none⟩ (.slice Ao224 t927.length co224)) = w225 at n0_ n1_ n2_ n3_ n4_ n5_ n6_ n7_ n8_ n9_ n10_ ⊢
    have HO_884000 := n0_
    have HO_884001 := n1_
    have HO_885000 := n2_
    have HO_885001 := n3_
    have HO926 := n4_
    have HO929 := n5_
    have BK861 := n6_
    have BK883 := n7_
    have BK884 := n8_
    have BK931 := n9_
    have HB := n10_
    clear n0_ n1_ n2_ n3_ n4_ n5_ n6_ n7_ n8_ n9_ n10_
    replace HO_884000 := Aside0.mk (Kd.R_drew HO_884000.out)
    replace HO_884001 := Aside0.mk (Kd.R_drew HO_884001.out)
    replace HO_885000 := Aside0.mk (Kd.R_drew HO_885000.out)
    replace HO_885001 := Aside0.mk (Kd.R_drew HO_885001.out)
    replace HO926 := Aside0.mk (Kd.R_drew HO926.out)
    replace HO929 := Aside0.mk (Kd.R_drew HO929.out)
    replace BK861 := Aside0.mk (blk_drew BK861.out)
    replace BK883 := Aside0.mk (blk_drew BK883.out)
    replace BK884 := Aside0.mk (blk_drew BK884.out)
    replace BK931 := Aside0.mk (blk_drew BK931.out)
    replace HB := Aside0.mk (below_drew1 HB.out)
    refine start_ (n := 8) (S := fun w' => w'.cell? ⟨gb931, 0, none⟩ = some (.slice Ao219 t924.length co219) ∧ w'.cell? ⟨gb931, 1, none⟩ = some (.slice Ao224 t927.length co224) ∧ w'.cell? ⟨gb861, 0, none⟩ = some (.slice A0_0 l0_0.length c0_0) ∧ w'.cell? ⟨gb861, 1, none⟩ = some (.slice A0_1 l0_1.length c0_1)) (ds := []) #[false, false, false, false, false, false, false, false] (by kernel_rfl) rfl rfl ⟨(blk_cell BK931.out 0).trans rfl, (blk_cell BK931.out 1).trans rfl, (blk_cell BK861.out 0).trans rfl, (blk_cell BK861.out 1).trans rfl⟩ (fun hHeld => ?_); refine with_tabW weirkeeperlaw04_DiskOnce.tab8 weirkeeperlaw04_DiskOnce.bits8 (fun HT_ HW_ => ?_)
    generalize w225.drew = w226 at HO_884000 HO_884001 HO_885000 HO_885001 HO926 HO929 BK861 BK883 BK884 BK931 HB hHeld ⊢
    refine take_ (i := 0) (N := some 87) (v := ?_) (a' := ?_) #[true, false, false, false, false, false, false, false] rfl rfl (take_ofW HT_.out HW_.out (by kernel_rfl)) (fun _ _ _ h => h) (Or.inl ⟨by rfl, ?_⟩) hHeld ?_ ?_
    rotate_left
    ·rintro w' ⟨s0, s1, s2, s3⟩
     go_simp
     with_reducible rfl
    rotate_left
    ·simp only [Act.put, List.setIfInBounds_toArray, List.set_cons_zero, List.set_cons_succ, i64_w, i32_w]
     rfl
    refine take_ (i := 1) (N := some 88) (v := ?_) (a' := ?_) #[true, true, false, false, false, false, false, false] rfl rfl (take_ofW HT_.out HW_.out (by kernel_rfl)) (fun _ _ _ h => h) (Or.inl ⟨by rfl, ?_⟩) hHeld ?_ ?_
    rotate_left
    ·rintro w' ⟨s0, s1, s2, s3⟩
     go_simp
     with_reducible rfl
    rotate_left
    ·simp only [Act.put, List.setIfInBounds_toArray, List.set_cons_zero, List.set_cons_succ, i64_w, i32_w]
     rfl
    refine one_ (i := 2) (N := some 89) #[true, true, true, false, false, false, false, false] rfl rfl (one_of HT_.out (by kernel_rfl)) (by decide) (fun K hK => ?_)
    refine goes_ Try.func47 (by kernel_rfl) rfl #[.agg #[.slice A0_0 l0_0.length c0_0, .slice A0_1 l0_1.length c0_1]] (by rfl) rfl rfl (by (try simp only [List.map_toArray, List.map_cons, List.map_nil]); first | done | rfl | (simp only [List.length_drop, List.length_take]; rfl)) ?_
    with_reducible refine (weirkeeperlaw04_Ref.calls kj53 (fun k_ => k_ < w.heap.size) _ _ l0_0 _ _ l0_1 t932 t935 _ ?side1 ?side2 ?side3 A210.out).mono ?_
    (case side1 => exact Kd.V_mk HC0_0.out (Kd.F_below (Kd.C_F Kd.heap_string HR0_0.out) (by repeat (first | exact beU HB.out | refine below_set ?_ (Aside0.out ‹_›) | apply below_alloc | apply pw_below_drewN | apply below_drew1))))
    (case side2 => repeat (first | exact (Kd.C_below HR0_1.out HB.out) | (with_reducible refine Kd.C_alloc ?_ _) | (with_reducible refine Kd.C_drewN ?_ _) | (with_reducible refine Kd.C_drew ?_)))
    (case side3 => exact HC0_1.out)
    rintro e w227 ⟨v933, v936, rfl, ho0, ho1, hb⟩
    refine ⟨_, rfl, ?_⟩
    have HO934 := Aside0.mk (Kd.V_lower (Kd.V_mono (ok' := fun k_ => some k_ ≠ (v936 : Value).ownBlock ∧ some k_ ≠ (.slice Ao61 t871.length co61 : Value).ownBlock ∧ some k_ ≠ (.slice Ao63 t874.length co63 : Value).ownBlock ∧ some k_ ≠ (.slice Ao65 t877.length co65 : Value).ownBlock ∧ some k_ ≠ (.slice Ao67 t880.length co67 : Value).ownBlock ∧ some k_ ≠ (.slice Ao219 t924.length co219 : Value).ownBlock ∧ some k_ ≠ (.slice Ao224 t927.length co224 : Value).ownBlock ∧ k_ ≠ gb861 ∧ k_ ≠ gb883 ∧ k_ ≠ gb884 ∧ k_ ≠ gb931) ho0 (fun k_ hk_ => ⟨hk_.2, Or.elim hk_.1 (fun hs_ => fun e_ => Nat.not_le.2 hs_ (Kd.R_base HO_884000.out k_ e_.symm)) (fun hn_ => (Kd.fresh' (Kd.R_lt (rU HO_884000.out)) k_ hn_)), Or.elim hk_.1 (fun hs_ => fun e_ => Nat.not_le.2 hs_ (Kd.R_base HO_884001.out k_ e_.symm)) (fun hn_ => (Kd.fresh' (Kd.R_lt (rU HO_884001.out)) k_ hn_)), Or.elim hk_.1 (fun hs_ => fun e_ => Nat.not_le.2 hs_ (Kd.R_base HO_885000.out k_ e_.symm)) (fun hn_ => (Kd.fresh' (Kd.R_lt (rU HO_885000.out)) k_ hn_)), Or.elim hk_.1 (fun hs_ => fun e_ => Nat.not_le.2 hs_ (Kd.R_base HO_885001.out k_ e_.symm)) (fun hn_ => (Kd.fresh' (Kd.R_lt (rU HO_885001.out)) k_ hn_)), Or.elim hk_.1 (fun hs_ => fun e_ => Nat.not_le.2 hs_ (Kd.R_base HO926.out k_ e_.symm)) (fun hn_ => (Kd.fresh' (Kd.R_lt (rU HO926.out)) k_ hn_)), Or.elim hk_.1 (fun hs_ => fun e_ => Nat.not_le.2 hs_ (Kd.R_base HO929.out k_ e_.symm)) (fun hn_ => (Kd.fresh' (Kd.R_lt (rU HO929.out)) k_ hn_)), Or.elim hk_.1 (fun hs_ => fun e_ => Nat.not_le.2 hs_ (by rw [e_]; exact GW861.out)) (fun hn_ => (Kd.freshB (g := gb861) (o := .cells #[.slice A0_0 l0_0.length c0_0, .slice A0_1 l0_1.length c0_1] 86 (0, 0)) (bU BK861.out) k_ hn_)), Or.elim hk_.1 (fun hs_ => fun e_ => Nat.not_le.2 hs_ (by rw [e_]; exact GW883.out)) (fun hn_ => (Kd.freshB (g := gb883) (o := .cells #[.slice Ao61 t871.length co61, .slice Ao63 t874.length co63] 86 (0, 0)) (bU BK883.out) k_ hn_)), Or.elim hk_.1 (fun hs_ => fun e_ => Nat.not_le.2 hs_ (by rw [e_]; exact GW884.out)) (fun hn_ => (Kd.freshB (g := gb884) (o := .cells #[.slice Ao65 t877.length co65, .slice Ao67 t880.length co67] 86 (0, 0)) (bU BK884.out) k_ hn_)), Or.elim hk_.1 (fun hs_ => fun e_ => Nat.not_le.2 hs_ (by rw [e_]; exact GW931.out)) (fun hn_ => (Kd.freshB (g := gb931) (o := .cells #[.slice Ao219 t924.length co219, .slice Ao224 t927.length co224] 86 (0, 0)) (bU BK931.out) k_ hn_))⟩)) (below_size (by repeat (first | exact beU HB.out | refine below_set ?_ (Aside0.out ‹_›) | apply below_alloc | apply pw_below_drewN | apply below_drew1))))
    have HO937 := Aside0.mk (Kd.R_lower (Kd.R_mono (ok' := fun k_ => True) ho1 (fun _ hk_ => trivial)) (below_size (by repeat (first | exact beU HB.out | refine below_set ?_ (Aside0.out ‹_›) | apply below_alloc | apply pw_below_drewN | apply below_drew1))))
    replace HO_884000 := Aside0.mk (Kd.R_below (rU HO_884000.out) hb)
    replace HO_884001 := Aside0.mk (Kd.R_below (rU HO_884001.out) hb)
    replace HO_885000 := Aside0.mk (Kd.R_below (rU HO_885000.out) hb)
    replace HO_885001 := Aside0.mk (Kd.R_below (rU HO_885001.out) hb)
    replace HO926 := Aside0.mk (Kd.R_below (rU HO926.out) hb)
    replace HO929 := Aside0.mk (Kd.R_below (rU HO929.out) hb)
    replace BK861 := Aside0.mk (blk_below (bU BK861.out) hb)
    replace BK883 := Aside0.mk (blk_below (bU BK883.out) hb)
    replace BK884 := Aside0.mk (blk_below (bU BK884.out) hb)
    replace BK931 := Aside0.mk (blk_below (bU BK931.out) hb)
    replace HB := Aside0.mk (below_step (by repeat (first | exact beU HB.out | refine below_set ?_ (Aside0.out ‹_›) | apply below_alloc | apply pw_below_drewN | apply below_drew1)) hb)
    (try clear hb)
    (try clear hb2)
    (try clear hk)
    (try clear hi)
    (try clear ho0)
    (try clear ho1)
    obtain ⟨Ao228, co228, eo228⟩ := Kd.V_slice HO934.out
    (first | subst eo228 | (injection eo228 with f1_ f2_ f3_; have f4_ := f1_.symm; have f5_ := f3_.symm; clear f1_ f2_ f3_; subst f4_; subst f5_))
    obtain ⟨Ao229, co229, eo229⟩ := Kd.R_slice HO937.out
    (first | subst eo229 | (injection eo229 with f1_ f2_ f3_; have f4_ := f1_.symm; have f5_ := f3_.symm; clear f1_ f2_ f3_; subst f4_; subst f5_))
    refine hK.out _ _ ⟨(blk_cell BK931.out 0).trans rfl, (blk_cell BK931.out 1).trans rfl, (blk_cell BK861.out 0).trans rfl, (blk_cell BK861.out 1).trans rfl⟩ (fun hHeld => ?_)
    clear hK K
    refine norm_ (a' := ?_) ?_ ?_
    rotate_left
    ·show Act.put _ (some 89) _ = _
     simp only [Act.put, List.setIfInBounds_toArray, List.set_cons_zero, List.set_cons_succ, i64_w, i32_w]
     rfl
    refine one_ (i := 3) (N := some 90) #[true, true, true, true, false, false, false, false] rfl rfl (one_of HT_.out (by kernel_rfl)) (by decide) (fun K hK => ?_)
    refine goes_ Try.func49 (by kernel_rfl) rfl #[.agg #[.slice Ao219 t924.length co219, .slice Ao224 t927.length co224], .agg #[.slice Ao228 t932.length co228, .slice Ao229 t935.length co229]] (by rfl) rfl rfl (by (try simp only [List.map_toArray, List.map_cons, List.map_nil]); first | done | rfl | (simp only [List.length_drop, List.length_take]; rfl)) ?_
    with_reducible refine (weirkeeperlaw04_same.calls kj53 _ _ t924 _ _ t927 _ _ t932 _ _ t935 true _ ?side1 ?side2 ?side3 ?side4 ?side5 ?side6 ?side7 ?side8 A211.out).mono ?_
    (case side1 => repeat (first | exact (Kd.R_reads' HO926.out).2.2 | (with_reducible refine Kd.C_alloc ?_ _) | (with_reducible refine Kd.C_drewN ?_ _) | (with_reducible refine Kd.C_drew ?_)))
    (case side2 => exact (Kd.R_reads' HO926.out).2.1)
    (case side3 => repeat (first | exact (Kd.R_reads' HO929.out).2.2 | (with_reducible refine Kd.C_alloc ?_ _) | (with_reducible refine Kd.C_drewN ?_ _) | (with_reducible refine Kd.C_drew ?_)))
    (case side4 => exact (Kd.R_reads' HO929.out).2.1)
    (case side5 => repeat (first | exact (Kd.V_reads' HO934.out).2.2 | (with_reducible refine Kd.C_alloc ?_ _) | (with_reducible refine Kd.C_drewN ?_ _) | (with_reducible refine Kd.C_drew ?_)))
    (case side6 => exact (Kd.V_reads' HO934.out).2.1)
    (case side7 => repeat (first | exact (Kd.R_reads' HO937.out).2.2 | (with_reducible refine Kd.C_alloc ?_ _) | (with_reducible refine Kd.C_drewN ?_ _) | (with_reducible refine Kd.C_drew ?_)))
    (case side8 => exact (Kd.R_reads' HO937.out).2.1)
    rintro e w230 ⟨rfl, hb⟩
    refine ⟨_, rfl, ?_⟩
    replace HO_884000 := Aside0.mk (Kd.R_below (rU HO_884000.out) hb)
    replace HO_884001 := Aside0.mk (Kd.R_below (rU HO_884001.out) hb)
    replace HO_885000 := Aside0.mk (Kd.R_below (rU HO_885000.out) hb)
    replace HO_885001 := Aside0.mk (Kd.R_below (rU HO_885001.out) hb)
    replace HO926 := Aside0.mk (Kd.R_below (rU HO926.out) hb)
    replace HO929 := Aside0.mk (Kd.R_below (rU HO929.out) hb)
    replace HO934 := Aside0.mk (Kd.V_below (vU HO934.out) hb)
    replace HO937 := Aside0.mk (Kd.R_below (rU HO937.out) hb)
    replace BK861 := Aside0.mk (blk_below (bU BK861.out) hb)
    replace BK883 := Aside0.mk (blk_below (bU BK883.out) hb)
    replace BK884 := Aside0.mk (blk_below (bU BK884.out) hb)
    replace BK931 := Aside0.mk (blk_below (bU BK931.out) hb)
    replace HB := Aside0.mk (below_step (by repeat (first | exact beU HB.out | refine below_set ?_ (Aside0.out ‹_›) | apply below_alloc | apply pw_below_drewN | apply below_drew1)) hb)
    (try clear hb)
    (try clear hb2)
    (try clear hk)
    (try clear hi)
    refine hK.out _ _ ⟨(blk_cell BK931.out 0).trans rfl, (blk_cell BK931.out 1).trans rfl, (blk_cell BK861.out 0).trans rfl, (blk_cell BK861.out 1).trans rfl⟩ (fun hHeld => ?_)
    clear hK K
    refine norm_ (a' := ?_) ?_ ?_
    rotate_left
    ·show Act.put _ (some 90) _ = _
     simp only [Act.put, List.setIfInBounds_toArray, List.set_cons_zero, List.set_cons_succ, i64_w, i32_w]
     rfl
    refine pure_ (i := 4) (N := some 91) (v := ?_) (a' := ?_) #[true, true, true, true, true, false, false, false] rfl rfl (any_of HT_.out (by kernel_rfl)) (fun _ _ _ h => h) (Or.inl ⟨by rfl, ?_⟩) ?_ ?_
    rotate_left
    ·intro w'
     go_simp
     with_reducible rfl
    rotate_left
    ·simp only [Act.put, List.setIfInBounds_toArray, List.set_cons_zero, List.set_cons_succ, i64_w, i32_w]
     rfl
    refine one_ (i := 5) (N := some 92) #[true, true, true, true, true, true, false, false] rfl rfl (one_of HT_.out (by kernel_rfl)) (by decide) (fun K hK => ?_)
    refine goes_ Try.func43 (by kernel_rfl) rfl #[] (by rfl) rfl rfl (by (try simp only [List.map_toArray, List.map_cons, List.map_nil]); first | done | rfl | (simp only [List.length_drop, List.length_take]; rfl)) ?_
    with_reducible refine (weirkeeperlaw04_awake.calls _ A213.out).mono ?_
    rintro e w231 ⟨rfl, hb⟩
    refine ⟨_, rfl, ?_⟩
    replace HO_884000 := Aside0.mk (Kd.R_below (rU HO_884000.out) hb)
    replace HO_884001 := Aside0.mk (Kd.R_below (rU HO_884001.out) hb)
    replace HO_885000 := Aside0.mk (Kd.R_below (rU HO_885000.out) hb)
    replace HO_885001 := Aside0.mk (Kd.R_below (rU HO_885001.out) hb)
    replace HO926 := Aside0.mk (Kd.R_below (rU HO926.out) hb)
    replace HO929 := Aside0.mk (Kd.R_below (rU HO929.out) hb)
    replace HO934 := Aside0.mk (Kd.V_below (vU HO934.out) hb)
    replace HO937 := Aside0.mk (Kd.R_below (rU HO937.out) hb)
    replace BK861 := Aside0.mk (blk_below (bU BK861.out) hb)
    replace BK883 := Aside0.mk (blk_below (bU BK883.out) hb)
    replace BK884 := Aside0.mk (blk_below (bU BK884.out) hb)
    replace BK931 := Aside0.mk (blk_below (bU BK931.out) hb)
    replace HB := Aside0.mk (below_step (by repeat (first | exact beU HB.out | refine below_set ?_ (Aside0.out ‹_›) | apply below_alloc | apply pw_below_drewN | apply below_drew1)) hb)
    (try clear hb)
    (try clear hb2)
    (try clear hk)
    (try clear hi)
    refine hK.out _ _ ⟨(blk_cell BK931.out 0).trans rfl, (blk_cell BK931.out 1).trans rfl, (blk_cell BK861.out 0).trans rfl, (blk_cell BK861.out 1).trans rfl⟩ (fun hHeld => ?_)
    clear hK K
    refine norm_ (a' := ?_) ?_ ?_
    rotate_left
    ·show Act.put _ (some 92) _ = _
     simp only [Act.put, List.setIfInBounds_toArray, List.set_cons_zero, List.set_cons_succ, i64_w, i32_w]
     rfl
    refine pure_ (i := 6) (N := some 93) (v := ?_) (a' := ?_) #[true, true, true, true, true, true, true, false] rfl rfl (any_of HT_.out (by kernel_rfl)) (fun _ _ _ h => h) (Or.inl ⟨by rfl, ?_⟩) ?_ ?_
    rotate_left
    ·intro w'
     go_simp
     with_reducible rfl
    rotate_left
    ·simp only [Act.put, List.setIfInBounds_toArray, List.set_cons_zero, List.set_cons_succ, i64_w, i32_w]
     rfl
    refine pure_ (i := 7) (N := some 12) (v := ?_) (a' := ?_) #[true, true, true, true, true, true, true, true] rfl rfl (any_of HT_.out (by kernel_rfl)) (fun _ _ _ h => h) (Or.inl ⟨by rfl, ?_⟩) ?_ ?_
    rotate_left
    ·intro w'
     go_simp
     with_reducible rfl
    rotate_left
    ·simp only [Act.put, List.setIfInBounds_toArray, List.set_cons_zero, List.set_cons_succ, i64_w, i32_w]
     rfl
    refine done_ (done_of HT_.out (by kernel_rfl)) ?_
    try go_wp2
    go_ret
    exact ⟨by first | rfl | (simp only [h9_.out]; done) | (have h8_ := h9_.out; simp [h8_]; done) | (simp [errW_none, errW_some] <;> rfl) | (simp [*, errW_none, errW_some] <;> rfl), by repeat (first | (with_reducible first | exact HB.out | apply below_alloc | apply pw_below_drewN | apply below_drew1 | refine below_set ?_ GE861.out | refine below_set ?_ GE883.out | refine below_set ?_ GE884.out | refine below_set ?_ GE931.out) | exact HB.out)⟩
   ·replace c212 := Bool.eq_false_iff.mpr c212
    subst c212
    have H1 : (some false) = some true := by rw [if_neg (show ¬ (false = true) by decide)] at H; exact H
    clear H
    have H := H1
    clear H1
    exact absurd H (by simp)
  
end Go.Proofs.Ythidkdlmpkeogaa.F
