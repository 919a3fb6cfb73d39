/- Disks that are only read: a variable that holds one, and one that was handed back; what Write of blocks and Put come to in these words. -/
import Derived.Test.YtpkapldkmleppaaBase
import Derived.Test.YtpkapldkmleppaaFLem
import Derived.Test.YtpkapldkmleppaaFblock
import Derived.Deep.LoopGhost
namespace Go.Proofs.Ytpkapldkmleppaa.F
open Go.RowKit Go.Proofs.YtpkapldkmleppaaW.PrintWords Go.Proofs.YtpkapldkmleppaaW.PrintLast Go.Proofs.YtpkapldkmleppaaW.PrintMore
set_option linter.unusedVariables false
set_option linter.unusedSimpArgs false
/-- A variable that holds a disk: its block, and that its rows read. -/
structure BoxD (wr : World) (b : Nat) (p0 : Option Addr) (q0 : Nat) (S : List ByteArray) (p1 : Option Addr) (q1 : Nat) (W : List S76) : Prop where
  blk : wr.heap[b]? = some (.cells #[.slice p0 S.length q0, .slice p1 W.length q1] 25 (0, 0))
  c0 : Kd.C Kd.string wr p0 S.length S
  l0 : S.length ≤ q0
  c1 : Kd.C k76 wr p1 W.length W
  l1 : W.length ≤ q1
theorem BoxD.below {wr w' : World} {b : Nat} {p0 : Option Addr} {q0 : Nat} {S : List ByteArray} {p1 : Option Addr} {q1 : Nat} {W : List S76} (h : BoxD wr b p0 q0 S p1 q1 W) (hb : Below wr.heap.size wr w') : BoxD w' b p0 q0 S p1 q1 W :=
  ⟨blk_below h.blk hb, Kd.C_below h.c0 hb, h.l0, Kd.C_below h.c1 hb, h.l1⟩
theorem BoxD.alloc {wr : World} {b : Nat} {p0 : Option Addr} {q0 : Nat} {S : List ByteArray} {p1 : Option Addr} {q1 : Nat} {W : List S76} (h : BoxD wr b p0 q0 S p1 q1 W) (o : Obj) : BoxD (wr.alloc o) b p0 q0 S p1 q1 W := h.below (below_alloc (Below.refl _ _) o)
theorem BoxD.drew {wr : World} {b : Nat} {p0 : Option Addr} {q0 : Nat} {S : List ByteArray} {p1 : Option Addr} {q1 : Nat} {W : List S76} (h : BoxD wr b p0 q0 S p1 q1 W) : BoxD wr.drew b p0 q0 S p1 q1 W := h.below (below_drew (Below.refl _ _))
theorem BoxD.drewN {wr : World} {b : Nat} {p0 : Option Addr} {q0 : Nat} {S : List ByteArray} {p1 : Option Addr} {q1 : Nat} {W : List S76} (h : BoxD wr b p0 q0 S p1 q1 W) (n : Nat) : BoxD (wr.drewN n) b p0 q0 S p1 q1 W := h.below (pw_below_drewN (Below.refl _ _) n)
theorem BoxD.arg {w : World} {p0 : Option Addr} {q0 : Nat} {S : List ByteArray} {p1 : Option Addr} {q1 : Nat} {W : List S76} (h0 : Kd.C Kd.string w p0 S.length S) (h1 : S.length ≤ q0) (h2 : Kd.C k76 w p1 W.length W) (h3 : W.length ≤ q1) :
    BoxD (w.alloc (.cells #[.slice p0 S.length q0, .slice p1 W.length q1] 25)) w.heap.size p0 q0 S p1 q1 W := ⟨heap_alloc_new _ _, Kd.C_alloc h0 _, h1, Kd.C_alloc h2 _, h3⟩
theorem BoxD.new {w : World} {b0 : Nat} {ok ok' : Nat → Prop} {p0 : Option Addr} {q0 : Nat} {S : List ByteArray} {p1 : Option Addr} {q1 : Nat} {W : List S76} (h0 : Kd.R Kd.string 9 w b0 ok (.slice p0 S.length q0) S) (h1 : Kd.R k76 76 w b0 ok' (.slice p1 W.length q1) W) :
    BoxD (w.alloc (.cells #[.slice p0 S.length q0, .slice p1 W.length q1] 25)) w.heap.size p0 q0 S p1 q1 W :=
  .arg (Kd.R_reads' h0).2.2 (Kd.R_reads' h0).2.1 (Kd.R_reads' h1).2.2 (Kd.R_reads' h1).2.1
theorem BoxD.put {w7 : World} {b base : Nat} {ok ok' : Nat → Prop} {p0 : Option Addr} {q0 : Nat} {S : List ByteArray} {p1 : Option Addr} {q1 : Nat} {W : List S76} (hz : w7.heap[b]? = some (.cells #[.slice none 0 0, .slice none 0 0] 25 (0, 0)))
    (h0 : Kd.R Kd.string 9 w7 base ok (.slice p0 S.length q0) S) (h1 : Kd.R k76 76 w7 base ok' (.slice p1 W.length q1) W) :
    BoxD ((w7.setCell ⟨b, 0, none⟩ (.slice p0 S.length q0)).setCell ⟨b, 1, none⟩ (.slice p1 W.length q1)) b p0 q0 S p1 q1 W :=
  ⟨blk_put (blk_put hz 0 _ rfl) 1 _ rfl, (Kd.R_reads' (Kd.R_set (Kd.R_set h0 hz (by decide) 0 _) (blk_put hz 0 _ rfl) (by decide) 1 _)).2.2, (Kd.R_reads' h0).2.1,
    (Kd.R_reads' (Kd.R_set (Kd.R_set h1 hz (by decide) 0 _) (blk_put hz 0 _ rfl) (by decide) 1 _)).2.2, (Kd.R_reads' h1).2.1⟩
/-- The rows of a disk that was handed back, not yet laid into a variable. -/
structure ViewD (wr : World) (p0 : Option Addr) (q0 : Nat) (S : List ByteArray) (p1 : Option Addr) (q1 : Nat) (W : List S76) : Prop where
  c0 : Kd.C Kd.string wr p0 S.length S
  l0 : S.length ≤ q0
  c1 : Kd.C k76 wr p1 W.length W
  l1 : W.length ≤ q1
theorem ViewD.below {wr w' : World} {p0 : Option Addr} {q0 : Nat} {S : List ByteArray} {p1 : Option Addr} {q1 : Nat} {W : List S76} (h : ViewD wr p0 q0 S p1 q1 W) (hb : Below wr.heap.size wr w') : ViewD w' p0 q0 S p1 q1 W :=
  ⟨Kd.C_below h.c0 hb, h.l0, Kd.C_below h.c1 hb, h.l1⟩
theorem ViewD.new {w : World} {b0 : Nat} {ok ok' : Nat → Prop} {p0 : Option Addr} {q0 : Nat} {S : List ByteArray} {p1 : Option Addr} {q1 : Nat} {W : List S76} (h0 : Kd.R Kd.string 9 w b0 ok (.slice p0 S.length q0) S) (h1 : Kd.R k76 76 w b0 ok' (.slice p1 W.length q1) W) : ViewD w p0 q0 S p1 q1 W :=
  ⟨(Kd.R_reads' h0).2.2, (Kd.R_reads' h0).2.1, (Kd.R_reads' h1).2.2, (Kd.R_reads' h1).2.1⟩
theorem block_Write_view (k : Nat) (A0 : Option Addr) (c0 : Nat) (l0 : List ByteArray) (A1 : Option Addr) (c1 : Nat) (l1 : List S76) (a1 : Int) (a2 : ByteArray) (r1 : List ByteArray) (r2 : List S76) (r3 : Int) (w : World)
    (hr0 : Kd.C Kd.string w A0 l0.length l0) (hc0 : l0.length ≤ c0) (hr1 : Kd.C k76 w A1 l1.length l1) (hc1 : l1.length ≤ c1) (h : block_Write.f k l0 l1 a1 a2 = some (r1, r2, r3)) :
    Calls Try.prog 18 #[.agg #[.slice A0 l0.length c0, .slice A1 l1.length c1], .int .i64 a1, .string a2] w fun e w' => ∃ p0 q0 p1 q1, e = .returned (.tuple #[.agg #[.slice p0 r1.length q0, .slice p1 r2.length q1], .int .i64 r3]) ∧ ViewD w' p0 q0 r1 p1 q1 r2 ∧ Below w.heap.size w w' := by
  refine (block_Write.calls k (fun k_ => k_ < w.heap.size) A0 c0 l0 (fun k_ => k_ < w.heap.size) A1 c1 l1 a1 a2 r1 r2 r3 w (Kd.V_mk hc0 (Kd.C_F Kd.heap_string hr0)) (Kd.V_mk hc1 (Kd.C_F k76_heap hr1)) h).mono ?_
  rintro e w' ⟨v0, v1, rfl, h0, h1, hb⟩
  obtain ⟨p0, q0, rfl⟩ := Kd.V_slice h0
  obtain ⟨p1, q1, rfl⟩ := Kd.V_slice h1
  exact ⟨p0, q0, p1, q1, rfl, ⟨(Kd.V_reads' h0).2.2, (Kd.V_reads' h0).2.1, (Kd.V_reads' h1).2.2, (Kd.V_reads' h1).2.1⟩, hb⟩
end Go.Proofs.Ytpkapldkmleppaa.F
