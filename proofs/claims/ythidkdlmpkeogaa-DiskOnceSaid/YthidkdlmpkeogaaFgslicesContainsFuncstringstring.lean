/- Contracts of Go functions of the seat Ythidkdlmpkeogaa: what a call comes to; no condition but those that each theorem names. -/
import Derived.Test.YthidkdlmpkeogaaFPre
import Derived.Test.YthidkdlmpkeogaaFShelf
import Derived.Test.YthidkdlmpkeogaaFLem
import Derived.Test.YthidkdlmpkeogaaFdiskA
namespace Go.Proofs.Ythidkdlmpkeogaa.F
open Go.RowKit Go.Proofs.YthidkdlmpkeogaaW.PrintWords Go.Proofs.YthidkdlmpkeogaaW.PrintLast Go.Proofs.YthidkdlmpkeogaaW.PrintMore
attribute [local go_sem] max2_int min2_int max_two min_two max_three min_three max_four min_four   -- for this text's walks alone
set_option linter.unusedVariables false
set_option linter.unusedSimpArgs false

/-! ### slices_ContainsFunc_string_string: function 87 -/

def slices_ContainsFunc_string_string.f (l0 : List ByteArray) : Option Bool := some (l0.any fun s => s.size != 32)
theorem short_at (w : World) : PredAt Try.prog 88 #[] Value.string (fun s : ByteArray => s.size != 32) w := by
  intro W x hb
  refine (disk_short.calls x (x.size != 32) W ?_).mono fun e w' ⟨he, hd⟩ => ⟨he, hd.out⟩
  show some ((x.size : Int) != 32) = some (x.size != 32)
  congr 1
  rw [Bool.eq_iff_iff]
  simp only [bne_iff_ne, ne_eq]
  omega
theorem slices_ContainsFunc_string_string.calls (A0 : Option Addr) (c0 : Nat) (l0 : List ByteArray) (r : Bool) (w : World) (hr0 : Kd.C Kd.string w A0 l0.length l0) (hc0 : l0.length ≤ c0) (h : slices_ContainsFunc_string_string.f l0 = some r) :
    Calls Try.prog 87 #[.slice A0 l0.length c0, .func (.func 88) #[] #[]] w fun e w' => e = .returned (.bool r) ∧ Drawn0 w w' := by
  obtain rfl := Option.some.inj h
  by_cases hn : 0 < l0.length
  · obtain ⟨b, o, rfl, hb, hc⟩ := cells_str hr0 hn
    have := AnyE.slices_ContainsFunc (α := ByteArray) laysCS Value.string (fun s : ByteArray => s.size != 32) 88 #[] (fun args w => by kernel_rfl) b o l0.length c0 l0 w (short_at w) (Nat.le_refl _) (Kd.C_max hr0) (fun j hj => by rw [hc j l0[j]! (by rw [List.getElem?_eq_getElem hj]; congr 1; exact (getElem!_pos l0 j hj).symm)])
    rw [List.take_length] at this
    exact this.mono fun e w' ⟨he, hw⟩ => ⟨he, ⟨hw⟩⟩
  · obtain rfl : l0 = [] := List.length_eq_zero_iff.1 (by omega)
    exact (AnyE.slices_ContainsFunc_empty laysCS A0 c0 _ w).mono fun e w' ⟨he, hw⟩ => ⟨he, hw ▸ Drawn0.refl _⟩


-- NOT PRINTED: function 110 (slices_IndexFunc_disk_Write_disk_Write)

-- NOT PRINTED: function 89 (slices_ContainsFunc_disk_Write_disk_Write)

end Go.Proofs.Ythidkdlmpkeogaa.F
