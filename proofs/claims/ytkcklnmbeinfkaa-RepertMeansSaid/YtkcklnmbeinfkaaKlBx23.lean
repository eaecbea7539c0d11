/- Words and walks of this claim, of the text Bx23. -/
import Derived.Test.YtkcklnmbeinfkaaKlQW0
import Derived.Test.YtkcklnmbeinfkaaKlBx0
import Derived.Test.YtkcklnmbeinfkaaKlBx3
import Derived.Test.YtkcklnmbeinfkaaKlBx13
namespace Go.Proofs.Ytkcklnmbeinfkaa.B
open Go.RowKit Go.Proofs.YtkcklnmbeinfkaaW.PrintWords Go.Proofs.YtkcklnmbeinfkaaW.PrintLast Go.Proofs.YtkcklnmbeinfkaaW.PrintMore
attribute [local go_sem] max2_int min2_int max_two min_two max_three min_three max_four min_four
set_option linter.unusedVariables false
set_option linter.unusedSimpArgs false
theorem bytes_Compare.bytesOf (A0 : Option Addr) (c0 : Nat) (l0 : List Int) (w : World) (h : Kd.C (Kd.int .u8) w A0 l0.length l0) : (Extern.Bytes.bytesOf (.slice A0 l0.length c0)).run Try.prog w = .ok ⟨(Lib.bytesOf l0).toArray⟩ w := by
 obtain ⟨h1, h2, h3⟩ := Kd.reads_of_C (enc := Value.int .u8) (d := (0 : Int)) (h1 := fun _ => rfl) h; have hc : ∀ a, A0 = some a → ∀ j x, l0[j]? = some x → w.cell? (a.add j) = some (.int .u8 x) := fun a ha j x hj => by
  have hjl : j < l0.length := (List.getElem?_eq_some_iff.1 hj).1; obtain ⟨ad, e, hcell⟩ := h3 (by omega); rw [ha] at e; obtain rfl := Option.some.inj e; have := hcell j hjl; rw [this, List.getD_eq_getElem?_getD, hj]; rfl
 clear h h1 h2; cases A0 with
 | none =>
  have e : l0 = [] := by
   cases l0 with
   | nil => rfl
   | cons x t => obtain ⟨ad, e, _⟩ := h3 (by simp); exact absurd e (by simp)
  subst e; rfl
 | some a =>
  have hl := Lib.run_loadBytesX (P := Try.prog) w l0 a .empty (hc a rfl); have he : (⟨ByteArray.empty.data ++ (Lib.bytesOf l0).toArray⟩ : ByteArray) = ⟨(Lib.bytesOf l0).toArray⟩ := by
   apply ByteArray.ext; show (#[] : Array UInt8) ++ (Lib.bytesOf l0).toArray = (Lib.bytesOf l0).toArray; simp
  rw [he] at hl; exact hl
theorem bytes_Compare.run (A0 : Option Addr) (c0 : Nat) (l0 : List Int) (A1 : Option Addr) (c1 : Nat) (l1 : List Int) (w : World) (h0 : Kd.C (Kd.int .u8) w A0 l0.length l0) (h1 : Kd.C (Kd.int .u8) w A1 l1.length l1) :
 (Extern.BytealgCompare.compare #[.slice A0 l0.length c0, .slice A1 l1.length c1]).run Try.prog w = .ok (.int .i64 (Lib.compareBytes (Lib.bytesOf l0) (Lib.bytesOf l1))) w := by
 change Sem.run Try.prog (do pure (goInt (Extern.BytealgCompare.cmp (← Extern.Bytes.bytesOf (.slice A0 l0.length c0)) (← Extern.Bytes.bytesOf (.slice A1 l1.length c1))))) w = _
 simp only [Sem.run_bind, Sem.run_pure, bytes_Compare.bytesOf A0 c0 l0 w h0, bytes_Compare.bytesOf A1 c1 l1 w h1, Result.andThen]; rw [Lib.cmp_eq]; rfl
end Go.Proofs.Ytkcklnmbeinfkaa.B
