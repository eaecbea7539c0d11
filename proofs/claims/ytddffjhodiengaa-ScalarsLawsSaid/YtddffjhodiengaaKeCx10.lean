/- Words and walks of this claim, of the text Cx10. -/
import Derived.Test.YtddffjhodiengaaKeCx0
import Derived.Test.YtddffjhodiengaaKeCx5
import Derived.Test.YtddffjhodiengaaKeCx8
namespace Go.Proofs.Ytddffjhodiengaa.C
open Go.RowKit Go.Proofs.YtddffjhodiengaaW.PrintWords Go.Proofs.YtddffjhodiengaaW.PrintLast Go.Proofs.YtddffjhodiengaaW.PrintMore
attribute [local go_sem] max2_int min2_int max_two min_two max_three min_three max_four min_four
set_option linter.unusedVariables false
set_option linter.unusedSimpArgs false
mutual
def leadtrailref04_combined.l0 : Nat → List (S56) → List (S56) → Bool → Bool → Bool → List (S56) → Int → Int → Int → List Int → Option ((List (S56)))
  | 0, _, _, _, _, _, _, _, _, _, _ => none
  | k + 1, x0, x1, x2, x3, x4, x12, x13, x14, x15, x28 => if (wrap64 (x15 + 1)) < (x28.length : Int) then (if 0 ≤ x15 then (if x15 < (x28.length : Int) then (if 0 ≤ (wrap64 (x15 + 1)) then (if (rd x28 x15) > (wrap64 ((rd x28 (wrap64 (x15 + 1))) - 1)) then (leadtrailref04_combined.l0 k x0 x1 x2 x3 x4 x12 x13 x14 (wrap64 (x15 + 1)) x28) else (leadtrailref04_combined.l1 k x0 x1 x2 x3 x4 x12 x13 x14 x15 (rd x28 x15) (wrap64 ((rd x28 (wrap64 (x15 + 1))) - 1)) x28)) else (none)) else (none)) else (none)) else (some x12)
def leadtrailref04_combined.j2 : Nat → List (S56) → List (S56) → Bool → Bool → Bool → List (S56) → Int → Int → Int → Int → Int → List Int → Option ((List (S56)))
  | 0, _, _, _, _, _, _, _, _, _, _, _, _ => none
  | k + 1, x0, x1, x2, x3, x4, x12, x13, x14, x15, x16, x17, x28 => leadtrailref04_combined.l2 k x0 x1 x2 x3 x4 x12 x13 x14 x15 x16 x17 x28
def leadtrailref04_combined.j4 : Nat → List (S56) → List (S56) → Bool → Bool → Bool → List (S56) → Int → Int → Int → Int → Int → List Int → Option ((List (S56)))
  | 0, _, _, _, _, _, _, _, _, _, _, _, _ => none
  | k + 1, x0, x1, x2, x3, x4, x12, x13, x14, x15, x16, x17, x28 => if x13 < (x0.length : Int) then (if 0 ≤ x13 then (if x14 < (x1.length : Int) then (if 0 ≤ x14 then (leadtrailref04_combined.j5 k x0 x1 x2 x3 x4 x12 x13 x14 x15 x16 x17 (decide (((rd_T56 x0 x13).f0) ≤ x16)) (decide (((rd_T56 x1 x14).f0) ≤ x16)) x28) else (none)) else (leadtrailref04_combined.j5 k x0 x1 x2 x3 x4 x12 x13 x14 x15 x16 x17 (decide (((rd_T56 x0 x13).f0) ≤ x16)) false x28)) else (none)) else (if x14 < (x1.length : Int) then (if 0 ≤ x14 then (leadtrailref04_combined.j5 k x0 x1 x2 x3 x4 x12 x13 x14 x15 x16 x17 false (decide (((rd_T56 x1 x14).f0) ≤ x16)) x28) else (none)) else (leadtrailref04_combined.j5 k x0 x1 x2 x3 x4 x12 x13 x14 x15 x16 x17 false false x28))
def leadtrailref04_combined.j5 : Nat → List (S56) → List (S56) → Bool → Bool → Bool → List (S56) → Int → Int → Int → Int → Int → Bool → Bool → List Int → Option ((List (S56)))
  | 0, _, _, _, _, _, _, _, _, _, _, _, _, _, _ => none
  | k + 1, x0, x1, x2, x3, x4, x12, x13, x14, x15, x16, x17, x18, x19, x28 => if x18 = true then (if x19 = true then (if x2 = true then (leadtrailref04_combined.j6 k x0 x1 x2 x3 x4 x12 x13 x14 x15 x16 x17 x28 (!true)) else (leadtrailref04_combined.j6 k x0 x1 x2 x3 x4 x12 x13 x14 x15 x16 x17 x28 (!false))) else (if x3 = true then (leadtrailref04_combined.j6 k x0 x1 x2 x3 x4 x12 x13 x14 x15 x16 x17 x28 (!true)) else (leadtrailref04_combined.j6 k x0 x1 x2 x3 x4 x12 x13 x14 x15 x16 x17 x28 (!false)))) else (if x19 = true then (leadtrailref04_combined.j6 k x0 x1 x2 x3 x4 x12 x13 x14 x15 x16 x17 x28 (!x4)) else (leadtrailref04_combined.j6 k x0 x1 x2 x3 x4 x12 x13 x14 x15 x16 x17 x28 (!false)))
def leadtrailref04_combined.j6 : Nat → List (S56) → List (S56) → Bool → Bool → Bool → List (S56) → Int → Int → Int → Int → Int → List Int → Bool → Option ((List (S56)))
  | 0, _, _, _, _, _, _, _, _, _, _, _, _, _ => none
  | k + 1, x0, x1, x2, x3, x4, x12, x13, x14, x15, x16, x17, x28, x132 => if x132 = true then (leadtrailref04_combined.l0 k x0 x1 x2 x3 x4 x12 x13 x14 (wrap64 (x15 + 1)) x28) else (if (x12.length : Int) > 0 then (if 0 ≤ (wrap64 ((x12.length : Int) - 1)) then (if (wrap64 ((x12.length : Int) - 1)) < (x12.length : Int) then (if ((rd_T56 x12 (wrap64 ((x12.length : Int) - 1))).f1) = (wrap64 (x16 - 1)) then (leadtrailref04_combined.l0 k x0 x1 x2 x3 x4 (x12.set ((wrap64 ((x12.length : Int) - 1)) : Int).toNat (⟨(rd_T56 x12 (wrap64 ((x12.length : Int) - 1))).f0, x17⟩ : S56)) x13 x14 (wrap64 (x15 + 1)) x28) else (if x12.length < 8796093022208 then (leadtrailref04_combined.l0 k x0 x1 x2 x3 x4 (x12 ++ [(⟨x16, x17⟩ : S56)]) x13 x14 (wrap64 (x15 + 1)) x28) else (none))) else (none)) else (none)) else (if x12.length < 8796093022208 then (leadtrailref04_combined.l0 k x0 x1 x2 x3 x4 (x12 ++ [(⟨x16, x17⟩ : S56)]) x13 x14 (wrap64 (x15 + 1)) x28) else (none)))
def leadtrailref04_combined.l2 : Nat → List (S56) → List (S56) → Bool → Bool → Bool → List (S56) → Int → Int → Int → Int → Int → List Int → Option ((List (S56)))
  | 0, _, _, _, _, _, _, _, _, _, _, _, _ => none
  | k + 1, x0, x1, x2, x3, x4, x12, x13, x14, x15, x16, x17, x28 => if x14 < (x1.length : Int) then (if 0 ≤ x14 then (if ((rd_T56 x1 x14).f1) < x16 then (leadtrailref04_combined.l2 k x0 x1 x2 x3 x4 x12 x13 (wrap64 (x14 + 1)) x15 x16 x17 x28) else (leadtrailref04_combined.j4 k x0 x1 x2 x3 x4 x12 x13 x14 x15 x16 x17 x28)) else (none)) else (leadtrailref04_combined.j4 k x0 x1 x2 x3 x4 x12 x13 x14 x15 x16 x17 x28)
def leadtrailref04_combined.l1 : Nat → List (S56) → List (S56) → Bool → Bool → Bool → List (S56) → Int → Int → Int → Int → Int → List Int → Option ((List (S56)))
  | 0, _, _, _, _, _, _, _, _, _, _, _, _ => none
  | k + 1, x0, x1, x2, x3, x4, x12, x13, x14, x15, x16, x17, x28 => if x13 < (x0.length : Int) then (if 0 ≤ x13 then (if ((rd_T56 x0 x13).f1) < x16 then (leadtrailref04_combined.l1 k x0 x1 x2 x3 x4 x12 (wrap64 (x13 + 1)) x14 x15 x16 x17 x28) else (leadtrailref04_combined.j2 k x0 x1 x2 x3 x4 x12 x13 x14 x15 x16 x17 x28)) else (none)) else (leadtrailref04_combined.j2 k x0 x1 x2 x3 x4 x12 x13 x14 x15 x16 x17 x28)
end
end Go.Proofs.Ytddffjhodiengaa.C
