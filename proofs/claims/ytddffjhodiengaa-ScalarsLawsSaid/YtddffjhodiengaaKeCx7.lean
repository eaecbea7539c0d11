/- Words and walks of this claim, of the text Cx7. -/
import Derived.Test.YtddffjhodiengaaKeCx0
import Derived.Test.YtddffjhodiengaaKeCx6
namespace Go.Proofs.Ytddffjhodiengaa.C
open Go.RowKit Go.Proofs.YtddffjhodiengaaW.PrintWords Go.Proofs.YtddffjhodiengaaW.PrintLast Go.Proofs.YtddffjhodiengaaW.PrintMore
attribute [local go_sem] max2_int min2_int max_two min_two max_three min_three max_four min_four
set_option linter.unusedVariables false
set_option linter.unusedSimpArgs false
mutual
def leadtrailref04_Norm.l0 : Nat → List (S56) → List Int → List Int → Int → Option ((List (S56)) × Int × Int)
  | 0, _, _, _, _ => none
  | k + 1, x0, x5, x6, x7 => if x7 < (x0.length : Int) then (if 0 ≤ x7 then (if ((rd_T56 x0 x7).f0) < 0 then (some (([] : List (S56)), x7, 1)) else (if ((rd_T56 x0 x7).f0) > ((rd_T56 x0 x7).f1) then (some (([] : List (S56)), x7, 1)) else (if ((rd_T56 x0 x7).f1) > 1073741823 then (some (([] : List (S56)), x7, 1)) else (if x5.length < 17592186044416 then (if x6.length < 17592186044416 then (leadtrailref04_Norm.l0 k x0 (x5 ++ [(rd_T56 x0 x7).f0]) (x6 ++ [wrap64 (((rd_T56 x0 x7).f1) + 1)]) (wrap64 (x7 + 1))) else (none)) else (none))))) else (none)) else ((leadtrailref04_sorted.f k x5).bind fun t260 => ((leadtrailref04_sorted.f k x6).bind fun t263 => (leadtrailref04_Norm.l1 k t260 t263 ([] : List (S56)) 0 0 0)))
def leadtrailref04_Norm.l1 : Nat → List Int → List Int → List (S56) → Int → Int → Int → Option ((List (S56)) × Int × Int)
  | 0, _, _, _, _, _, _ => none
  | k + 1, x5, x6, x8, x9, x10, x11 => if x11 < (x5.length : Int) then (leadtrailref04_Norm.j2 k x5 x6 x8 x9 x10 x11 true) else (leadtrailref04_Norm.j2 k x5 x6 x8 x9 x10 x11 (decide (x10 < (x6.length : Int))))
def leadtrailref04_Norm.j2 : Nat → List Int → List Int → List (S56) → Int → Int → Int → Bool → Option ((List (S56)) × Int × Int)
  | 0, _, _, _, _, _, _, _ => none
  | k + 1, x5, x6, x8, x9, x10, x11, x76 => if x76 = true then (if x11 < (x5.length : Int) then (if 0 ≤ x11 then (if 0 ≤ x10 then (if x10 < (x6.length : Int) then (leadtrailref04_Norm.j3 k x5 x6 x8 x9 x10 x11 (decide ((rd x5 x11) ≤ (rd x6 x10)))) else (none)) else (none)) else (none)) else (leadtrailref04_Norm.j3 k x5 x6 x8 x9 x10 x11 false)) else (some (x8, 0, 0))
def leadtrailref04_Norm.j3 : Nat → List Int → List Int → List (S56) → Int → Int → Int → Bool → Option ((List (S56)) × Int × Int)
  | 0, _, _, _, _, _, _, _ => none
  | k + 1, x5, x6, x8, x9, x10, x11, x91 => if x91 = true then (if x9 = 0 then (if 0 ≤ x11 then (if x11 < (x5.length : Int) then (if x8.length < 8796093022208 then (leadtrailref04_Norm.l1 k x5 x6 (x8 ++ [(⟨rd x5 x11, 0⟩ : S56)]) (wrap64 (x9 + 1)) x10 (wrap64 (x11 + 1))) else (none)) else (none)) else (none)) else (leadtrailref04_Norm.l1 k x5 x6 x8 (wrap64 (x9 + 1)) x10 (wrap64 (x11 + 1)))) else (if (wrap64 (x9 - 1)) = 0 then (if 0 ≤ x10 then (if x10 < (x6.length : Int) then (if 0 ≤ (wrap64 ((x8.length : Int) - 1)) then (if (wrap64 ((x8.length : Int) - 1)) < (x8.length : Int) then (leadtrailref04_Norm.l1 k x5 x6 (x8.set ((wrap64 ((x8.length : Int) - 1)) : Int).toNat (⟨(rd_T56 x8 (wrap64 ((x8.length : Int) - 1))).f0, wrap64 ((rd x6 x10) - 1)⟩ : S56)) (wrap64 (x9 - 1)) (wrap64 (x10 + 1)) x11) else (none)) else (none)) else (none)) else (none)) else (leadtrailref04_Norm.l1 k x5 x6 x8 (wrap64 (x9 - 1)) (wrap64 (x10 + 1)) x11))
end
end Go.Proofs.Ytddffjhodiengaa.C
