/- Words and walks of this claim, of the text Cx5. -/
import Derived.Test.YtddffjhodiengaaKeCx0
import Derived.Test.YtddffjhodiengaaKeCx3
import Derived.Test.YtddffjhodiengaaKeCx4
namespace Go.Proofs.Ytddffjhodiengaa.C
open Go.RowKit Go.Proofs.YtddffjhodiengaaW.PrintWords Go.Proofs.YtddffjhodiengaaW.PrintLast Go.Proofs.YtddffjhodiengaaW.PrintMore
attribute [local go_sem] max2_int min2_int max_two min_two max_three min_three max_four min_four
set_option linter.unusedVariables false
set_option linter.unusedSimpArgs false
mutual
def leadtraillaw04_ScalarsRanks.j0 : Nat → Int → Int → List (S56) → Int → Bool → Bool → Option (Bool)
  | 0, _, _, _, _, _, _ => none
  | k + 1, x1, x2, x7, x10, x11, x55 => if x55 = true then (some false) else (if x11 = true then ((scalars_Select.f k x7 x10).bind fun bt204 => (if bt204.2 = true then (if bt204.1 = x1 then (leadtraillaw04_ScalarsRanks.j1 k x2 x7) else (some false)) else (some false))) else (leadtraillaw04_ScalarsRanks.j1 k x2 x7))
def leadtraillaw04_ScalarsRanks.j1 : Nat → Int → List (S56) → Option (Bool)
  | 0, _, _ => none
  | k + 1, x2, x7 => (scalars_Select.f k x7 x2).bind fun bt206 => (if x2 ≥ 0 then ((scalars_Size.f k x7).bind fun t208 => (if (bt206.2 != (decide (x2 < t208))) = true then (some false) else ((scalars_Rank.f k x7 bt206.1).bind fun bt209 => (if bt206.2 = true then (if bt209.2 = true then (some (bt209.1 == x2)) else (some false)) else (some true))))) else (if (bt206.2 != false) = true then (some false) else ((scalars_Rank.f k x7 bt206.1).bind fun bt211 => (if bt206.2 = true then (if bt211.2 = true then (some (bt211.1 == x2)) else (some false)) else (some true)))))
end
mutual
def leadtrailref04_merged.l0 : Nat → List Int → List Int → List Int → Int → Int → Option (List Int)
  | 0, _, _, _, _, _ => none
  | k + 1, x0, x1, x5, x6, x7 => if x6 < (x0.length : Int) then (leadtrailref04_merged.j1 k x0 x1 x5 x6 x7 true) else (leadtrailref04_merged.j1 k x0 x1 x5 x6 x7 (decide (x7 < (x1.length : Int))))
def leadtrailref04_merged.j1 : Nat → List Int → List Int → List Int → Int → Int → Bool → Option (List Int)
  | 0, _, _, _, _, _, _ => none
  | k + 1, x0, x1, x5, x6, x7, x17 => if x17 = true then (if x7 = (x1.length : Int) then (if 0 ≤ x6 then (if x6 < (x0.length : Int) then (if x5.length < 17592186044416 then (leadtrailref04_merged.l0 k x0 x1 (x5 ++ [rd x0 x6]) (wrap64 (x6 + 1)) x7) else (none)) else (none)) else (none)) else (if x6 < (x0.length : Int) then (if 0 ≤ x6 then (if 0 ≤ x7 then (if x7 < (x1.length : Int) then (if (rd x0 x6) ≤ (rd x1 x7) then (if x5.length < 17592186044416 then (leadtrailref04_merged.l0 k x0 x1 (x5 ++ [rd x0 x6]) (wrap64 (x6 + 1)) x7) else (none)) else (if x5.length < 17592186044416 then (leadtrailref04_merged.l0 k x0 x1 (x5 ++ [rd x1 x7]) x6 (wrap64 (x7 + 1))) else (none))) else (none)) else (none)) else (none)) else (if 0 ≤ x7 then (if x7 < (x1.length : Int) then (if x5.length < 17592186044416 then (leadtrailref04_merged.l0 k x0 x1 (x5 ++ [rd x1 x7]) x6 (wrap64 (x7 + 1))) else (none)) else (none)) else (none)))) else (some x5)
end
def leadtrailref04_merged.f (k : Nat) (l0 : List Int) (l1 : List Int) : Option (List Int) := leadtrailref04_merged.l0 k l0 l1 ([] : List Int) 0 0
end Go.Proofs.Ytddffjhodiengaa.C
