/- Words and walks of this claim, of the text Qx7. -/
import Derived.Test.YtddffjhodiengaaKmQx0
import Derived.Test.YtddffjhodiengaaKmZ
import Derived.Test.YtddffjhodiengaaKmQx1
import Derived.Test.YtddffjhodiengaaKmQx3
import Derived.Test.YtddffjhodiengaaKmQx4
import Derived.Test.YtddffjhodiengaaKmQx5
import Derived.Test.YtddffjhodiengaaKmQx6
namespace Go.Proofs.Ytddffjhodiengaa.Q
open Go.RowKit Go.Proofs.YtddffjhodiengaaW.PrintWords Go.Proofs.YtddffjhodiengaaW.PrintLast Go.Proofs.YtddffjhodiengaaW.PrintMore
attribute [local go_sem] max2_int min2_int max_two min_two max_three min_three max_four min_four
set_option linter.unusedVariables false
set_option linter.unusedSimpArgs false
attribute [local go_sem high] eqA56
mutual
def leadtraillaw04_ScalarsOwns.l0 : Nat → List (S56) → List (S56) → List (S56) → List (S56) → List (S56) → List (S56) → List (S56) → Int → Int → Int → Int → Option (Bool)
 | 0, _, _, _, _, _, _, _, _, _, _, _ => none
 | k + 1, x0, x1, x8, x9, x25, x31, x67, x72, x73, x277000, x277001 => if x73 < x72 then (if x73 < (x0.length : Int) then (if 0 ≤ x73 then (if x73 < (x25.length : Int) then (if (!(((rd_T56 x25 x73).f0) == ((rd_T56 x0 x73).f0)) || (!(((rd_T56 x25 x73).f1) == ((rd_T56 x0 x73).f1)))) = true then (none) else (if x73 ≥ (x0.length : Int) then (none) else (leadtraillaw04_ScalarsOwns.l0 k x0 x1 x8 x9 x25 x31 x67 x72 (wrap64 (x73 + 1)) x277000 x277001))) else (none)) else (none)) else (if x73 ≥ (x0.length : Int) then (if 0 ≤ x73 then (if x73 < (x25.length : Int) then (if (!(((rd_T56 x25 x73).f0) == x277000) || (!(((rd_T56 x25 x73).f1) == x277001))) = true then (none) else (leadtraillaw04_ScalarsOwns.l0 k x0 x1 x8 x9 x25 x31 x67 x72 (wrap64 (x73 + 1)) x277000 x277001)) else (none)) else (none)) else (none))) else (leadtraillaw04_ScalarsOwns.l1 k x1 x8 x9 x31 x67 (x31.length : Int) 0 x277000 x277001)
def leadtraillaw04_ScalarsOwns.l1 : Nat → List (S56) → List (S56) → List (S56) → List (S56) → List (S56) → Int → Int → Int → Int → Option (Bool)
 | 0, _, _, _, _, _, _, _, _, _ => none
 | k + 1, x1, x8, x9, x31, x67, x107, x108, x277000, x277001 => if x108 < x107 then (if x108 < (x1.length : Int) then (if 0 ≤ x108 then (if x108 < (x31.length : Int) then (if (!(((rd_T56 x31 x108).f0) == ((rd_T56 x1 x108).f0)) || (!(((rd_T56 x31 x108).f1) == ((rd_T56 x1 x108).f1)))) = true then (none) else (if x108 ≥ (x1.length : Int) then (none) else (leadtraillaw04_ScalarsOwns.l1 k x1 x8 x9 x31 x67 x107 (wrap64 (x108 + 1)) x277000 x277001))) else (none)) else (none)) else (if x108 ≥ (x1.length : Int) then (if 0 ≤ x108 then (if x108 < (x31.length : Int) then (if (!(((rd_T56 x31 x108).f0) == x277000) || (!(((rd_T56 x31 x108).f1) == x277001))) = true then (none) else (leadtraillaw04_ScalarsOwns.l1 k x1 x8 x9 x31 x67 x107 (wrap64 (x108 + 1)) x277000 x277001)) else (none)) else (none)) else (none))) else ((scalars_Union.f k x8 x9).bind fun t340 => ((leadtrailref04_Same.f k t340 x67).bind fun t343 => (some t343)))
end
def leadtraillaw04_ScalarsOwns.f (k : Nat) (l0 : List (S56)) (l1 : List (S56)) : Option (Bool) := (leadtraillaw04_fixed.f k).bind fun t275 => (if t275 = true then ((leadtraillaw04_copied.f l0).bind fun t277 => ((some (([(⟨(-7), (-8)⟩ : S56), (⟨(-7), (-8)⟩ : S56)] : List (S56)) : List (S56))).bind fun y280 => (if t277.length + y280.length < 8796093022208 then ((some (t277 ++ y280 : List (S56))).bind fun y283 => ((leadtraillaw04_copied.f l1).bind fun t286 => ((some (([(⟨(-7), (-8)⟩ : S56), (⟨(-7), (-8)⟩ : S56)] : List (S56)) : List (S56))).bind fun y289 => (if t286.length + y289.length < 8796093022208 then ((some (t286 ++ y289 : List (S56))).bind fun y292 => (if 0 ≤ (l0.length : Int) then (if (l0.length : Int) ≤ (y283.length : Int) then ((some (y283.take ((l0.length : Int) : Int).toNat : List (S56))).bind fun y295 => (if 0 ≤ (l1.length : Int) then (if (l1.length : Int) ≤ (y292.length : Int) then ((some (y292.take ((l1.length : Int) : Int).toNat : List (S56))).bind fun y299 => ((scalars_Norm.f k y295).bind fun bt303 => ((scalars_Union.f k y295 y299).bind fun t308 => ((scalars_Meet.f k y295 y299).bind fun t311 => ((scalars_Minus.f k y295 y299).bind fun t314 => ((scalars_Not.f k y295).bind fun t317 => ((scalars_Union.f k y295 ([] : List (S56))).bind fun t320 => ((scalars_Meet.f k y295 y295).bind fun t323 => ((some (([bt303.1, t308, t311, t314, t317, t320, t323] : List (List (S56))) : List (List (S56)))).bind fun y326 => (if 1 < (y326.length : Int) then ((leadtraillaw04_copied.f (rd_L4 y326 1)).bind fun t330 => ((leadtrailmem_OwnRanges.f y326).bind fun t333 => (if t333 = true then (leadtraillaw04_ScalarsOwns.l0 k l0 l1 y295 y299 y283 y292 t330 (y283.length : Int) 0 (-7) (-8)) else (none)))) else (none))))))))))) else (none)) else (none))) else (none)) else (none))) else (none))))) else (none)))) else (none))
def leadtraillaw04_ScalarsOwns.T4 : Bool × List (List Nat × List Nat) := (true, [([], []), ([0], [0]), ([], []), ([], []), ([2, 3], [2, 3]), ([1, 4, 1], [1, 4]), ([], []), ([6, 5], [6]), ([], []), ([], []), ([8, 9], [8, 9]), ([7, 10, 7], [7, 10]), ([5, 11, 0, 1, 2, 3, 4, 5], [5]), ([11, 12, 0, 1, 2, 3, 4, 5, 6, 7, 8, 9, 10, 11, 12], [11])])
def leadtraillaw04_ScalarsOwns.B4 : List Nat := [0, 1, 0, 0, 12, 31, 0, 127, 0, 0, 768, 2047, 4095, 8191]
theorem leadtraillaw04_ScalarsOwns.tab4 : rtab .any (opsOf Try.f14 4) = leadtraillaw04_ScalarsOwns.T4 := by kernel_rfl
theorem leadtraillaw04_ScalarsOwns.bits4 : waitsOk leadtraillaw04_ScalarsOwns.T4.2 leadtraillaw04_ScalarsOwns.B4 = true := by kernel_rfl
def leadtraillaw04_ScalarsOwns.T5 : Bool × List (List Nat × List Nat) := (true, [([], []), ([], []), ([1], [1]), ([0, 2], [0, 2]), ([], []), ([], []), ([5], [5]), ([4, 6], [4, 6]), ([3, 0, 1, 2, 3], [3]), ([7, 8, 0, 1, 2, 3, 4, 5, 6, 7, 8], [7])])
def leadtraillaw04_ScalarsOwns.B5 : List Nat := [0, 0, 2, 7, 0, 0, 32, 112, 15, 511]
theorem leadtraillaw04_ScalarsOwns.tab5 : rtab .any (opsOf Try.f14 5) = leadtraillaw04_ScalarsOwns.T5 := by kernel_rfl
theorem leadtraillaw04_ScalarsOwns.bits5 : waitsOk leadtraillaw04_ScalarsOwns.T5.2 leadtraillaw04_ScalarsOwns.B5 = true := by kernel_rfl
def leadtraillaw04_ScalarsOwns.T14 : Bool × List (List Nat × List Nat) := (true, [([], []), ([], []), ([1], [1]), ([0, 2], [0, 2]), ([3], [3]), ([4], [4]), ([4], [4]), ([5, 6, 4], [4, 5, 6]), ([7, 4], [4, 7]), ([4], [4]), ([4], [4]), ([9, 10, 4], [4, 9, 10]), ([11, 4], [4, 11]), ([8, 12, 4], [4, 8, 12]), ([4, 13], [4, 13]), ([14, 4], [14]), ([15], [15]), ([15], [15]), ([17, 15], [15, 17]), ([16, 18, 15], [15, 16, 18]), ([19, 15, 15], [15, 19]), ([20], [20]), ([20], [20]), ([21, 22, 20], [20, 21, 22]), ([23, 20], [20, 23]), ([20], [20]), ([24, 25, 20], [20, 24, 25]), ([20, 26, 15], [15, 20, 26]), ([15, 27], [15, 27])])
def leadtraillaw04_ScalarsOwns.B14 : List Nat := [0, 0, 2, 7, 15, 31, 31, 127, 255, 31, 31, 1567, 3615, 8191, 16383, 32767, 65535, 65535, 196607, 524287, 1048575, 2097151, 2097151, 8388607, 16777215, 2097151, 67108863, 134217727, 268435455]
theorem leadtraillaw04_ScalarsOwns.tab14 : rtab .any (opsOf Try.f14 14) = leadtraillaw04_ScalarsOwns.T14 := by kernel_rfl
theorem leadtraillaw04_ScalarsOwns.bits14 : waitsOk leadtraillaw04_ScalarsOwns.T14.2 leadtraillaw04_ScalarsOwns.B14 = true := by kernel_rfl
def leadtraillaw04_ScalarsOwns.T20 : Bool × List (List Nat × List Nat) := (true, [([], []), ([], []), ([1], [1]), ([0, 2], [0, 2]), ([3], [3]), ([4], [4]), ([4], [4]), ([5, 6, 4], [4, 5, 6]), ([7, 4], [4, 7]), ([4], [4]), ([4], [4]), ([9, 10, 4], [4, 9, 10]), ([11, 4], [4, 11]), ([8, 12, 4], [4, 8, 12]), ([4, 13], [4, 13]), ([14, 4], [14]), ([15], [15]), ([15], [15]), ([17, 15], [15, 17]), ([16, 18, 15], [15, 16, 18]), ([19, 15, 15], [15, 19]), ([20], [20]), ([20], [20]), ([21, 22, 20], [20, 21, 22]), ([23, 20], [20, 23]), ([20], [20]), ([24, 25, 20], [20, 24, 25]), ([20, 26, 15], [15, 20, 26]), ([15, 27], [15, 27])])
def leadtraillaw04_ScalarsOwns.B20 : List Nat := [0, 0, 2, 7, 15, 31, 31, 127, 255, 31, 31, 1567, 3615, 8191, 16383, 32767, 65535, 65535, 196607, 524287, 1048575, 2097151, 2097151, 8388607, 16777215, 2097151, 67108863, 134217727, 268435455]
theorem leadtraillaw04_ScalarsOwns.tab20 : rtab .any (opsOf Try.f14 20) = leadtraillaw04_ScalarsOwns.T20 := by kernel_rfl
theorem leadtraillaw04_ScalarsOwns.bits20 : waitsOk leadtraillaw04_ScalarsOwns.T20.2 leadtraillaw04_ScalarsOwns.B20 = true := by kernel_rfl
set_option maxHeartbeats 8000000 in
set_option maxRecDepth 100000 in
theorem leadtraillaw04_ScalarsOwns.calls (k : Nat) (A0 : Option Addr) (c0 : Nat) (l0 : List (S56)) (A1 : Option Addr) (c1 : Nat) (l1 : List (S56)) (r : Bool) (w : World) (hr0 : Kd.C k56 w A0 l0.length l0) (hc0 : l0.length ≤ c0) (hr1 : Kd.C k56 w A1 l1.length l1) (hc1 : l1.length ≤ c1) (h : leadtraillaw04_ScalarsOwns.f k l0 l1 = some r) :
  Calls Try.prog 14 #[.slice A0 l0.length c0, .slice A1 l1.length c1] w fun e w' => e = .returned (.bool r) ∧ Below w.heap.size w w' := by
 have hu56 := Try.underlying56
 have HR0 := Aside0.mk hr0
 have HC0 := Aside0.mk hc0
 clear hr0 hc0
 have HR1 := Aside0.mk hr1
 have HC1 := Aside0.mk hc1
 clear hr1 hc1
 have HB := Aside0.mk (Below.refl w.heap.size w)
 have H : ((leadtraillaw04_fixed.f k).bind fun t275 => (if t275 = true then ((leadtraillaw04_copied.f l0).bind fun t277 => ((some (([(⟨(-7), (-8)⟩ : S56), (⟨(-7), (-8)⟩ : S56)] : List (S56)) : List (S56))).bind fun y280 => (if t277.length + y280.length < 8796093022208 then ((some (t277 ++ y280 : List (S56))).bind fun y283 => ((leadtraillaw04_copied.f l1).bind fun t286 => ((some (([(⟨(-7), (-8)⟩ : S56), (⟨(-7), (-8)⟩ : S56)] : List (S56)) : List (S56))).bind fun y289 => (if t286.length + y289.length < 8796093022208 then ((some (t286 ++ y289 : List (S56))).bind fun y292 => (if 0 ≤ (l0.length : Int) then (if (l0.length : Int) ≤ (y283.length : Int) then ((some (y283.take ((l0.length : Int) : Int).toNat : List (S56))).bind fun y295 => (if 0 ≤ (l1.length : Int) then (if (l1.length : Int) ≤ (y292.length : Int) then ((some (y292.take ((l1.length : Int) : Int).toNat : List (S56))).bind fun y299 => ((scalars_Norm.f k y295).bind fun bt303 => ((scalars_Union.f k y295 y299).bind fun t308 => ((scalars_Meet.f k y295 y299).bind fun t311 => ((scalars_Minus.f k y295 y299).bind fun t314 => ((scalars_Not.f k y295).bind fun t317 => ((scalars_Union.f k y295 ([] : List (S56))).bind fun t320 => ((scalars_Meet.f k y295 y295).bind fun t323 => ((some (([bt303.1, t308, t311, t314, t317, t320, t323] : List (List (S56))) : List (List (S56)))).bind fun y326 => (if 1 < (y326.length : Int) then ((leadtraillaw04_copied.f (rd_L4 y326 1)).bind fun t330 => ((leadtrailmem_OwnRanges.f y326).bind fun t333 => (if t333 = true then (leadtraillaw04_ScalarsOwns.l0 k l0 l1 y295 y299 y283 y292 t330 (y283.length : Int) 0 (-7) (-8)) else (none)))) else (none))))))))))) else (none)) else (none))) else (none)) else (none))) else (none))))) else (none)))) else (none))) = some r := h
 clear h
 replace H := Option.bind_eq_some_iff.mp H
 obtain ⟨t275, A30, H⟩ := H
 replace H : (if t275 = true then ((leadtraillaw04_copied.f l0).bind fun t277 => ((some (([(⟨(-7), (-8)⟩ : S56), (⟨(-7), (-8)⟩ : S56)] : List (S56)) : List (S56))).bind fun y280 => (if t277.length + y280.length < 8796093022208 then ((some (t277 ++ y280 : List (S56))).bind fun y283 => ((leadtraillaw04_copied.f l1).bind fun t286 => ((some (([(⟨(-7), (-8)⟩ : S56), (⟨(-7), (-8)⟩ : S56)] : List (S56)) : List (S56))).bind fun y289 => (if t286.length + y289.length < 8796093022208 then ((some (t286 ++ y289 : List (S56))).bind fun y292 => (if 0 ≤ (l0.length : Int) then (if (l0.length : Int) ≤ (y283.length : Int) then ((some (y283.take ((l0.length : Int) : Int).toNat : List (S56))).bind fun y295 => (if 0 ≤ (l1.length : Int) then (if (l1.length : Int) ≤ (y292.length : Int) then ((some (y292.take ((l1.length : Int) : Int).toNat : List (S56))).bind fun y299 => ((scalars_Norm.f k y295).bind fun bt303 => ((scalars_Union.f k y295 y299).bind fun t308 => ((scalars_Meet.f k y295 y299).bind fun t311 => ((scalars_Minus.f k y295 y299).bind fun t314 => ((scalars_Not.f k y295).bind fun t317 => ((scalars_Union.f k y295 ([] : List (S56))).bind fun t320 => ((scalars_Meet.f k y295 y295).bind fun t323 => ((some (([bt303.1, t308, t311, t314, t317, t320, t323] : List (List (S56))) : List (List (S56)))).bind fun y326 => (if 1 < (y326.length : Int) then ((leadtraillaw04_copied.f (rd_L4 y326 1)).bind fun t330 => ((leadtrailmem_OwnRanges.f y326).bind fun t333 => (if t333 = true then (leadtraillaw04_ScalarsOwns.l0 k l0 l1 y295 y299 y283 y292 t330 (y283.length : Int) 0 (-7) (-8)) else (none)))) else (none))))))))))) else (none)) else (none))) else (none)) else (none))) else (none))))) else (none)))) else (none)) = some r := H
 have A3 := Aside0.mk A30
 clear A30
 by_cases c4 : t275 = true
 rotate_left
 ·replace c4 := Bool.eq_false_iff.mpr c4
  subst c4
  have H1 : (none) = some r := by rw [if_neg (show ¬ (false = true) by decide)] at H; exact H
  clear H
  have H := H1
  clear H1
  exact absurd H (by simp)
 subst c4
 have H1 : ((leadtraillaw04_copied.f l0).bind fun t277 => ((some (([(⟨(-7), (-8)⟩ : S56), (⟨(-7), (-8)⟩ : S56)] : List (S56)) : List (S56))).bind fun y280 => (if t277.length + y280.length < 8796093022208 then ((some (t277 ++ y280 : List (S56))).bind fun y283 => ((leadtraillaw04_copied.f l1).bind fun t286 => ((some (([(⟨(-7), (-8)⟩ : S56), (⟨(-7), (-8)⟩ : S56)] : List (S56)) : List (S56))).bind fun y289 => (if t286.length + y289.length < 8796093022208 then ((some (t286 ++ y289 : List (S56))).bind fun y292 => (if 0 ≤ (l0.length : Int) then (if (l0.length : Int) ≤ (y283.length : Int) then ((some (y283.take ((l0.length : Int) : Int).toNat : List (S56))).bind fun y295 => (if 0 ≤ (l1.length : Int) then (if (l1.length : Int) ≤ (y292.length : Int) then ((some (y292.take ((l1.length : Int) : Int).toNat : List (S56))).bind fun y299 => ((scalars_Norm.f k y295).bind fun bt303 => ((scalars_Union.f k y295 y299).bind fun t308 => ((scalars_Meet.f k y295 y299).bind fun t311 => ((scalars_Minus.f k y295 y299).bind fun t314 => ((scalars_Not.f k y295).bind fun t317 => ((scalars_Union.f k y295 ([] : List (S56))).bind fun t320 => ((scalars_Meet.f k y295 y295).bind fun t323 => ((some (([bt303.1, t308, t311, t314, t317, t320, t323] : List (List (S56))) : List (List (S56)))).bind fun y326 => (if 1 < (y326.length : Int) then ((leadtraillaw04_copied.f (rd_L4 y326 1)).bind fun t330 => ((leadtrailmem_OwnRanges.f y326).bind fun t333 => (if t333 = true then (leadtraillaw04_ScalarsOwns.l0 k l0 l1 y295 y299 y283 y292 t330 (y283.length : Int) 0 (-7) (-8)) else (none)))) else (none))))))))))) else (none)) else (none))) else (none)) else (none))) else (none))))) else (none)))) = some r := by rw [if_pos rfl] at H; exact H
 clear H
 have H := H1
 clear H1
 replace H := Option.bind_eq_some_iff.mp H
 obtain ⟨t277, A50, H⟩ := H
 replace H : ((some (([(⟨(-7), (-8)⟩ : S56), (⟨(-7), (-8)⟩ : S56)] : List (S56)) : List (S56))).bind fun y280 => (if t277.length + y280.length < 8796093022208 then ((some (t277 ++ y280 : List (S56))).bind fun y283 => ((leadtraillaw04_copied.f l1).bind fun t286 => ((some (([(⟨(-7), (-8)⟩ : S56), (⟨(-7), (-8)⟩ : S56)] : List (S56)) : List (S56))).bind fun y289 => (if t286.length + y289.length < 8796093022208 then ((some (t286 ++ y289 : List (S56))).bind fun y292 => (if 0 ≤ (l0.length : Int) then (if (l0.length : Int) ≤ (y283.length : Int) then ((some (y283.take ((l0.length : Int) : Int).toNat : List (S56))).bind fun y295 => (if 0 ≤ (l1.length : Int) then (if (l1.length : Int) ≤ (y292.length : Int) then ((some (y292.take ((l1.length : Int) : Int).toNat : List (S56))).bind fun y299 => ((scalars_Norm.f k y295).bind fun bt303 => ((scalars_Union.f k y295 y299).bind fun t308 => ((scalars_Meet.f k y295 y299).bind fun t311 => ((scalars_Minus.f k y295 y299).bind fun t314 => ((scalars_Not.f k y295).bind fun t317 => ((scalars_Union.f k y295 ([] : List (S56))).bind fun t320 => ((scalars_Meet.f k y295 y295).bind fun t323 => ((some (([bt303.1, t308, t311, t314, t317, t320, t323] : List (List (S56))) : List (List (S56)))).bind fun y326 => (if 1 < (y326.length : Int) then ((leadtraillaw04_copied.f (rd_L4 y326 1)).bind fun t330 => ((leadtrailmem_OwnRanges.f y326).bind fun t333 => (if t333 = true then (leadtraillaw04_ScalarsOwns.l0 k l0 l1 y295 y299 y283 y292 t330 (y283.length : Int) 0 (-7) (-8)) else (none)))) else (none))))))))))) else (none)) else (none))) else (none)) else (none))) else (none))))) else (none))) = some r := H
 have A5 := Aside0.mk A50
 clear A50
 obtain ⟨y280, hy280⟩ : ∃ y_ : List (S56), y_ = (([(⟨(-7), (-8)⟩ : S56), (⟨(-7), (-8)⟩ : S56)] : List (S56))) := ⟨_, rfl⟩
 replace H : (if t277.length + y280.length < 8796093022208 then ((some (t277 ++ y280 : List (S56))).bind fun y283 => ((leadtraillaw04_copied.f l1).bind fun t286 => ((some (([(⟨(-7), (-8)⟩ : S56), (⟨(-7), (-8)⟩ : S56)] : List (S56)) : List (S56))).bind fun y289 => (if t286.length + y289.length < 8796093022208 then ((some (t286 ++ y289 : List (S56))).bind fun y292 => (if 0 ≤ (l0.length : Int) then (if (l0.length : Int) ≤ (y283.length : Int) then ((some (y283.take ((l0.length : Int) : Int).toNat : List (S56))).bind fun y295 => (if 0 ≤ (l1.length : Int) then (if (l1.length : Int) ≤ (y292.length : Int) then ((some (y292.take ((l1.length : Int) : Int).toNat : List (S56))).bind fun y299 => ((scalars_Norm.f k y295).bind fun bt303 => ((scalars_Union.f k y295 y299).bind fun t308 => ((scalars_Meet.f k y295 y299).bind fun t311 => ((scalars_Minus.f k y295 y299).bind fun t314 => ((scalars_Not.f k y295).bind fun t317 => ((scalars_Union.f k y295 ([] : List (S56))).bind fun t320 => ((scalars_Meet.f k y295 y295).bind fun t323 => ((some (([bt303.1, t308, t311, t314, t317, t320, t323] : List (List (S56))) : List (List (S56)))).bind fun y326 => (if 1 < (y326.length : Int) then ((leadtraillaw04_copied.f (rd_L4 y326 1)).bind fun t330 => ((leadtrailmem_OwnRanges.f y326).bind fun t333 => (if t333 = true then (leadtraillaw04_ScalarsOwns.l0 k l0 l1 y295 y299 y283 y292 t330 (y283.length : Int) 0 (-7) (-8)) else (none)))) else (none))))))))))) else (none)) else (none))) else (none)) else (none))) else (none))))) else (none)) = some r := by first | (rw [hy280]; with_reducible exact H) | (have H2_ := (Option.bind_some _ _).symm.trans H; rw [hy280]; with_reducible exact H2_) | (have H2_ := (Option.bind_some _ _).symm.trans H; with_reducible exact H2_) | with_reducible exact H | (rw [hy280]; exact H) | exact H
 have Ny280 := Aside0.mk hy280
 clear hy280
 by_cases c6 : t277.length + y280.length < 8796093022208
 rotate_left
 ·rw [if_neg c6] at H
  exact absurd H (by simp)
 rw [if_pos c6] at H
 have LMc6 := Aside0.mk c6
 clear c6
 obtain ⟨y283, hy283⟩ : ∃ y_ : List (S56), y_ = (t277 ++ y280) := ⟨_, rfl⟩
 replace H : ((leadtraillaw04_copied.f l1).bind fun t286 => ((some (([(⟨(-7), (-8)⟩ : S56), (⟨(-7), (-8)⟩ : S56)] : List (S56)) : List (S56))).bind fun y289 => (if t286.length + y289.length < 8796093022208 then ((some (t286 ++ y289 : List (S56))).bind fun y292 => (if 0 ≤ (l0.length : Int) then (if (l0.length : Int) ≤ (y283.length : Int) then ((some (y283.take ((l0.length : Int) : Int).toNat : List (S56))).bind fun y295 => (if 0 ≤ (l1.length : Int) then (if (l1.length : Int) ≤ (y292.length : Int) then ((some (y292.take ((l1.length : Int) : Int).toNat : List (S56))).bind fun y299 => ((scalars_Norm.f k y295).bind fun bt303 => ((scalars_Union.f k y295 y299).bind fun t308 => ((scalars_Meet.f k y295 y299).bind fun t311 => ((scalars_Minus.f k y295 y299).bind fun t314 => ((scalars_Not.f k y295).bind fun t317 => ((scalars_Union.f k y295 ([] : List (S56))).bind fun t320 => ((scalars_Meet.f k y295 y295).bind fun t323 => ((some (([bt303.1, t308, t311, t314, t317, t320, t323] : List (List (S56))) : List (List (S56)))).bind fun y326 => (if 1 < (y326.length : Int) then ((leadtraillaw04_copied.f (rd_L4 y326 1)).bind fun t330 => ((leadtrailmem_OwnRanges.f y326).bind fun t333 => (if t333 = true then (leadtraillaw04_ScalarsOwns.l0 k l0 l1 y295 y299 y283 y292 t330 (y283.length : Int) 0 (-7) (-8)) else (none)))) else (none))))))))))) else (none)) else (none))) else (none)) else (none))) else (none)))) = some r := by first | (rw [hy283]; with_reducible exact H) | (have H2_ := (Option.bind_some _ _).symm.trans H; rw [hy283]; with_reducible exact H2_) | (have H2_ := (Option.bind_some _ _).symm.trans H; with_reducible exact H2_) | with_reducible exact H | (rw [hy283]; exact H) | exact H
 have Ny283 := Aside0.mk hy283
 clear hy283
 replace H := Option.bind_eq_some_iff.mp H
 obtain ⟨t286, A70, H⟩ := H
 replace H : ((some (([(⟨(-7), (-8)⟩ : S56), (⟨(-7), (-8)⟩ : S56)] : List (S56)) : List (S56))).bind fun y289 => (if t286.length + y289.length < 8796093022208 then ((some (t286 ++ y289 : List (S56))).bind fun y292 => (if 0 ≤ (l0.length : Int) then (if (l0.length : Int) ≤ (y283.length : Int) then ((some (y283.take ((l0.length : Int) : Int).toNat : List (S56))).bind fun y295 => (if 0 ≤ (l1.length : Int) then (if (l1.length : Int) ≤ (y292.length : Int) then ((some (y292.take ((l1.length : Int) : Int).toNat : List (S56))).bind fun y299 => ((scalars_Norm.f k y295).bind fun bt303 => ((scalars_Union.f k y295 y299).bind fun t308 => ((scalars_Meet.f k y295 y299).bind fun t311 => ((scalars_Minus.f k y295 y299).bind fun t314 => ((scalars_Not.f k y295).bind fun t317 => ((scalars_Union.f k y295 ([] : List (S56))).bind fun t320 => ((scalars_Meet.f k y295 y295).bind fun t323 => ((some (([bt303.1, t308, t311, t314, t317, t320, t323] : List (List (S56))) : List (List (S56)))).bind fun y326 => (if 1 < (y326.length : Int) then ((leadtraillaw04_copied.f (rd_L4 y326 1)).bind fun t330 => ((leadtrailmem_OwnRanges.f y326).bind fun t333 => (if t333 = true then (leadtraillaw04_ScalarsOwns.l0 k l0 l1 y295 y299 y283 y292 t330 (y283.length : Int) 0 (-7) (-8)) else (none)))) else (none))))))))))) else (none)) else (none))) else (none)) else (none))) else (none))) = some r := H
 have A7 := Aside0.mk A70
 clear A70
 obtain ⟨y289, hy289⟩ : ∃ y_ : List (S56), y_ = (([(⟨(-7), (-8)⟩ : S56), (⟨(-7), (-8)⟩ : S56)] : List (S56))) := ⟨_, rfl⟩
 replace H : (if t286.length + y289.length < 8796093022208 then ((some (t286 ++ y289 : List (S56))).bind fun y292 => (if 0 ≤ (l0.length : Int) then (if (l0.length : Int) ≤ (y283.length : Int) then ((some (y283.take ((l0.length : Int) : Int).toNat : List (S56))).bind fun y295 => (if 0 ≤ (l1.length : Int) then (if (l1.length : Int) ≤ (y292.length : Int) then ((some (y292.take ((l1.length : Int) : Int).toNat : List (S56))).bind fun y299 => ((scalars_Norm.f k y295).bind fun bt303 => ((scalars_Union.f k y295 y299).bind fun t308 => ((scalars_Meet.f k y295 y299).bind fun t311 => ((scalars_Minus.f k y295 y299).bind fun t314 => ((scalars_Not.f k y295).bind fun t317 => ((scalars_Union.f k y295 ([] : List (S56))).bind fun t320 => ((scalars_Meet.f k y295 y295).bind fun t323 => ((some (([bt303.1, t308, t311, t314, t317, t320, t323] : List (List (S56))) : List (List (S56)))).bind fun y326 => (if 1 < (y326.length : Int) then ((leadtraillaw04_copied.f (rd_L4 y326 1)).bind fun t330 => ((leadtrailmem_OwnRanges.f y326).bind fun t333 => (if t333 = true then (leadtraillaw04_ScalarsOwns.l0 k l0 l1 y295 y299 y283 y292 t330 (y283.length : Int) 0 (-7) (-8)) else (none)))) else (none))))))))))) else (none)) else (none))) else (none)) else (none))) else (none)) = some r := by first | (rw [hy289]; with_reducible exact H) | (have H2_ := (Option.bind_some _ _).symm.trans H; rw [hy289]; with_reducible exact H2_) | (have H2_ := (Option.bind_some _ _).symm.trans H; with_reducible exact H2_) | with_reducible exact H | (rw [hy289]; exact H) | exact H
 have Ny289 := Aside0.mk hy289
 clear hy289
 by_cases c8 : t286.length + y289.length < 8796093022208
 rotate_left
 ·rw [if_neg c8] at H
  exact absurd H (by simp)
 rw [if_pos c8] at H
 have LMc8 := Aside0.mk c8
 clear c8
 obtain ⟨y292, hy292⟩ : ∃ y_ : List (S56), y_ = (t286 ++ y289) := ⟨_, rfl⟩
 replace H : (if 0 ≤ (l0.length : Int) then (if (l0.length : Int) ≤ (y283.length : Int) then ((some (y283.take ((l0.length : Int) : Int).toNat : List (S56))).bind fun y295 => (if 0 ≤ (l1.length : Int) then (if (l1.length : Int) ≤ (y292.length : Int) then ((some (y292.take ((l1.length : Int) : Int).toNat : List (S56))).bind fun y299 => ((scalars_Norm.f k y295).bind fun bt303 => ((scalars_Union.f k y295 y299).bind fun t308 => ((scalars_Meet.f k y295 y299).bind fun t311 => ((scalars_Minus.f k y295 y299).bind fun t314 => ((scalars_Not.f k y295).bind fun t317 => ((scalars_Union.f k y295 ([] : List (S56))).bind fun t320 => ((scalars_Meet.f k y295 y295).bind fun t323 => ((some (([bt303.1, t308, t311, t314, t317, t320, t323] : List (List (S56))) : List (List (S56)))).bind fun y326 => (if 1 < (y326.length : Int) then ((leadtraillaw04_copied.f (rd_L4 y326 1)).bind fun t330 => ((leadtrailmem_OwnRanges.f y326).bind fun t333 => (if t333 = true then (leadtraillaw04_ScalarsOwns.l0 k l0 l1 y295 y299 y283 y292 t330 (y283.length : Int) 0 (-7) (-8)) else (none)))) else (none))))))))))) else (none)) else (none))) else (none)) else (none)) = some r := by first | (rw [hy292]; with_reducible exact H) | (have H2_ := (Option.bind_some _ _).symm.trans H; rw [hy292]; with_reducible exact H2_) | (have H2_ := (Option.bind_some _ _).symm.trans H; with_reducible exact H2_) | with_reducible exact H | (rw [hy292]; exact H) | exact H
 have Ny292 := Aside0.mk hy292
 clear hy292
 by_cases c9 : 0 ≤ (l0.length : Int)
 rotate_left
 ·rw [if_neg c9] at H
  exact absurd H (by simp)
 rw [if_pos c9] at H
 have c9b0 := eq_true c9
 have c9b1 : decide (0 ≤ (l0.length : Int)) = true := decide_eq_true c9
 clear c9
 by_cases c10 : (l0.length : Int) ≤ (y283.length : Int)
 rotate_left
 ·rw [if_neg c10] at H
  exact absurd H (by simp)
 rw [if_pos c10] at H
 have c10b0 := eq_true c10
 have c10b1 : decide ((l0.length : Int) ≤ (y283.length : Int)) = true := decide_eq_true c10
 clear c10
 obtain ⟨y295, hy295⟩ : ∃ y_ : List (S56), y_ = (y283.take ((l0.length : Int) : Int).toNat) := ⟨_, rfl⟩
 replace H : (if 0 ≤ (l1.length : Int) then (if (l1.length : Int) ≤ (y292.length : Int) then ((some (y292.take ((l1.length : Int) : Int).toNat : List (S56))).bind fun y299 => ((scalars_Norm.f k y295).bind fun bt303 => ((scalars_Union.f k y295 y299).bind fun t308 => ((scalars_Meet.f k y295 y299).bind fun t311 => ((scalars_Minus.f k y295 y299).bind fun t314 => ((scalars_Not.f k y295).bind fun t317 => ((scalars_Union.f k y295 ([] : List (S56))).bind fun t320 => ((scalars_Meet.f k y295 y295).bind fun t323 => ((some (([bt303.1, t308, t311, t314, t317, t320, t323] : List (List (S56))) : List (List (S56)))).bind fun y326 => (if 1 < (y326.length : Int) then ((leadtraillaw04_copied.f (rd_L4 y326 1)).bind fun t330 => ((leadtrailmem_OwnRanges.f y326).bind fun t333 => (if t333 = true then (leadtraillaw04_ScalarsOwns.l0 k l0 l1 y295 y299 y283 y292 t330 (y283.length : Int) 0 (-7) (-8)) else (none)))) else (none))))))))))) else (none)) else (none)) = some r := by first | (rw [hy295]; with_reducible exact H) | (have H2_ := (Option.bind_some _ _).symm.trans H; rw [hy295]; with_reducible exact H2_) | (have H2_ := (Option.bind_some _ _).symm.trans H; with_reducible exact H2_) | with_reducible exact H | (rw [hy295]; exact H) | exact H
 have Ny295 := Aside0.mk hy295
 clear hy295
 by_cases c11 : 0 ≤ (l1.length : Int)
 rotate_left
 ·rw [if_neg c11] at H
  exact absurd H (by simp)
 rw [if_pos c11] at H
 have c11b0 := eq_true c11
 have c11b1 : decide (0 ≤ (l1.length : Int)) = true := decide_eq_true c11
 clear c11
 by_cases c12 : (l1.length : Int) ≤ (y292.length : Int)
 rotate_left
 ·rw [if_neg c12] at H
  exact absurd H (by simp)
 rw [if_pos c12] at H
 have c12b0 := eq_true c12
 have c12b1 : decide ((l1.length : Int) ≤ (y292.length : Int)) = true := decide_eq_true c12
 clear c12
 obtain ⟨y299, hy299⟩ : ∃ y_ : List (S56), y_ = (y292.take ((l1.length : Int) : Int).toNat) := ⟨_, rfl⟩
 replace H : ((scalars_Norm.f k y295).bind fun bt303 => ((scalars_Union.f k y295 y299).bind fun t308 => ((scalars_Meet.f k y295 y299).bind fun t311 => ((scalars_Minus.f k y295 y299).bind fun t314 => ((scalars_Not.f k y295).bind fun t317 => ((scalars_Union.f k y295 ([] : List (S56))).bind fun t320 => ((scalars_Meet.f k y295 y295).bind fun t323 => ((some (([bt303.1, t308, t311, t314, t317, t320, t323] : List (List (S56))) : List (List (S56)))).bind fun y326 => (if 1 < (y326.length : Int) then ((leadtraillaw04_copied.f (rd_L4 y326 1)).bind fun t330 => ((leadtrailmem_OwnRanges.f y326).bind fun t333 => (if t333 = true then (leadtraillaw04_ScalarsOwns.l0 k l0 l1 y295 y299 y283 y292 t330 (y283.length : Int) 0 (-7) (-8)) else (none)))) else (none)))))))))) = some r := by first | (rw [hy299]; with_reducible exact H) | (have H2_ := (Option.bind_some _ _).symm.trans H; rw [hy299]; with_reducible exact H2_) | (have H2_ := (Option.bind_some _ _).symm.trans H; with_reducible exact H2_) | with_reducible exact H | (rw [hy299]; exact H) | exact H
 have Ny299 := Aside0.mk hy299
 clear hy299
 replace H := Option.bind_eq_some_iff.mp H
 obtain ⟨⟨t303, t304, t305⟩, A130, H⟩ := H
 replace H : ((scalars_Union.f k y295 y299).bind fun t308 => ((scalars_Meet.f k y295 y299).bind fun t311 => ((scalars_Minus.f k y295 y299).bind fun t314 => ((scalars_Not.f k y295).bind fun t317 => ((scalars_Union.f k y295 ([] : List (S56))).bind fun t320 => ((scalars_Meet.f k y295 y295).bind fun t323 => ((some (([t303, t308, t311, t314, t317, t320, t323] : List (List (S56))) : List (List (S56)))).bind fun y326 => (if 1 < (y326.length : Int) then ((leadtraillaw04_copied.f (rd_L4 y326 1)).bind fun t330 => ((leadtrailmem_OwnRanges.f y326).bind fun t333 => (if t333 = true then (leadtraillaw04_ScalarsOwns.l0 k l0 l1 y295 y299 y283 y292 t330 (y283.length : Int) 0 (-7) (-8)) else (none)))) else (none))))))))) = some r := H
 have A13 := Aside0.mk A130
 clear A130
 replace H := Option.bind_eq_some_iff.mp H
 obtain ⟨t308, A140, H⟩ := H
 replace H : ((scalars_Meet.f k y295 y299).bind fun t311 => ((scalars_Minus.f k y295 y299).bind fun t314 => ((scalars_Not.f k y295).bind fun t317 => ((scalars_Union.f k y295 ([] : List (S56))).bind fun t320 => ((scalars_Meet.f k y295 y295).bind fun t323 => ((some (([t303, t308, t311, t314, t317, t320, t323] : List (List (S56))) : List (List (S56)))).bind fun y326 => (if 1 < (y326.length : Int) then ((leadtraillaw04_copied.f (rd_L4 y326 1)).bind fun t330 => ((leadtrailmem_OwnRanges.f y326).bind fun t333 => (if t333 = true then (leadtraillaw04_ScalarsOwns.l0 k l0 l1 y295 y299 y283 y292 t330 (y283.length : Int) 0 (-7) (-8)) else (none)))) else (none)))))))) = some r := H
 have A14 := Aside0.mk A140
 clear A140
 replace H := Option.bind_eq_some_iff.mp H
 obtain ⟨t311, A150, H⟩ := H
 replace H : ((scalars_Minus.f k y295 y299).bind fun t314 => ((scalars_Not.f k y295).bind fun t317 => ((scalars_Union.f k y295 ([] : List (S56))).bind fun t320 => ((scalars_Meet.f k y295 y295).bind fun t323 => ((some (([t303, t308, t311, t314, t317, t320, t323] : List (List (S56))) : List (List (S56)))).bind fun y326 => (if 1 < (y326.length : Int) then ((leadtraillaw04_copied.f (rd_L4 y326 1)).bind fun t330 => ((leadtrailmem_OwnRanges.f y326).bind fun t333 => (if t333 = true then (leadtraillaw04_ScalarsOwns.l0 k l0 l1 y295 y299 y283 y292 t330 (y283.length : Int) 0 (-7) (-8)) else (none)))) else (none))))))) = some r := H
 have A15 := Aside0.mk A150
 clear A150
 replace H := Option.bind_eq_some_iff.mp H
 obtain ⟨t314, A160, H⟩ := H
 replace H : ((scalars_Not.f k y295).bind fun t317 => ((scalars_Union.f k y295 ([] : List (S56))).bind fun t320 => ((scalars_Meet.f k y295 y295).bind fun t323 => ((some (([t303, t308, t311, t314, t317, t320, t323] : List (List (S56))) : List (List (S56)))).bind fun y326 => (if 1 < (y326.length : Int) then ((leadtraillaw04_copied.f (rd_L4 y326 1)).bind fun t330 => ((leadtrailmem_OwnRanges.f y326).bind fun t333 => (if t333 = true then (leadtraillaw04_ScalarsOwns.l0 k l0 l1 y295 y299 y283 y292 t330 (y283.length : Int) 0 (-7) (-8)) else (none)))) else (none)))))) = some r := H
 have A16 := Aside0.mk A160
 clear A160
 replace H := Option.bind_eq_some_iff.mp H
 obtain ⟨t317, A170, H⟩ := H
 replace H : ((scalars_Union.f k y295 ([] : List (S56))).bind fun t320 => ((scalars_Meet.f k y295 y295).bind fun t323 => ((some (([t303, t308, t311, t314, t317, t320, t323] : List (List (S56))) : List (List (S56)))).bind fun y326 => (if 1 < (y326.length : Int) then ((leadtraillaw04_copied.f (rd_L4 y326 1)).bind fun t330 => ((leadtrailmem_OwnRanges.f y326).bind fun t333 => (if t333 = true then (leadtraillaw04_ScalarsOwns.l0 k l0 l1 y295 y299 y283 y292 t330 (y283.length : Int) 0 (-7) (-8)) else (none)))) else (none))))) = some r := H
 have A17 := Aside0.mk A170
 clear A170
 replace H := Option.bind_eq_some_iff.mp H
 obtain ⟨t320, A180, H⟩ := H
 replace H : ((scalars_Meet.f k y295 y295).bind fun t323 => ((some (([t303, t308, t311, t314, t317, t320, t323] : List (List (S56))) : List (List (S56)))).bind fun y326 => (if 1 < (y326.length : Int) then ((leadtraillaw04_copied.f (rd_L4 y326 1)).bind fun t330 => ((leadtrailmem_OwnRanges.f y326).bind fun t333 => (if t333 = true then (leadtraillaw04_ScalarsOwns.l0 k l0 l1 y295 y299 y283 y292 t330 (y283.length : Int) 0 (-7) (-8)) else (none)))) else (none)))) = some r := H
 have A18 := Aside0.mk A180
 clear A180
 replace H := Option.bind_eq_some_iff.mp H
 obtain ⟨t323, A190, H⟩ := H
 replace H : ((some (([t303, t308, t311, t314, t317, t320, t323] : List (List (S56))) : List (List (S56)))).bind fun y326 => (if 1 < (y326.length : Int) then ((leadtraillaw04_copied.f (rd_L4 y326 1)).bind fun t330 => ((leadtrailmem_OwnRanges.f y326).bind fun t333 => (if t333 = true then (leadtraillaw04_ScalarsOwns.l0 k l0 l1 y295 y299 y283 y292 t330 (y283.length : Int) 0 (-7) (-8)) else (none)))) else (none))) = some r := H
 have A19 := Aside0.mk A190
 clear A190
 obtain ⟨y326, hy326⟩ : ∃ y_ : List (List (S56)), y_ = (([t303, t308, t311, t314, t317, t320, t323] : List (List (S56)))) := ⟨_, rfl⟩
 replace H : (if 1 < (y326.length : Int) then ((leadtraillaw04_copied.f (rd_L4 y326 1)).bind fun t330 => ((leadtrailmem_OwnRanges.f y326).bind fun t333 => (if t333 = true then (leadtraillaw04_ScalarsOwns.l0 k l0 l1 y295 y299 y283 y292 t330 (y283.length : Int) 0 (-7) (-8)) else (none)))) else (none)) = some r := by first | (rw [hy326]; with_reducible exact H) | (have H2_ := (Option.bind_some _ _).symm.trans H; rw [hy326]; with_reducible exact H2_) | (have H2_ := (Option.bind_some _ _).symm.trans H; with_reducible exact H2_) | with_reducible exact H | (rw [hy326]; exact H) | exact H
 have Ny326 := Aside0.mk hy326
 clear hy326
 by_cases c20 : 1 < (y326.length : Int)
 rotate_left
 ·rw [if_neg c20] at H
  exact absurd H (by simp)
 rw [if_pos c20] at H
 have c20b0 : decide (1 < (y326.length : Int)) = true := decide_eq_true c20
 have c20b1 : decide (1 < y326.length) = true := decide_eq_true (by omega)
 clear c20
 replace H := Option.bind_eq_some_iff.mp H
 obtain ⟨t330, A210, H⟩ := H
 replace H : ((leadtrailmem_OwnRanges.f y326).bind fun t333 => (if t333 = true then (leadtraillaw04_ScalarsOwns.l0 k l0 l1 y295 y299 y283 y292 t330 (y283.length : Int) 0 (-7) (-8)) else (none))) = some r := H
 have A21 := Aside0.mk A210
 clear A210
 replace H := Option.bind_eq_some_iff.mp H
 obtain ⟨t333, A220, H⟩ := H
 replace H : (if t333 = true then (leadtraillaw04_ScalarsOwns.l0 k l0 l1 y295 y299 y283 y292 t330 (y283.length : Int) 0 (-7) (-8)) else (none)) = some r := H
 have A22 := Aside0.mk A220
 clear A220
 by_cases c23 : t333 = true
 rotate_left
 ·replace c23 := Bool.eq_false_iff.mpr c23
  subst c23
  have H1 : (none) = some r := by rw [if_neg (show ¬ (false = true) by decide)] at H; exact H
  clear H
  have H := H1
  clear H1
  exact absurd H (by simp)
 subst c23
 have H1 : (leadtraillaw04_ScalarsOwns.l0 k l0 l1 y295 y299 y283 y292 t330 (y283.length : Int) 0 (-7) (-8)) = some r := by rw [if_pos rfl] at H; exact H
 clear H
 have H := H1
 clear H1
 have H' := Aside0.mk H
 clear H
 go_enter Try.func14, Try.ntmps14
 try go_wp2_with (first | ((with_reducible refine gate_callee (f := 23) rfl ?_); refine goesL_ (some 17) rfl rfl Try.func23 (by kernel_rfl) rfl #[] rfl (by (try simp only [List.map_toArray, List.map_cons, List.map_nil]); first | done | rfl | (simp only [List.length_drop, List.length_take]; rfl)) ?_; (with_reducible refine (leadtraillaw04_fixed.calls k  true _ A3.out).mono ?_); rintro e w24 ⟨rfl, hb⟩; refine ⟨_, rfl, ?_⟩; have n0_ := Aside0.mk (below_step (by repeat (first | (with_reducible first | exact HB.out | apply zD | apply zE | apply zF) | exact HB.out)) hb); clear HB; have HB := n0_; clear n0_; (try clear hb); (try clear hb2); (try clear hk); (try clear hi)) | ((with_reducible refine gate_dst (N := 5) rfl ?_); (try (refine gate_guard (by rfl) ?_; dsimp only)); refine box_event ?hg (N := 5) ?hd (cs := #[.int .i64 0, .int .i64 0]) (t := 56) ?hr ?_; (case hd => rfl); (case hg => rfl); (case hr => first | (go_simp; done) | (go_simp; rfl)); intro gb276 hg w25 hbox hb; have n0_ := Aside0.mk (below_step (by repeat (first | (with_reducible first | exact HB.out | apply zD | apply zE | apply zF) | exact HB.out)) hb); have n1_ := Aside0.mk (hbox); have n2_ := Aside0.mk ((by rw [hg]; exact (below_size (by repeat (first | (with_reducible first | exact HB.out | apply zD | apply zE | apply zF) | exact HB.out))) : w.heap.size ≤ gb276)); have n3_ := Aside0.mk ((by rw [hg]; exact (below_size (by repeat (first | (with_reducible first | exact HB.out | apply zD | apply zE | apply zF) | exact HB.out))) : w.heap.size ≤ gb276)); clear HB; have HB := n0_; have BK276 := n1_; have GW276 := n2_; have GE276 := n3_; clear n0_ n1_ n2_ n3_; clear hb hbox hg; have hcz26_0 : w25.cell? ⟨gb276, 0, none⟩ = some (.int .i64 0) := (blk_cell BK276.out 0).trans rfl; have hcz26_1 : w25.cell? ⟨gb276, 1, none⟩ = some (.int .i64 0) := (blk_cell BK276.out 1).trans rfl; have hfz26_0 := blk_frozen BK276.out 0; have hfz26_1 := blk_frozen BK276.out 1))
 have n0_ : Aside0 (((w25.setCell ⟨gb276, 0, none⟩ (.int .i64 (-7))).setCell ⟨gb276, 1, none⟩ (.int .i64 (-8))).heap[gb276]? = some (.cells #[.int .i64 (-7), .int .i64 (-8)] 56 (0, 0))) := ⟨by (with_reducible repeat (first | refine blk_drewN ?_ _ | refine blk_drew ?_ | refine blk_alloc ?_ _)); refine blk_put (cs := #[.int .i64 (-7), .int .i64 0]) ?_ 1 _ rfl; (with_reducible repeat (first | refine blk_drewN ?_ _ | refine blk_drew ?_ | refine blk_alloc ?_ _)); refine blk_put (cs := #[.int .i64 0, .int .i64 0]) ?_ 0 _ rfl; (with_reducible repeat (first | refine blk_drewN ?_ _ | refine blk_drew ?_ | refine blk_alloc ?_ _)); exact BK276.out⟩
 have n1_ : Aside0 (Below w.heap.size w ((w25.setCell ⟨gb276, 0, none⟩ (.int .i64 (-7))).setCell ⟨gb276, 1, none⟩ (.int .i64 (-8)))) := ⟨by repeat (first | (with_reducible first | exact HB.out | apply zD | apply zE | apply zF | refine below_set ?_ GE276.out) | exact HB.out)⟩
 (try clear BK276)
 (try clear HB)
 generalize ((w25.setCell ⟨gb276, 0, none⟩ (.int .i64 (-7))).setCell ⟨gb276, 1, none⟩ (.int .i64 (-8))) = w27 at n0_ n1_ ⊢
 have BK276 := n0_
 have HB := n1_
 clear n0_ n1_
 have n0_ := Aside0.mk (blk_drew BK276.out)
 have n1_ := Aside0.mk (below_drew1 HB.out)
 clear BK276
 clear HB
 have BK276 := n0_
 have HB := n1_
 clear n0_ n1_
 refine start_ (n := 14) (S := fun w' => w'.cell? ⟨gb276, 0, none⟩ = some (.int .i64 (-7)) ∧ w'.cell? ⟨gb276, 1, none⟩ = some (.int .i64 (-8))) (ds := []) #[false, false, false, false, false, false, false, false, false, false, false, false, false, false] (by kernel_rfl) rfl rfl ⟨(blk_cell BK276.out 0).trans rfl, (blk_cell BK276.out 1).trans rfl⟩ (fun hHeld => ?_); refine with_tabW leadtraillaw04_ScalarsOwns.tab4 leadtraillaw04_ScalarsOwns.bits4 (fun HT_ HW_ => ?_)
 generalize w27.drew = w28 at BK276 HB hHeld ⊢
 refine pure_ (i := 0) (N := some 20) (v := ?_) (a' := ?_) #[true, false, false, false, false, false, false, false, false, false, false, false, false, false] rfl rfl (any_of HT_.out (by kernel_rfl)) (fun _ _ _ h => h) (Or.inl ⟨by rfl, ?_⟩) ?_ ?_
 rotate_left
 ·intro w'
  go_simp
  with_reducible rfl
 rotate_left
 ·simp only [Act.put, List.setIfInBounds_toArray, List.set_cons_zero, List.set_cons_succ, i64_w, i32_w]
  rfl
 refine pure_ (i := 6) (N := some 26) (v := ?_) (a' := ?_) #[true, false, false, false, false, false, true, false, false, false, false, false, false, false] rfl rfl (any_of HT_.out (by kernel_rfl)) (fun _ _ _ h => h) (Or.inl ⟨by rfl, ?_⟩) ?_ ?_
 rotate_left
 ·intro w'
  go_simp
  with_reducible rfl
 rotate_left
 ·simp only [Act.put, List.setIfInBounds_toArray, List.set_cons_zero, List.set_cons_succ, i64_w, i32_w]
  rfl
 refine take_ (i := 2) (N := some 22) (v := ?_) (a' := ?_) #[true, false, true, false, false, false, true, false, false, false, false, false, false, false] rfl rfl (take_ofW HT_.out HW_.out (by kernel_rfl)) (fun _ _ _ h => h) (Or.inl ⟨by rfl, ?_⟩) hHeld ?_ ?_
 rotate_left
 ·rintro w' ⟨s0, s1⟩
  go_simp
  with_reducible rfl
 rotate_left
 ·simp only [Act.put, List.setIfInBounds_toArray, List.set_cons_zero, List.set_cons_succ, i64_w, i32_w]
  rfl
 refine take_ (i := 3) (N := some 23) (v := ?_) (a' := ?_) #[true, false, true, true, false, false, true, false, false, false, false, false, false, false] rfl rfl (take_ofW HT_.out HW_.out (by kernel_rfl)) (fun _ _ _ h => h) (Or.inl ⟨by rfl, ?_⟩) hHeld ?_ ?_
 rotate_left
 ·rintro w' ⟨s0, s1⟩
  go_simp
  with_reducible rfl
 rotate_left
 ·simp only [Act.put, List.setIfInBounds_toArray, List.set_cons_zero, List.set_cons_succ, i64_w, i32_w]
  rfl
 refine take_ (i := 8) (N := some 28) (v := ?_) (a' := ?_) #[true, false, true, true, false, false, true, false, true, false, false, false, false, false] rfl rfl (take_ofW HT_.out HW_.out (by kernel_rfl)) (fun _ _ _ h => h) (Or.inl ⟨by rfl, ?_⟩) hHeld ?_ ?_
 rotate_left
 ·rintro w' ⟨s0, s1⟩
  go_simp
  with_reducible rfl
 rotate_left
 ·simp only [Act.put, List.setIfInBounds_toArray, List.set_cons_zero, List.set_cons_succ, i64_w, i32_w]
  rfl
 refine take_ (i := 9) (N := some 29) (v := ?_) (a' := ?_) #[true, false, true, true, false, false, true, false, true, true, false, false, false, false] rfl rfl (take_ofW HT_.out HW_.out (by kernel_rfl)) (fun _ _ _ h => h) (Or.inl ⟨by rfl, ?_⟩) hHeld ?_ ?_
 rotate_left
 ·rintro w' ⟨s0, s1⟩
  go_simp
  with_reducible rfl
 rotate_left
 ·simp only [Act.put, List.setIfInBounds_toArray, List.set_cons_zero, List.set_cons_succ, i64_w, i32_w]
  rfl
 refine join_ (σ := Value × Value × Value × Value × Value) 3 #[true, true, true, true, true, true, true, true, true, true, true, false, false, false] (fun s_ => [(21, s_.1), (24, s_.2.1), (25, s_.2.2.1), (27, s_.2.2.2.1), (30, s_.2.2.2.2)]) (fun s_ w' => (w'.cell? ⟨gb276, 0, none⟩ = some (.int .i64 (-7)) ∧ w'.cell? ⟨gb276, 1, none⟩ = some (.int .i64 (-8))) ∧ (Kd.R k56 56 w' w.heap.size (fun k_ => some k_ ≠ (s_.2.2.1 : Value).ownBlock ∧ some k_ ≠ (s_.2.2.2.1 : Value).ownBlock ∧ some k_ ≠ (s_.2.2.2.2 : Value).ownBlock ∧ k_ ≠ gb276) s_.2.1 y280) ∧ (Kd.R k56 56 w' w.heap.size (fun k_ => some k_ ≠ (s_.2.1 : Value).ownBlock ∧ some k_ ≠ (s_.2.2.2.1 : Value).ownBlock ∧ some k_ ≠ (s_.2.2.2.2 : Value).ownBlock ∧ k_ ≠ gb276) s_.2.2.1 y283) ∧ (Kd.R k56 56 w' w.heap.size (fun k_ => some k_ ≠ (s_.2.1 : Value).ownBlock ∧ some k_ ≠ (s_.2.2.1 : Value).ownBlock ∧ some k_ ≠ (s_.2.2.2.2 : Value).ownBlock ∧ k_ ≠ gb276) s_.2.2.2.1 t286) ∧ (Kd.R k56 56 w' w.heap.size (fun k_ => some k_ ≠ (s_.2.1 : Value).ownBlock ∧ some k_ ≠ (s_.2.2.1 : Value).ownBlock ∧ some k_ ≠ (s_.2.2.2.1 : Value).ownBlock ∧ k_ ≠ gb276) s_.2.2.2.2 y289) ∧ (w'.heap[gb276]? = some (.cells #[.int .i64 (-7), .int .i64 (-8)] 56 (0, 0))) ∧ (Below w.heap.size w w')) ?_ ?_
 rotate_left
 ·intro hJ1_4_5_7_10
  refine join_ (σ := Value × Value × Value × Value) 4 #[true, true, true, true, true, true, true, true, true, true, false, false, false, false] (fun s_ => [(21, s_.1), (24, s_.2.1), (25, s_.2.2.1), (27, s_.2.2.2)]) (fun s_ w' => (w'.cell? ⟨gb276, 0, none⟩ = some (.int .i64 (-7)) ∧ w'.cell? ⟨gb276, 1, none⟩ = some (.int .i64 (-8))) ∧ (Kd.R k56 56 w' w.heap.size (fun k_ => some k_ ≠ (s_.2.2.1 : Value).ownBlock ∧ some k_ ≠ (s_.2.2.2 : Value).ownBlock ∧ k_ ≠ gb276) s_.2.1 y280) ∧ (Kd.R k56 56 w' w.heap.size (fun k_ => some k_ ≠ (s_.2.1 : Value).ownBlock ∧ some k_ ≠ (s_.2.2.2 : Value).ownBlock ∧ k_ ≠ gb276) s_.2.2.1 y283) ∧ (Kd.R k56 56 w' w.heap.size (fun k_ => some k_ ≠ (s_.2.1 : Value).ownBlock ∧ some k_ ≠ (s_.2.2.1 : Value).ownBlock ∧ k_ ≠ gb276) s_.2.2.2 t286) ∧ (w'.heap[gb276]? = some (.cells #[.int .i64 (-7), .int .i64 (-8)] 56 (0, 0))) ∧ (Below w.heap.size w w')) ?_ ?_
  rotate_left
  rotate_left
  ·skip
   rintro ⟨v278, v281, v284, v287⟩ w35 ⟨hS_, h0_, h1_, h2_, h3_, h4_⟩
   have n0_ : Aside0 (Kd.R k56 56 w35 w.heap.size (fun k_ => some k_ ≠ (v284 : Value).ownBlock ∧ some k_ ≠ (v287 : Value).ownBlock ∧ k_ ≠ gb276) v281 y280) := ⟨h0_⟩
   have n1_ : Aside0 (Kd.R k56 56 w35 w.heap.size (fun k_ => some k_ ≠ (v281 : Value).ownBlock ∧ some k_ ≠ (v287 : Value).ownBlock ∧ k_ ≠ gb276) v284 y283) := ⟨h1_⟩
   have n2_ : Aside0 (Kd.R k56 56 w35 w.heap.size (fun k_ => some k_ ≠ (v281 : Value).ownBlock ∧ some k_ ≠ (v284 : Value).ownBlock ∧ k_ ≠ gb276) v287 t286) := ⟨h2_⟩
   have n3_ : Aside0 (w35.heap[gb276]? = some (.cells #[.int .i64 (-7), .int .i64 (-8)] 56 (0, 0))) := ⟨h3_⟩
   have n4_ : Aside0 (Below w.heap.size w w35) := ⟨h4_⟩
   clear BK276
   clear HB
   clear h0_ h1_ h2_ h3_ h4_
   have HO282 := n0_
   have HO285 := n1_
   have HO288 := n2_
   have BK276 := n3_
   have HB := n4_
   clear n0_ n1_ n2_ n3_ n4_
   have hHeld : w35.cell? ⟨gb276, 0, none⟩ = some (.int .i64 (-7)) ∧ w35.cell? ⟨gb276, 1, none⟩ = some (.int .i64 (-8)) := hS_
   refine norm_ (a' := ?_) ?_ ?_
   rotate_left
   ·simp only [putAll, Act.put, List.setIfInBounds_toArray, List.set_cons_zero, List.set_cons_succ]
    rfl
   refine one_ (i := 10) (N := some 30) #[true, true, true, true, true, true, true, true, true, true, true, false, false, false] rfl rfl (one_of HT_.out (by kernel_rfl)) (by decide) (fun K hK => ?_)
   refine Kd.R_lit_step k56 _ 56 ?hg (N := 30) ?hd (xs := ([(⟨(-7), (-8)⟩ : S56), (⟨(-7), (-8)⟩ : S56)] : List (S56))) (inner := [.int .i64 (-7), .int .i64 (-8), .int .i64 (-7), .int .i64 (-8)]) (ok := fun _ => True) (okp := fun _ => True) ?hr ?hp (fun _ hk => hk) trivial (Below.refl _ _) (Nat.le_refl _) (by simp) ?_; (case hd => rfl); (case hg => rfl); (case hr => first | (go_simp; done) | (go_simp; rfl)); (case hp => exact (Reps.c2 (show Kd.M k56 _ _ _ (⟨(-7), (-8)⟩ : S56) [.int .i64 (-7), .int .i64 (-8)] from (k56_mkM _ _ _ (⟨(-7), (-8)⟩ : S56) )) (Reps.c2 (show Kd.M k56 _ _ _ (⟨(-7), (-8)⟩ : S56) [.int .i64 (-7), .int .i64 (-8)] from (k56_mkM _ _ _ (⟨(-7), (-8)⟩ : S56) )) (Reps.none _ _))))
   intro v290 w36 ho37 hb hg_ hnew_
   clear hg_ hnew_
   (first | rw [← Ny289.out] at ho37 | (simp only [Int.reduceToNat] at ho37; rw [← Ny289.out] at ho37))
   have n0_ := Aside0.mk (Kd.R_elder' (by (with_reducible repeat (first | apply zA | apply zB | apply zC)); exact HO282.out) (Kd.R_base ho37) hb)
   have n1_ := Aside0.mk (Kd.R_elder' (by (with_reducible repeat (first | apply zA | apply zB | apply zC)); exact HO285.out) (Kd.R_base ho37) hb)
   have n2_ := Aside0.mk (Kd.R_elder' (by (with_reducible repeat (first | apply zA | apply zB | apply zC)); exact HO288.out) (Kd.R_base ho37) hb)
   have n3_ := Aside0.mk (Kd.R_lower (Kd.R_newB (Kd.R_new' (Kd.R_new' (Kd.R_new' ho37 (Kd.R_lt (by (with_reducible repeat (first | apply zA | apply zB | apply zC)); exact HO282.out))) (Kd.R_lt (by (with_reducible repeat (first | apply zA | apply zB | apply zC)); exact HO285.out))) (Kd.R_lt (by (with_reducible repeat (first | apply zA | apply zB | apply zC)); exact HO288.out))) (g := gb276) (o := .cells #[.int .i64 (-7), .int .i64 (-8)] 56 (0, 0)) (by (with_reducible repeat (first | refine blk_drewN ?_ _ | refine blk_drew ?_ | refine blk_alloc ?_ _)); exact BK276.out)) (below_size (by repeat (first | (with_reducible first | exact HB.out | apply zD | apply zE | apply zF | refine below_set ?_ GE276.out) | exact HB.out))))
   have n4_ := Aside0.mk (blk_below (g := gb276) (o := .cells #[.int .i64 (-7), .int .i64 (-8)] 56 (0, 0)) (by (with_reducible repeat (first | refine blk_drewN ?_ _ | refine blk_drew ?_ | refine blk_alloc ?_ _)); exact BK276.out) hb)
   have n5_ := Aside0.mk (below_step (by repeat (first | (with_reducible first | exact HB.out | apply zD | apply zE | apply zF | refine below_set ?_ GE276.out) | exact HB.out)) hb)
   clear HO282
   clear HO285
   clear HO288
   clear BK276
   clear HB
   have HO282 := n0_
   have HO285 := n1_
   have HO288 := n2_
   have HO291 := n3_
   have BK276 := n4_
   have HB := n5_
   clear n0_ n1_ n2_ n3_ n4_ n5_
   clear hb ho37
   refine hK.out _ _ ⟨(blk_cell BK276.out 0).trans rfl, (blk_cell BK276.out 1).trans rfl⟩ (fun hHeld => ?_)
   clear hK K
   refine norm_ (a' := ?_) ?_ ?_
   rotate_left
   ·show Act.put _ (some 30) _ = _
    simp only [Act.put, List.setIfInBounds_toArray, List.set_cons_zero, List.set_cons_succ, i64_w, i32_w]
    rfl
   exact norm_ (by first | (simp only [putAll, Act.put, List.setIfInBounds_toArray, List.set_cons_zero, List.set_cons_succ]; done) | (simp only [putAll, Act.put, List.setIfInBounds_toArray, List.set_cons_zero, List.set_cons_succ]; rfl)) (hJ1_4_5_7_10 (v278, v281, v284, v287, v290) _ ⟨hHeld, (by (with_reducible repeat (first | apply zA | apply zB | apply zC)); exact Kd.R_mono HO282.out (fun _ hk => ⟨hk.1.1, ⟨hk.1.2.1, ⟨hk.2, hk.1.2.2⟩⟩⟩)), (by (with_reducible repeat (first | apply zA | apply zB | apply zC)); exact Kd.R_mono HO285.out (fun _ hk => ⟨hk.1.1, ⟨hk.1.2.1, ⟨hk.2, hk.1.2.2⟩⟩⟩)), (by (with_reducible repeat (first | apply zA | apply zB | apply zC)); exact Kd.R_mono HO288.out (fun _ hk => ⟨hk.1.1, ⟨hk.1.2.1, ⟨hk.2, hk.1.2.2⟩⟩⟩)), (by (with_reducible repeat (first | apply zA | apply zB | apply zC)); exact Kd.R_mono HO291.out (fun _ hk => ⟨hk.1.1.1.2, ⟨hk.1.1.2, ⟨hk.1.2, hk.2⟩⟩⟩)), (by (with_reducible repeat (first | refine blk_drewN ?_ _ | refine blk_drew ?_ | refine blk_alloc ?_ _)); exact BK276.out), (by repeat (first | (with_reducible first | exact HB.out | apply zD | apply zE | apply zF | refine below_set ?_ GE276.out) | exact HB.out))⟩)
  intro hJ1_4_5_7
  refine join_ (σ := Value × Value × Value × Value) 4 #[true, true, true, true, true, true, true, false, true, true, true, false, false, false] (fun s_ => [(21, s_.1), (24, s_.2.1), (25, s_.2.2.1), (30, s_.2.2.2)]) (fun s_ w' => (w'.cell? ⟨gb276, 0, none⟩ = some (.int .i64 (-7)) ∧ w'.cell? ⟨gb276, 1, none⟩ = some (.int .i64 (-8))) ∧ (Kd.R k56 56 w' w.heap.size (fun k_ => some k_ ≠ (s_.2.2.1 : Value).ownBlock ∧ some k_ ≠ (s_.2.2.2 : Value).ownBlock ∧ k_ ≠ gb276) s_.2.1 y280) ∧ (Kd.R k56 56 w' w.heap.size (fun k_ => some k_ ≠ (s_.2.1 : Value).ownBlock ∧ some k_ ≠ (s_.2.2.2 : Value).ownBlock ∧ k_ ≠ gb276) s_.2.2.1 y283) ∧ (Kd.R k56 56 w' w.heap.size (fun k_ => some k_ ≠ (s_.2.1 : Value).ownBlock ∧ some k_ ≠ (s_.2.2.1 : Value).ownBlock ∧ k_ ≠ gb276) s_.2.2.2 y289) ∧ (w'.heap[gb276]? = some (.cells #[.int .i64 (-7), .int .i64 (-8)] 56 (0, 0))) ∧ (Below w.heap.size w w')) ?_ ?_
  rotate_left
  rotate_left
  ·skip
   rintro ⟨v278, v281, v284, v290⟩ w36 ⟨hS_, h0_, h1_, h2_, h3_, h4_⟩
   have n0_ : Aside0 (Kd.R k56 56 w36 w.heap.size (fun k_ => some k_ ≠ (v284 : Value).ownBlock ∧ some k_ ≠ (v290 : Value).ownBlock ∧ k_ ≠ gb276) v281 y280) := ⟨h0_⟩
   have n1_ : Aside0 (Kd.R k56 56 w36 w.heap.size (fun k_ => some k_ ≠ (v281 : Value).ownBlock ∧ some k_ ≠ (v290 : Value).ownBlock ∧ k_ ≠ gb276) v284 y283) := ⟨h1_⟩
   have n2_ : Aside0 (Kd.R k56 56 w36 w.heap.size (fun k_ => some k_ ≠ (v281 : Value).ownBlock ∧ some k_ ≠ (v284 : Value).ownBlock ∧ k_ ≠ gb276) v290 y289) := ⟨h2_⟩
   have n3_ : Aside0 (w36.heap[gb276]? = some (.cells #[.int .i64 (-7), .int .i64 (-8)] 56 (0, 0))) := ⟨h3_⟩
   have n4_ : Aside0 (Below w.heap.size w w36) := ⟨h4_⟩
   clear BK276
   clear HB
   clear h0_ h1_ h2_ h3_ h4_
   have HO282 := n0_
   have HO285 := n1_
   have HO291 := n2_
   have BK276 := n3_
   have HB := n4_
   clear n0_ n1_ n2_ n3_ n4_
   have hHeld : w36.cell? ⟨gb276, 0, none⟩ = some (.int .i64 (-7)) ∧ w36.cell? ⟨gb276, 1, none⟩ = some (.int .i64 (-8)) := hS_
   refine norm_ (a' := ?_) ?_ ?_
   rotate_left
   ·simp only [putAll, Act.put, List.setIfInBounds_toArray, List.set_cons_zero, List.set_cons_succ]
    rfl
   refine one_ (i := 7) (N := some 27) #[true, true, true, true, true, true, true, true, true, true, true, false, false, false] rfl rfl (one_of HT_.out (by kernel_rfl)) (by decide) (fun K hK => ?_)
   refine goes_ Try.func25 (by kernel_rfl) rfl #[.slice A1 l1.length c1] (by rfl) rfl rfl (by (try simp only [List.map_toArray, List.map_cons, List.map_nil]); first | done | rfl | (simp only [List.length_drop, List.length_take]; rfl)) ?_
   with_reducible refine (leadtraillaw04_copied.calls _ _ l1 t286 _ ?side1 ?side2 A7.out).mono ?_
   (case side1 => repeat (first | exact (Kd.C_below HR1.out HB.out) | (with_reducible refine Kd.C_alloc ?_ _) | (with_reducible refine Kd.C_drewN ?_ _) | (with_reducible refine Kd.C_drew ?_)))
   (case side2 => exact HC1.out)
   rintro e w37 ⟨v287, rfl, ho0, hb⟩
   refine ⟨_, rfl, ?_⟩
   have n0_ := Aside0.mk (Kd.R_elder' (by (with_reducible repeat (first | apply zA | apply zB | apply zC)); exact HO282.out) (Kd.R_base ho0) hb)
   have n1_ := Aside0.mk (Kd.R_elder' (by (with_reducible repeat (first | apply zA | apply zB | apply zC)); exact HO285.out) (Kd.R_base ho0) hb)
   have n2_ := Aside0.mk (Kd.R_elder' (by (with_reducible repeat (first | apply zA | apply zB | apply zC)); exact HO291.out) (Kd.R_base ho0) hb)
   have n3_ := Aside0.mk (Kd.R_lower (Kd.R_newB (Kd.R_new' (Kd.R_new' (Kd.R_new' ho0 (Kd.R_lt (by (with_reducible repeat (first | apply zA | apply zB | apply zC)); exact HO282.out))) (Kd.R_lt (by (with_reducible repeat (first | apply zA | apply zB | apply zC)); exact HO285.out))) (Kd.R_lt (by (with_reducible repeat (first | apply zA | apply zB | apply zC)); exact HO291.out))) (g := gb276) (o := .cells #[.int .i64 (-7), .int .i64 (-8)] 56 (0, 0)) (by (with_reducible repeat (first | refine blk_drewN ?_ _ | refine blk_drew ?_ | refine blk_alloc ?_ _)); exact BK276.out)) (below_size (by repeat (first | (with_reducible first | exact HB.out | apply zD | apply zE | apply zF | refine below_set ?_ GE276.out) | exact HB.out))))
   have n4_ := Aside0.mk (blk_below (g := gb276) (o := .cells #[.int .i64 (-7), .int .i64 (-8)] 56 (0, 0)) (by (with_reducible repeat (first | refine blk_drewN ?_ _ | refine blk_drew ?_ | refine blk_alloc ?_ _)); exact BK276.out) hb)
   have n5_ := Aside0.mk (below_step (by repeat (first | (with_reducible first | exact HB.out | apply zD | apply zE | apply zF | refine below_set ?_ GE276.out) | exact HB.out)) hb)
   clear HO282
   clear HO285
   clear HO291
   clear BK276
   clear HB
   have HO282 := n0_
   have HO285 := n1_
   have HO291 := n2_
   have HO288 := n3_
   have BK276 := n4_
   have HB := n5_
   clear n0_ n1_ n2_ n3_ n4_ n5_
   (try clear hb)
   (try clear hb2)
   (try clear hk)
   (try clear hi)
   (try clear ho0)
   refine hK.out _ _ ⟨(blk_cell BK276.out 0).trans rfl, (blk_cell BK276.out 1).trans rfl⟩ (fun hHeld => ?_)
   clear hK K
   refine norm_ (a' := ?_) ?_ ?_
   rotate_left
   ·show Act.put _ (some 27) _ = _
    simp only [Act.put, List.setIfInBounds_toArray, List.set_cons_zero, List.set_cons_succ, i64_w, i32_w]
    rfl
   exact norm_ (by first | (simp only [putAll, Act.put, List.setIfInBounds_toArray, List.set_cons_zero, List.set_cons_succ]; done) | (simp only [putAll, Act.put, List.setIfInBounds_toArray, List.set_cons_zero, List.set_cons_succ]; rfl)) (hJ1_4_5_7_10 (v278, v281, v284, v287, v290) _ ⟨hHeld, (by (with_reducible repeat (first | apply zA | apply zB | apply zC)); exact Kd.R_mono HO282.out (fun _ hk => ⟨hk.1.1, ⟨hk.2, ⟨hk.1.2.1, hk.1.2.2⟩⟩⟩)), (by (with_reducible repeat (first | apply zA | apply zB | apply zC)); exact Kd.R_mono HO285.out (fun _ hk => ⟨hk.1.1, ⟨hk.2, ⟨hk.1.2.1, hk.1.2.2⟩⟩⟩)), (by (with_reducible repeat (first | apply zA | apply zB | apply zC)); exact Kd.R_mono HO288.out (fun _ hk => ⟨hk.1.1.1.2, ⟨hk.1.1.2, ⟨hk.1.2, hk.2⟩⟩⟩)), (by (with_reducible repeat (first | apply zA | apply zB | apply zC)); exact Kd.R_mono HO291.out (fun _ hk => ⟨hk.1.1, ⟨hk.1.2.1, ⟨hk.2, hk.1.2.2⟩⟩⟩)), (by (with_reducible repeat (first | refine blk_drewN ?_ _ | refine blk_drew ?_ | refine blk_alloc ?_ _)); exact BK276.out), (by repeat (first | (with_reducible first | exact HB.out | apply zD | apply zE | apply zF | refine below_set ?_ GE276.out) | exact HB.out))⟩)
  intro hJ1_4_5_10
  refine join_ (σ := Value × Value × Value) 5 #[true, true, true, true, true, true, true, false, true, true, false, false, false, false] (fun s_ => [(21, s_.1), (24, s_.2.1), (25, s_.2.2)]) (fun s_ w' => (w'.cell? ⟨gb276, 0, none⟩ = some (.int .i64 (-7)) ∧ w'.cell? ⟨gb276, 1, none⟩ = some (.int .i64 (-8))) ∧ (Kd.R k56 56 w' w.heap.size (fun k_ => some k_ ≠ (s_.2.2 : Value).ownBlock ∧ k_ ≠ gb276) s_.2.1 y280) ∧ (Kd.R k56 56 w' w.heap.size (fun k_ => some k_ ≠ (s_.2.1 : Value).ownBlock ∧ k_ ≠ gb276) s_.2.2 y283) ∧ (w'.heap[gb276]? = some (.cells #[.int .i64 (-7), .int .i64 (-8)] 56 (0, 0))) ∧ (Below w.heap.size w w')) ?_ ?_
  rotate_left
  rotate_left
  ·skip
   rintro ⟨v278, v281, v284⟩ w34 ⟨hS_, h0_, h1_, h2_, h3_⟩
   have n0_ : Aside0 (Kd.R k56 56 w34 w.heap.size (fun k_ => some k_ ≠ (v284 : Value).ownBlock ∧ k_ ≠ gb276) v281 y280) := ⟨h0_⟩
   have n1_ : Aside0 (Kd.R k56 56 w34 w.heap.size (fun k_ => some k_ ≠ (v281 : Value).ownBlock ∧ k_ ≠ gb276) v284 y283) := ⟨h1_⟩
   have n2_ : Aside0 (w34.heap[gb276]? = some (.cells #[.int .i64 (-7), .int .i64 (-8)] 56 (0, 0))) := ⟨h2_⟩
   have n3_ : Aside0 (Below w.heap.size w w34) := ⟨h3_⟩
   clear BK276
   clear HB
   clear h0_ h1_ h2_ h3_
   have HO282 := n0_
   have HO285 := n1_
   have BK276 := n2_
   have HB := n3_
   clear n0_ n1_ n2_ n3_
   have hHeld : w34.cell? ⟨gb276, 0, none⟩ = some (.int .i64 (-7)) ∧ w34.cell? ⟨gb276, 1, none⟩ = some (.int .i64 (-8)) := hS_
   refine norm_ (a' := ?_) ?_ ?_
   rotate_left
   ·simp only [putAll, Act.put, List.setIfInBounds_toArray, List.set_cons_zero, List.set_cons_succ]
    rfl
   refine two_ (i := 7) (j := 10) (Ni := some 27) (Nj := some 30) #[true, true, true, true, true, true, true, true, true, true, false, false, false, false] #[true, true, true, true, true, true, true, false, true, true, true, false, false, false] rfl rfl rfl rfl (two_of HT_.out (by kernel_rfl)) (by decide) (by decide) (fun K hK => ?_) (fun K hK => ?_)
   ·skip
    refine goes_ Try.func25 (by kernel_rfl) rfl #[.slice A1 l1.length c1] (by rfl) rfl rfl (by (try simp only [List.map_toArray, List.map_cons, List.map_nil]); first | done | rfl | (simp only [List.length_drop, List.length_take]; rfl)) ?_
    with_reducible refine (leadtraillaw04_copied.calls _ _ l1 t286 _ ?side1 ?side2 A7.out).mono ?_
    (case side1 => repeat (first | exact (Kd.C_below HR1.out HB.out) | (with_reducible refine Kd.C_alloc ?_ _) | (with_reducible refine Kd.C_drewN ?_ _) | (with_reducible refine Kd.C_drew ?_)))
    (case side2 => exact HC1.out)
    rintro e w35 ⟨v287, rfl, ho0, hb⟩
    refine ⟨_, rfl, ?_⟩
    have n0_ := Aside0.mk (Kd.R_elder' (by (with_reducible repeat (first | apply zA | apply zB | apply zC)); exact HO282.out) (Kd.R_base ho0) hb)
    have n1_ := Aside0.mk (Kd.R_elder' (by (with_reducible repeat (first | apply zA | apply zB | apply zC)); exact HO285.out) (Kd.R_base ho0) hb)
    have n2_ := Aside0.mk (Kd.R_lower (Kd.R_newB (Kd.R_new' (Kd.R_new' ho0 (Kd.R_lt (by (with_reducible repeat (first | apply zA | apply zB | apply zC)); exact HO282.out))) (Kd.R_lt (by (with_reducible repeat (first | apply zA | apply zB | apply zC)); exact HO285.out))) (g := gb276) (o := .cells #[.int .i64 (-7), .int .i64 (-8)] 56 (0, 0)) (by (with_reducible repeat (first | refine blk_drewN ?_ _ | refine blk_drew ?_ | refine blk_alloc ?_ _)); exact BK276.out)) (below_size (by repeat (first | (with_reducible first | exact HB.out | apply zD | apply zE | apply zF | refine below_set ?_ GE276.out) | exact HB.out))))
    have n3_ := Aside0.mk (blk_below (g := gb276) (o := .cells #[.int .i64 (-7), .int .i64 (-8)] 56 (0, 0)) (by (with_reducible repeat (first | refine blk_drewN ?_ _ | refine blk_drew ?_ | refine blk_alloc ?_ _)); exact BK276.out) hb)
    have n4_ := Aside0.mk (below_step (by repeat (first | (with_reducible first | exact HB.out | apply zD | apply zE | apply zF | refine below_set ?_ GE276.out) | exact HB.out)) hb)
    clear HO282
    clear HO285
    clear BK276
    clear HB
    have HO282 := n0_
    have HO285 := n1_
    have HO288 := n2_
    have BK276 := n3_
    have HB := n4_
    clear n0_ n1_ n2_ n3_ n4_
    (try clear hb)
    (try clear hb2)
    (try clear hk)
    (try clear hi)
    (try clear ho0)
    refine hK.out _ _ ⟨(blk_cell BK276.out 0).trans rfl, (blk_cell BK276.out 1).trans rfl⟩ (fun hHeld => ?_)
    clear hK K
    refine norm_ (a' := ?_) ?_ ?_
    rotate_left
    ·show Act.put _ (some 27) _ = _
     simp only [Act.put, List.setIfInBounds_toArray, List.set_cons_zero, List.set_cons_succ, i64_w, i32_w]
     rfl
    exact norm_ (by first | (simp only [putAll, Act.put, List.setIfInBounds_toArray, List.set_cons_zero, List.set_cons_succ]; done) | (simp only [putAll, Act.put, List.setIfInBounds_toArray, List.set_cons_zero, List.set_cons_succ]; rfl)) (hJ1_4_5_7 (v278, v281, v284, v287) _ ⟨hHeld, (by (with_reducible repeat (first | apply zA | apply zB | apply zC)); exact Kd.R_mono HO282.out (fun _ hk => ⟨hk.1.1, ⟨hk.2, hk.1.2⟩⟩)), (by (with_reducible repeat (first | apply zA | apply zB | apply zC)); exact Kd.R_mono HO285.out (fun _ hk => ⟨hk.1.1, ⟨hk.2, hk.1.2⟩⟩)), (by (with_reducible repeat (first | apply zA | apply zB | apply zC)); exact Kd.R_mono HO288.out (fun _ hk => ⟨hk.1.1.2, ⟨hk.1.2, hk.2⟩⟩)), (by (with_reducible repeat (first | refine blk_drewN ?_ _ | refine blk_drew ?_ | refine blk_alloc ?_ _)); exact BK276.out), (by repeat (first | (with_reducible first | exact HB.out | apply zD | apply zE | apply zF | refine below_set ?_ GE276.out) | exact HB.out))⟩)
   ·skip
    refine Kd.R_lit_step k56 _ 56 ?hg (N := 30) ?hd (xs := ([(⟨(-7), (-8)⟩ : S56), (⟨(-7), (-8)⟩ : S56)] : List (S56))) (inner := [.int .i64 (-7), .int .i64 (-8), .int .i64 (-7), .int .i64 (-8)]) (ok := fun _ => True) (okp := fun _ => True) ?hr ?hp (fun _ hk => hk) trivial (Below.refl _ _) (Nat.le_refl _) (by simp) ?_; (case hd => rfl); (case hg => rfl); (case hr => first | (go_simp; done) | (go_simp; rfl)); (case hp => exact (Reps.c2 (show Kd.M k56 _ _ _ (⟨(-7), (-8)⟩ : S56) [.int .i64 (-7), .int .i64 (-8)] from (k56_mkM _ _ _ (⟨(-7), (-8)⟩ : S56) )) (Reps.c2 (show Kd.M k56 _ _ _ (⟨(-7), (-8)⟩ : S56) [.int .i64 (-7), .int .i64 (-8)] from (k56_mkM _ _ _ (⟨(-7), (-8)⟩ : S56) )) (Reps.none _ _))))
    intro v290 w35 ho36 hb hg_ hnew_
    clear hg_ hnew_
    (first | rw [← Ny289.out] at ho36 | (simp only [Int.reduceToNat] at ho36; rw [← Ny289.out] at ho36))
    have n0_ := Aside0.mk (Kd.R_elder' (by (with_reducible repeat (first | apply zA | apply zB | apply zC)); exact HO282.out) (Kd.R_base ho36) hb)
    have n1_ := Aside0.mk (Kd.R_elder' (by (with_reducible repeat (first | apply zA | apply zB | apply zC)); exact HO285.out) (Kd.R_base ho36) hb)
    have n2_ := Aside0.mk (Kd.R_lower (Kd.R_newB (Kd.R_new' (Kd.R_new' ho36 (Kd.R_lt (by (with_reducible repeat (first | apply zA | apply zB | apply zC)); exact HO282.out))) (Kd.R_lt (by (with_reducible repeat (first | apply zA | apply zB | apply zC)); exact HO285.out))) (g := gb276) (o := .cells #[.int .i64 (-7), .int .i64 (-8)] 56 (0, 0)) (by (with_reducible repeat (first | refine blk_drewN ?_ _ | refine blk_drew ?_ | refine blk_alloc ?_ _)); exact BK276.out)) (below_size (by repeat (first | (with_reducible first | exact HB.out | apply zD | apply zE | apply zF | refine below_set ?_ GE276.out) | exact HB.out))))
    have n3_ := Aside0.mk (blk_below (g := gb276) (o := .cells #[.int .i64 (-7), .int .i64 (-8)] 56 (0, 0)) (by (with_reducible repeat (first | refine blk_drewN ?_ _ | refine blk_drew ?_ | refine blk_alloc ?_ _)); exact BK276.out) hb)
    have n4_ := Aside0.mk (below_step (by repeat (first | (with_reducible first | exact HB.out | apply zD | apply zE | apply zF | refine below_set ?_ GE276.out) | exact HB.out)) hb)
    clear HO282
    clear HO285
    clear BK276
    clear HB
    have HO282 := n0_
    have HO285 := n1_
    have HO291 := n2_
    have BK276 := n3_
    have HB := n4_
    clear n0_ n1_ n2_ n3_ n4_
    clear hb ho36
    refine hK.out _ _ ⟨(blk_cell BK276.out 0).trans rfl, (blk_cell BK276.out 1).trans rfl⟩ (fun hHeld => ?_)
    clear hK K
    refine norm_ (a' := ?_) ?_ ?_
    rotate_left
    ·show Act.put _ (some 30) _ = _
     simp only [Act.put, List.setIfInBounds_toArray, List.set_cons_zero, List.set_cons_succ, i64_w, i32_w]
     rfl
    exact norm_ (by first | (simp only [putAll, Act.put, List.setIfInBounds_toArray, List.set_cons_zero, List.set_cons_succ]; done) | (simp only [putAll, Act.put, List.setIfInBounds_toArray, List.set_cons_zero, List.set_cons_succ]; rfl)) (hJ1_4_5_10 (v278, v281, v284, v290) _ ⟨hHeld, (by (with_reducible repeat (first | apply zA | apply zB | apply zC)); exact Kd.R_mono HO282.out (fun _ hk => ⟨hk.1.1, ⟨hk.2, hk.1.2⟩⟩)), (by (with_reducible repeat (first | apply zA | apply zB | apply zC)); exact Kd.R_mono HO285.out (fun _ hk => ⟨hk.1.1, ⟨hk.2, hk.1.2⟩⟩)), (by (with_reducible repeat (first | apply zA | apply zB | apply zC)); exact Kd.R_mono HO291.out (fun _ hk => ⟨hk.1.1.2, ⟨hk.1.2, hk.2⟩⟩)), (by (with_reducible repeat (first | refine blk_drewN ?_ _ | refine blk_drew ?_ | refine blk_alloc ?_ _)); exact BK276.out), (by repeat (first | (with_reducible first | exact HB.out | apply zD | apply zE | apply zF | refine below_set ?_ GE276.out) | exact HB.out))⟩)
  intro hJ1_4_5
  refine join_ (σ := Value × Value × Value) 5 #[true, true, true, true, true, false, true, false, true, true, true, false, false, false] (fun s_ => [(21, s_.1), (24, s_.2.1), (30, s_.2.2)]) (fun s_ w' => (w'.cell? ⟨gb276, 0, none⟩ = some (.int .i64 (-7)) ∧ w'.cell? ⟨gb276, 1, none⟩ = some (.int .i64 (-8))) ∧ (Kd.R k56 56 w' w.heap.size (fun k_ => some k_ ≠ (s_.2.1 : Value).ownBlock ∧ some k_ ≠ (s_.2.2 : Value).ownBlock ∧ k_ ≠ gb276) s_.1 t277) ∧ (Kd.R k56 56 w' w.heap.size (fun k_ => some k_ ≠ (s_.1 : Value).ownBlock ∧ some k_ ≠ (s_.2.2 : Value).ownBlock ∧ k_ ≠ gb276) s_.2.1 y280) ∧ (Kd.R k56 56 w' w.heap.size (fun k_ => some k_ ≠ (s_.1 : Value).ownBlock ∧ some k_ ≠ (s_.2.1 : Value).ownBlock ∧ k_ ≠ gb276) s_.2.2 y289) ∧ (w'.heap[gb276]? = some (.cells #[.int .i64 (-7), .int .i64 (-8)] 56 (0, 0))) ∧ (Below w.heap.size w w')) ?_ ?_
  rotate_left
  rotate_left
  ·skip
   rintro ⟨v278, v281, v290⟩ w34 ⟨hS_, h0_, h1_, h2_, h3_, h4_⟩
   have n0_ : Aside0 (Kd.R k56 56 w34 w.heap.size (fun k_ => some k_ ≠ (v281 : Value).ownBlock ∧ some k_ ≠ (v290 : Value).ownBlock ∧ k_ ≠ gb276) v278 t277) := ⟨h0_⟩
   have n1_ : Aside0 (Kd.R k56 56 w34 w.heap.size (fun k_ => some k_ ≠ (v278 : Value).ownBlock ∧ some k_ ≠ (v290 : Value).ownBlock ∧ k_ ≠ gb276) v281 y280) := ⟨h1_⟩
   have n2_ : Aside0 (Kd.R k56 56 w34 w.heap.size (fun k_ => some k_ ≠ (v278 : Value).ownBlock ∧ some k_ ≠ (v281 : Value).ownBlock ∧ k_ ≠ gb276) v290 y289) := ⟨h2_⟩
   have n3_ : Aside0 (w34.heap[gb276]? = some (.cells #[.int .i64 (-7), .int .i64 (-8)] 56 (0, 0))) := ⟨h3_⟩
   have n4_ : Aside0 (Below w.heap.size w w34) := ⟨h4_⟩
   clear BK276
   clear HB
   clear h0_ h1_ h2_ h3_ h4_
   have HO279 := n0_
   have HO282 := n1_
   have HO291 := n2_
   have BK276 := n3_
   have HB := n4_
   clear n0_ n1_ n2_ n3_ n4_
   have hHeld : w34.cell? ⟨gb276, 0, none⟩ = some (.int .i64 (-7)) ∧ w34.cell? ⟨gb276, 1, none⟩ = some (.int .i64 (-8)) := hS_
   obtain ⟨Ao36, co36, eo36⟩ := Kd.R_slice HO282.out
   (first | subst eo36 | (injection eo36 with f1_ f2_ f3_; have f4_ := f1_.symm; have f5_ := f3_.symm; clear f1_ f2_ f3_; subst f4_; subst f5_))
   refine norm_ (a' := ?_) ?_ ?_
   rotate_left
   ·simp only [putAll, Act.put, List.setIfInBounds_toArray, List.set_cons_zero, List.set_cons_succ]
    rfl
   refine one_ (i := 5) (N := some 25) #[true, true, true, true, true, true, true, false, true, true, true, false, false, false] rfl rfl (one_of HT_.out (by kernel_rfl)) (by decide) (fun K hK => ?_)
   refine Kd.R_append_rows_step k56 (w0 := w) w.heap.size (by rfl) (.tmp 21) (.tmp 24) 32 56 (.agg #[(.int .i64 0), (.int .i64 0)]) 16 rfl Try.underlying32 info56 rfl (by decide) (by omega) v278 t277 y280 _ _ _ (fun k_ => some k_ ≠ (.slice Ao36 y280.length co36 : Value).ownBlock ∧ some k_ ≠ (v290 : Value).ownBlock ∧ k_ ≠ gb276) (fun _ => False) rfl rfl ?aO ?aR (fun _ _ h => h) (fun _ h => h.elim) ?aF ?aB ?aS ?aL ?_
   (case aR => repeat (first | exact (Kd.R_reads' HO282.out).2.2 | (with_reducible refine Kd.C_alloc ?_ _) | (with_reducible refine Kd.C_drewN ?_ _) | (with_reducible refine Kd.C_drew ?_)))
   (case aB => exact (by repeat (first | (with_reducible first | exact HB.out | apply zD | apply zE | apply zF | refine below_set ?_ GE276.out) | exact HB.out)))
   (case aF => exact (fun k_ hk => ⟨Kd.fresh' (Kd.R_lt (by (with_reducible repeat (first | apply zA | apply zB | apply zC)); exact HO282.out)) k_ hk, Kd.fresh' (Kd.R_lt (by (with_reducible repeat (first | apply zA | apply zB | apply zC)); exact HO291.out)) k_ hk, Kd.freshB (g := gb276) (o := .cells #[.int .i64 (-7), .int .i64 (-8)] 56 (0, 0)) (by (with_reducible repeat (first | refine blk_drewN ?_ _ | refine blk_drew ?_ | refine blk_alloc ?_ _)); exact BK276.out) k_ hk⟩))
   (case aO => exact (by (with_reducible repeat (first | apply zA | apply zB | apply zC)); exact HO279.out))
   (case aS => exact (below_size (by repeat (first | (with_reducible first | exact HB.out | apply zD | apply zE | apply zF | refine below_set ?_ GE276.out) | exact HB.out))))
   (case aL => have := LMc6.out; omega)
   intro v284 w35 ho hb hg hat
   rw [← Ny283.out] at ho
   have n0_ := Aside0.mk (blk_grown (g := gb276) (o := .cells #[.int .i64 (-7), .int .i64 (-8)] 56 (0, 0)) (by (with_reducible repeat (first | refine blk_drewN ?_ _ | refine blk_drew ?_ | refine blk_alloc ?_ _)); exact BK276.out) hg (Kd.R_away HO279.out (fun _ hk => hk.2.2)))
   have n1_ := Aside0.mk (Kd.R_after (ok := (fun k_ => some k_ ≠ (v290 : Value).ownBlock ∧ k_ ≠ gb276)) (by (with_reducible repeat (first | apply zA | apply zB | apply zC)); exact Kd.R_mono HO282.out (fun _ hk => ⟨⟨hk.2.1, hk.2.2⟩, hk.1⟩)) hg hat)
   have n2_ := Aside0.mk (Kd.R_after (ok := (fun k_ => some k_ ≠ (.slice Ao36 y280.length co36 : Value).ownBlock ∧ k_ ≠ gb276)) (by (with_reducible repeat (first | apply zA | apply zB | apply zC)); exact Kd.R_mono HO291.out (fun _ hk => ⟨⟨hk.2.1, hk.2.2⟩, hk.1⟩)) hg hat)
   have n3_ := Aside0.mk (hb)
   have n4_ := Aside0.mk (ho)
   clear BK276
   clear HO282
   clear HO291
   clear HB
   clear HO279
   have BK276 := n0_
   have HO282 := n1_
   have HO291 := n2_
   have HB := n3_
   have HO285 := n4_
   clear n0_ n1_ n2_ n3_ n4_
   clear ho hb hg hat
   refine hK.out _ _ ⟨(blk_cell BK276.out 0).trans rfl, (blk_cell BK276.out 1).trans rfl⟩ (fun hHeld => ?_)
   clear hK K
   refine norm_ (a' := ?_) ?_ ?_
   rotate_left
   ·show Act.put _ (some 25) _ = _
    simp only [Act.put, List.setIfInBounds_toArray, List.set_cons_zero, List.set_cons_succ, i64_w, i32_w]
    rfl
   exact norm_ (by first | (simp only [putAll, Act.put, List.setIfInBounds_toArray, List.set_cons_zero, List.set_cons_succ]; done) | (simp only [putAll, Act.put, List.setIfInBounds_toArray, List.set_cons_zero, List.set_cons_succ]; rfl)) (hJ1_4_5_10 (v278, .slice Ao36 y280.length co36, v284, v290) _ ⟨hHeld, (by (with_reducible repeat (first | apply zA | apply zB | apply zC)); exact Kd.R_mono HO282.out (fun _ hk => ⟨hk.2, ⟨hk.1.1, hk.1.2⟩⟩)), (by (with_reducible repeat (first | apply zA | apply zB | apply zC)); exact HO285.out), (by (with_reducible repeat (first | apply zA | apply zB | apply zC)); exact Kd.R_mono HO291.out (fun _ hk => ⟨hk.1.1, ⟨hk.2, hk.1.2⟩⟩)), (by (with_reducible repeat (first | refine blk_drewN ?_ _ | refine blk_drew ?_ | refine blk_alloc ?_ _)); exact BK276.out), (by repeat (first | (with_reducible first | exact HB.out | apply zD | apply zE | apply zF | refine below_set ?_ GE276.out) | exact HB.out))⟩)
  intro hJ1_4_10
  refine join_ (σ := Value × Value) 6 #[true, true, true, true, true, false, true, false, true, true, false, false, false, false] (fun s_ => [(21, s_.1), (24, s_.2)]) (fun s_ w' => (w'.cell? ⟨gb276, 0, none⟩ = some (.int .i64 (-7)) ∧ w'.cell? ⟨gb276, 1, none⟩ = some (.int .i64 (-8))) ∧ (Kd.R k56 56 w' w.heap.size (fun k_ => some k_ ≠ (s_.2 : Value).ownBlock ∧ k_ ≠ gb276) s_.1 t277) ∧ (Kd.R k56 56 w' w.heap.size (fun k_ => some k_ ≠ (s_.1 : Value).ownBlock ∧ k_ ≠ gb276) s_.2 y280) ∧ (w'.heap[gb276]? = some (.cells #[.int .i64 (-7), .int .i64 (-8)] 56 (0, 0))) ∧ (Below w.heap.size w w')) ?_ ?_
  rotate_left
  rotate_left
  ·skip
   rintro ⟨v278, v281⟩ w32 ⟨hS_, h0_, h1_, h2_, h3_⟩
   have n0_ : Aside0 (Kd.R k56 56 w32 w.heap.size (fun k_ => some k_ ≠ (v281 : Value).ownBlock ∧ k_ ≠ gb276) v278 t277) := ⟨h0_⟩
   have n1_ : Aside0 (Kd.R k56 56 w32 w.heap.size (fun k_ => some k_ ≠ (v278 : Value).ownBlock ∧ k_ ≠ gb276) v281 y280) := ⟨h1_⟩
   have n2_ : Aside0 (w32.heap[gb276]? = some (.cells #[.int .i64 (-7), .int .i64 (-8)] 56 (0, 0))) := ⟨h2_⟩
   have n3_ : Aside0 (Below w.heap.size w w32) := ⟨h3_⟩
   clear BK276
   clear HB
   clear h0_ h1_ h2_ h3_
   have HO279 := n0_
   have HO282 := n1_
   have BK276 := n2_
   have HB := n3_
   clear n0_ n1_ n2_ n3_
   have hHeld : w32.cell? ⟨gb276, 0, none⟩ = some (.int .i64 (-7)) ∧ w32.cell? ⟨gb276, 1, none⟩ = some (.int .i64 (-8)) := hS_
   obtain ⟨Ao34, co34, eo34⟩ := Kd.R_slice HO282.out
   (first | subst eo34 | (injection eo34 with f1_ f2_ f3_; have f4_ := f1_.symm; have f5_ := f3_.symm; clear f1_ f2_ f3_; subst f4_; subst f5_))
   refine norm_ (a' := ?_) ?_ ?_
   rotate_left
   ·simp only [putAll, Act.put, List.setIfInBounds_toArray, List.set_cons_zero, List.set_cons_succ]
    rfl
   refine two_ (i := 5) (j := 10) (Ni := some 25) (Nj := some 30) #[true, true, true, true, true, true, true, false, true, true, false, false, false, false] #[true, true, true, true, true, false, true, false, true, true, true, false, false, false] rfl rfl rfl rfl (two_of HT_.out (by kernel_rfl)) (by decide) (by decide) (fun K hK => ?_) (fun K hK => ?_)
   ·skip
    refine Kd.R_append_rows_step k56 (w0 := w) w.heap.size (by rfl) (.tmp 21) (.tmp 24) 32 56 (.agg #[(.int .i64 0), (.int .i64 0)]) 16 rfl Try.underlying32 info56 rfl (by decide) (by omega) v278 t277 y280 _ _ _ (fun k_ => some k_ ≠ (.slice Ao34 y280.length co34 : Value).ownBlock ∧ k_ ≠ gb276) (fun _ => False) rfl rfl ?aO ?aR (fun _ _ h => h) (fun _ h => h.elim) ?aF ?aB ?aS ?aL ?_
    (case aR => repeat (first | exact (Kd.R_reads' HO282.out).2.2 | (with_reducible refine Kd.C_alloc ?_ _) | (with_reducible refine Kd.C_drewN ?_ _) | (with_reducible refine Kd.C_drew ?_)))
    (case aB => exact (by repeat (first | (with_reducible first | exact HB.out | apply zD | apply zE | apply zF | refine below_set ?_ GE276.out) | exact HB.out)))
    (case aF => exact (fun k_ hk => ⟨Kd.fresh' (Kd.R_lt (by (with_reducible repeat (first | apply zA | apply zB | apply zC)); exact HO282.out)) k_ hk, Kd.freshB (g := gb276) (o := .cells #[.int .i64 (-7), .int .i64 (-8)] 56 (0, 0)) (by (with_reducible repeat (first | refine blk_drewN ?_ _ | refine blk_drew ?_ | refine blk_alloc ?_ _)); exact BK276.out) k_ hk⟩))
    (case aO => exact (by (with_reducible repeat (first | apply zA | apply zB | apply zC)); exact HO279.out))
    (case aS => exact (below_size (by repeat (first | (with_reducible first | exact HB.out | apply zD | apply zE | apply zF | refine below_set ?_ GE276.out) | exact HB.out))))
    (case aL => have := LMc6.out; omega)
    intro v284 w33 ho hb hg hat
    rw [← Ny283.out] at ho
    have n0_ := Aside0.mk (blk_grown (g := gb276) (o := .cells #[.int .i64 (-7), .int .i64 (-8)] 56 (0, 0)) (by (with_reducible repeat (first | refine blk_drewN ?_ _ | refine blk_drew ?_ | refine blk_alloc ?_ _)); exact BK276.out) hg (Kd.R_away HO279.out (fun _ hk => hk.2)))
    have n1_ := Aside0.mk (Kd.R_after (ok := (fun k_ => k_ ≠ gb276)) (by (with_reducible repeat (first | apply zA | apply zB | apply zC)); exact Kd.R_mono HO282.out (fun _ hk => ⟨hk.2, hk.1⟩)) hg hat)
    have n2_ := Aside0.mk (hb)
    have n3_ := Aside0.mk (ho)
    clear BK276
    clear HO282
    clear HB
    clear HO279
    have BK276 := n0_
    have HO282 := n1_
    have HB := n2_
    have HO285 := n3_
    clear n0_ n1_ n2_ n3_
    clear ho hb hg hat
    refine hK.out _ _ ⟨(blk_cell BK276.out 0).trans rfl, (blk_cell BK276.out 1).trans rfl⟩ (fun hHeld => ?_)
    clear hK K
    refine norm_ (a' := ?_) ?_ ?_
    rotate_left
    ·show Act.put _ (some 25) _ = _
     simp only [Act.put, List.setIfInBounds_toArray, List.set_cons_zero, List.set_cons_succ, i64_w, i32_w]
     rfl
    exact norm_ (by first | (simp only [putAll, Act.put, List.setIfInBounds_toArray, List.set_cons_zero, List.set_cons_succ]; done) | (simp only [putAll, Act.put, List.setIfInBounds_toArray, List.set_cons_zero, List.set_cons_succ]; rfl)) (hJ1_4_5 (v278, .slice Ao34 y280.length co34, v284) _ ⟨hHeld, (by (with_reducible repeat (first | apply zA | apply zB | apply zC)); exact Kd.R_mono HO282.out (fun _ hk => ⟨hk.2, hk.1⟩)), (by (with_reducible repeat (first | apply zA | apply zB | apply zC)); exact HO285.out), (by (with_reducible repeat (first | refine blk_drewN ?_ _ | refine blk_drew ?_ | refine blk_alloc ?_ _)); exact BK276.out), (by repeat (first | (with_reducible first | exact HB.out | apply zD | apply zE | apply zF | refine below_set ?_ GE276.out) | exact HB.out))⟩)
   ·skip
    refine Kd.R_lit_step k56 _ 56 ?hg (N := 30) ?hd (xs := ([(⟨(-7), (-8)⟩ : S56), (⟨(-7), (-8)⟩ : S56)] : List (S56))) (inner := [.int .i64 (-7), .int .i64 (-8), .int .i64 (-7), .int .i64 (-8)]) (ok := fun _ => True) (okp := fun _ => True) ?hr ?hp (fun _ hk => hk) trivial (Below.refl _ _) (Nat.le_refl _) (by simp) ?_; (case hd => rfl); (case hg => rfl); (case hr => first | (go_simp; done) | (go_simp; rfl)); (case hp => exact (Reps.c2 (show Kd.M k56 _ _ _ (⟨(-7), (-8)⟩ : S56) [.int .i64 (-7), .int .i64 (-8)] from (k56_mkM _ _ _ (⟨(-7), (-8)⟩ : S56) )) (Reps.c2 (show Kd.M k56 _ _ _ (⟨(-7), (-8)⟩ : S56) [.int .i64 (-7), .int .i64 (-8)] from (k56_mkM _ _ _ (⟨(-7), (-8)⟩ : S56) )) (Reps.none _ _))))
    intro v290 w33 ho34 hb hg_ hnew_
    clear hg_ hnew_
    (first | rw [← Ny289.out] at ho34 | (simp only [Int.reduceToNat] at ho34; rw [← Ny289.out] at ho34))
    have n0_ := Aside0.mk (Kd.R_elder' (by (with_reducible repeat (first | apply zA | apply zB | apply zC)); exact HO279.out) (Kd.R_base ho34) hb)
    have n1_ := Aside0.mk (Kd.R_elder' (by (with_reducible repeat (first | apply zA | apply zB | apply zC)); exact HO282.out) (Kd.R_base ho34) hb)
    have n2_ := Aside0.mk (Kd.R_lower (Kd.R_newB (Kd.R_new' (Kd.R_new' ho34 (Kd.R_lt (by (with_reducible repeat (first | apply zA | apply zB | apply zC)); exact HO279.out))) (Kd.R_lt (by (with_reducible repeat (first | apply zA | apply zB | apply zC)); exact HO282.out))) (g := gb276) (o := .cells #[.int .i64 (-7), .int .i64 (-8)] 56 (0, 0)) (by (with_reducible repeat (first | refine blk_drewN ?_ _ | refine blk_drew ?_ | refine blk_alloc ?_ _)); exact BK276.out)) (below_size (by repeat (first | (with_reducible first | exact HB.out | apply zD | apply zE | apply zF | refine below_set ?_ GE276.out) | exact HB.out))))
    have n3_ := Aside0.mk (blk_below (g := gb276) (o := .cells #[.int .i64 (-7), .int .i64 (-8)] 56 (0, 0)) (by (with_reducible repeat (first | refine blk_drewN ?_ _ | refine blk_drew ?_ | refine blk_alloc ?_ _)); exact BK276.out) hb)
    have n4_ := Aside0.mk (below_step (by repeat (first | (with_reducible first | exact HB.out | apply zD | apply zE | apply zF | refine below_set ?_ GE276.out) | exact HB.out)) hb)
    clear HO279
    clear HO282
    clear BK276
    clear HB
    have HO279 := n0_
    have HO282 := n1_
    have HO291 := n2_
    have BK276 := n3_
    have HB := n4_
    clear n0_ n1_ n2_ n3_ n4_
    clear hb ho34
    refine hK.out _ _ ⟨(blk_cell BK276.out 0).trans rfl, (blk_cell BK276.out 1).trans rfl⟩ (fun hHeld => ?_)
    clear hK K
    refine norm_ (a' := ?_) ?_ ?_
    rotate_left
    ·show Act.put _ (some 30) _ = _
     simp only [Act.put, List.setIfInBounds_toArray, List.set_cons_zero, List.set_cons_succ, i64_w, i32_w]
     rfl
    exact norm_ (by first | (simp only [putAll, Act.put, List.setIfInBounds_toArray, List.set_cons_zero, List.set_cons_succ]; done) | (simp only [putAll, Act.put, List.setIfInBounds_toArray, List.set_cons_zero, List.set_cons_succ]; rfl)) (hJ1_4_10 (v278, (.slice Ao34 y280.length co34), v290) _ ⟨hHeld, (by (with_reducible repeat (first | apply zA | apply zB | apply zC)); exact Kd.R_mono HO279.out (fun _ hk => ⟨hk.1.1, ⟨hk.2, hk.1.2⟩⟩)), (by (with_reducible repeat (first | apply zA | apply zB | apply zC)); exact Kd.R_mono HO282.out (fun _ hk => ⟨hk.1.1, ⟨hk.2, hk.1.2⟩⟩)), (by (with_reducible repeat (first | apply zA | apply zB | apply zC)); exact Kd.R_mono HO291.out (fun _ hk => ⟨hk.1.1.2, ⟨hk.1.2, hk.2⟩⟩)), (by (with_reducible repeat (first | refine blk_drewN ?_ _ | refine blk_drew ?_ | refine blk_alloc ?_ _)); exact BK276.out), (by repeat (first | (with_reducible first | exact HB.out | apply zD | apply zE | apply zF | refine below_set ?_ GE276.out) | exact HB.out))⟩)
  intro hJ1_4
  refine join_ (σ := Value × Value) 6 #[true, true, true, true, false, false, true, false, true, true, true, false, false, false] (fun s_ => [(21, s_.1), (30, s_.2)]) (fun s_ w' => (w'.cell? ⟨gb276, 0, none⟩ = some (.int .i64 (-7)) ∧ w'.cell? ⟨gb276, 1, none⟩ = some (.int .i64 (-8))) ∧ (Kd.R k56 56 w' w.heap.size (fun k_ => some k_ ≠ (s_.2 : Value).ownBlock ∧ k_ ≠ gb276) s_.1 t277) ∧ (Kd.R k56 56 w' w.heap.size (fun k_ => some k_ ≠ (s_.1 : Value).ownBlock ∧ k_ ≠ gb276) s_.2 y289) ∧ (w'.heap[gb276]? = some (.cells #[.int .i64 (-7), .int .i64 (-8)] 56 (0, 0))) ∧ (Below w.heap.size w w')) ?_ ?_
  rotate_left
  rotate_left
  ·skip
   rintro ⟨v278, v290⟩ w32 ⟨hS_, h0_, h1_, h2_, h3_⟩
   have n0_ : Aside0 (Kd.R k56 56 w32 w.heap.size (fun k_ => some k_ ≠ (v290 : Value).ownBlock ∧ k_ ≠ gb276) v278 t277) := ⟨h0_⟩
   have n1_ : Aside0 (Kd.R k56 56 w32 w.heap.size (fun k_ => some k_ ≠ (v278 : Value).ownBlock ∧ k_ ≠ gb276) v290 y289) := ⟨h1_⟩
   have n2_ : Aside0 (w32.heap[gb276]? = some (.cells #[.int .i64 (-7), .int .i64 (-8)] 56 (0, 0))) := ⟨h2_⟩
   have n3_ : Aside0 (Below w.heap.size w w32) := ⟨h3_⟩
   clear BK276
   clear HB
   clear h0_ h1_ h2_ h3_
   have HO279 := n0_
   have HO291 := n1_
   have BK276 := n2_
   have HB := n3_
   clear n0_ n1_ n2_ n3_
   have hHeld : w32.cell? ⟨gb276, 0, none⟩ = some (.int .i64 (-7)) ∧ w32.cell? ⟨gb276, 1, none⟩ = some (.int .i64 (-8)) := hS_
   refine norm_ (a' := ?_) ?_ ?_
   rotate_left
   ·simp only [putAll, Act.put, List.setIfInBounds_toArray, List.set_cons_zero, List.set_cons_succ]
    rfl
   refine one_ (i := 4) (N := some 24) #[true, true, true, true, true, false, true, false, true, true, true, false, false, false] rfl rfl (one_of HT_.out (by kernel_rfl)) (by decide) (fun K hK => ?_)
   refine Kd.R_lit_step k56 _ 56 ?hg (N := 24) ?hd (xs := ([(⟨(-7), (-8)⟩ : S56), (⟨(-7), (-8)⟩ : S56)] : List (S56))) (inner := [.int .i64 (-7), .int .i64 (-8), .int .i64 (-7), .int .i64 (-8)]) (ok := fun _ => True) (okp := fun _ => True) ?hr ?hp (fun _ hk => hk) trivial (Below.refl _ _) (Nat.le_refl _) (by simp) ?_; (case hd => rfl); (case hg => rfl); (case hr => first | (go_simp; done) | (go_simp; rfl)); (case hp => exact (Reps.c2 (show Kd.M k56 _ _ _ (⟨(-7), (-8)⟩ : S56) [.int .i64 (-7), .int .i64 (-8)] from (k56_mkM _ _ _ (⟨(-7), (-8)⟩ : S56) )) (Reps.c2 (show Kd.M k56 _ _ _ (⟨(-7), (-8)⟩ : S56) [.int .i64 (-7), .int .i64 (-8)] from (k56_mkM _ _ _ (⟨(-7), (-8)⟩ : S56) )) (Reps.none _ _))))
   intro v281 w33 ho34 hb hg_ hnew_
   clear hg_ hnew_
   (first | rw [← Ny280.out] at ho34 | (simp only [Int.reduceToNat] at ho34; rw [← Ny280.out] at ho34))
   have n0_ := Aside0.mk (Kd.R_elder' (by (with_reducible repeat (first | apply zA | apply zB | apply zC)); exact HO279.out) (Kd.R_base ho34) hb)
   have n1_ := Aside0.mk (Kd.R_elder' (by (with_reducible repeat (first | apply zA | apply zB | apply zC)); exact HO291.out) (Kd.R_base ho34) hb)
   have n2_ := Aside0.mk (Kd.R_lower (Kd.R_newB (Kd.R_new' (Kd.R_new' ho34 (Kd.R_lt (by (with_reducible repeat (first | apply zA | apply zB | apply zC)); exact HO279.out))) (Kd.R_lt (by (with_reducible repeat (first | apply zA | apply zB | apply zC)); exact HO291.out))) (g := gb276) (o := .cells #[.int .i64 (-7), .int .i64 (-8)] 56 (0, 0)) (by (with_reducible repeat (first | refine blk_drewN ?_ _ | refine blk_drew ?_ | refine blk_alloc ?_ _)); exact BK276.out)) (below_size (by repeat (first | (with_reducible first | exact HB.out | apply zD | apply zE | apply zF | refine below_set ?_ GE276.out) | exact HB.out))))
   have n3_ := Aside0.mk (blk_below (g := gb276) (o := .cells #[.int .i64 (-7), .int .i64 (-8)] 56 (0, 0)) (by (with_reducible repeat (first | refine blk_drewN ?_ _ | refine blk_drew ?_ | refine blk_alloc ?_ _)); exact BK276.out) hb)
   have n4_ := Aside0.mk (below_step (by repeat (first | (with_reducible first | exact HB.out | apply zD | apply zE | apply zF | refine below_set ?_ GE276.out) | exact HB.out)) hb)
   clear HO279
   clear HO291
   clear BK276
   clear HB
   have HO279 := n0_
   have HO291 := n1_
   have HO282 := n2_
   have BK276 := n3_
   have HB := n4_
   clear n0_ n1_ n2_ n3_ n4_
   clear hb ho34
   refine hK.out _ _ ⟨(blk_cell BK276.out 0).trans rfl, (blk_cell BK276.out 1).trans rfl⟩ (fun hHeld => ?_)
   clear hK K
   refine norm_ (a' := ?_) ?_ ?_
   rotate_left
   ·show Act.put _ (some 24) _ = _
    simp only [Act.put, List.setIfInBounds_toArray, List.set_cons_zero, List.set_cons_succ, i64_w, i32_w]
    rfl
   exact norm_ (by first | (simp only [putAll, Act.put, List.setIfInBounds_toArray, List.set_cons_zero, List.set_cons_succ]; done) | (simp only [putAll, Act.put, List.setIfInBounds_toArray, List.set_cons_zero, List.set_cons_succ]; rfl)) (hJ1_4_10 (v278, v281, v290) _ ⟨hHeld, (by (with_reducible repeat (first | apply zA | apply zB | apply zC)); exact Kd.R_mono HO279.out (fun _ hk => ⟨hk.2, ⟨hk.1.1, hk.1.2⟩⟩)), (by (with_reducible repeat (first | apply zA | apply zB | apply zC)); exact Kd.R_mono HO282.out (fun _ hk => ⟨hk.1.1.2, ⟨hk.1.2, hk.2⟩⟩)), (by (with_reducible repeat (first | apply zA | apply zB | apply zC)); exact Kd.R_mono HO291.out (fun _ hk => ⟨hk.1.1, ⟨hk.2, hk.1.2⟩⟩)), (by (with_reducible repeat (first | refine blk_drewN ?_ _ | refine blk_drew ?_ | refine blk_alloc ?_ _)); exact BK276.out), (by repeat (first | (with_reducible first | exact HB.out | apply zD | apply zE | apply zF | refine below_set ?_ GE276.out) | exact HB.out))⟩)
  intro hJ1_10
  refine join_ (σ := Value × Value) 6 #[true, false, true, true, true, false, true, false, true, true, true, false, false, false] (fun s_ => [(24, s_.1), (30, s_.2)]) (fun s_ w' => (w'.cell? ⟨gb276, 0, none⟩ = some (.int .i64 (-7)) ∧ w'.cell? ⟨gb276, 1, none⟩ = some (.int .i64 (-8))) ∧ (Kd.R k56 56 w' w.heap.size (fun k_ => some k_ ≠ (s_.2 : Value).ownBlock ∧ k_ ≠ gb276) s_.1 y280) ∧ (Kd.R k56 56 w' w.heap.size (fun k_ => some k_ ≠ (s_.1 : Value).ownBlock ∧ k_ ≠ gb276) s_.2 y289) ∧ (w'.heap[gb276]? = some (.cells #[.int .i64 (-7), .int .i64 (-8)] 56 (0, 0))) ∧ (Below w.heap.size w w')) ?_ ?_
  rotate_left
  rotate_left
  ·skip
   rintro ⟨v281, v290⟩ w33 ⟨hS_, h0_, h1_, h2_, h3_⟩
   have n0_ : Aside0 (Kd.R k56 56 w33 w.heap.size (fun k_ => some k_ ≠ (v290 : Value).ownBlock ∧ k_ ≠ gb276) v281 y280) := ⟨h0_⟩
   have n1_ : Aside0 (Kd.R k56 56 w33 w.heap.size (fun k_ => some k_ ≠ (v281 : Value).ownBlock ∧ k_ ≠ gb276) v290 y289) := ⟨h1_⟩
   have n2_ : Aside0 (w33.heap[gb276]? = some (.cells #[.int .i64 (-7), .int .i64 (-8)] 56 (0, 0))) := ⟨h2_⟩
   have n3_ : Aside0 (Below w.heap.size w w33) := ⟨h3_⟩
   clear BK276
   clear HB
   clear h0_ h1_ h2_ h3_
   have HO282 := n0_
   have HO291 := n1_
   have BK276 := n2_
   have HB := n3_
   clear n0_ n1_ n2_ n3_
   have hHeld : w33.cell? ⟨gb276, 0, none⟩ = some (.int .i64 (-7)) ∧ w33.cell? ⟨gb276, 1, none⟩ = some (.int .i64 (-8)) := hS_
   refine norm_ (a' := ?_) ?_ ?_
   rotate_left
   ·simp only [putAll, Act.put, List.setIfInBounds_toArray, List.set_cons_zero, List.set_cons_succ]
    rfl
   refine one_ (i := 1) (N := some 21) #[true, true, true, true, true, false, true, false, true, true, true, false, false, false] rfl rfl (one_of HT_.out (by kernel_rfl)) (by decide) (fun K hK => ?_)
   refine goes_ Try.func25 (by kernel_rfl) rfl #[.slice A0 l0.length c0] (by rfl) rfl rfl (by (try simp only [List.map_toArray, List.map_cons, List.map_nil]); first | done | rfl | (simp only [List.length_drop, List.length_take]; rfl)) ?_
   with_reducible refine (leadtraillaw04_copied.calls _ _ l0 t277 _ ?side1 ?side2 A5.out).mono ?_
   (case side1 => repeat (first | exact (Kd.C_below HR0.out HB.out) | (with_reducible refine Kd.C_alloc ?_ _) | (with_reducible refine Kd.C_drewN ?_ _) | (with_reducible refine Kd.C_drew ?_)))
   (case side2 => exact HC0.out)
   rintro e w34 ⟨v278, rfl, ho0, hb⟩
   refine ⟨_, rfl, ?_⟩
   have n0_ := Aside0.mk (Kd.R_elder' (by (with_reducible repeat (first | apply zA | apply zB | apply zC)); exact HO282.out) (Kd.R_base ho0) hb)
   have n1_ := Aside0.mk (Kd.R_elder' (by (with_reducible repeat (first | apply zA | apply zB | apply zC)); exact HO291.out) (Kd.R_base ho0) hb)
   have n2_ := Aside0.mk (Kd.R_lower (Kd.R_newB (Kd.R_new' (Kd.R_new' ho0 (Kd.R_lt (by (with_reducible repeat (first | apply zA | apply zB | apply zC)); exact HO282.out))) (Kd.R_lt (by (with_reducible repeat (first | apply zA | apply zB | apply zC)); exact HO291.out))) (g := gb276) (o := .cells #[.int .i64 (-7), .int .i64 (-8)] 56 (0, 0)) (by (with_reducible repeat (first | refine blk_drewN ?_ _ | refine blk_drew ?_ | refine blk_alloc ?_ _)); exact BK276.out)) (below_size (by repeat (first | (with_reducible first | exact HB.out | apply zD | apply zE | apply zF | refine below_set ?_ GE276.out) | exact HB.out))))
   have n3_ := Aside0.mk (blk_below (g := gb276) (o := .cells #[.int .i64 (-7), .int .i64 (-8)] 56 (0, 0)) (by (with_reducible repeat (first | refine blk_drewN ?_ _ | refine blk_drew ?_ | refine blk_alloc ?_ _)); exact BK276.out) hb)
   have n4_ := Aside0.mk (below_step (by repeat (first | (with_reducible first | exact HB.out | apply zD | apply zE | apply zF | refine below_set ?_ GE276.out) | exact HB.out)) hb)
   clear HO282
   clear HO291
   clear BK276
   clear HB
   have HO282 := n0_
   have HO291 := n1_
   have HO279 := n2_
   have BK276 := n3_
   have HB := n4_
   clear n0_ n1_ n2_ n3_ n4_
   (try clear hb)
   (try clear hb2)
   (try clear hk)
   (try clear hi)
   (try clear ho0)
   refine hK.out _ _ ⟨(blk_cell BK276.out 0).trans rfl, (blk_cell BK276.out 1).trans rfl⟩ (fun hHeld => ?_)
   clear hK K
   refine norm_ (a' := ?_) ?_ ?_
   rotate_left
   ·show Act.put _ (some 21) _ = _
    simp only [Act.put, List.setIfInBounds_toArray, List.set_cons_zero, List.set_cons_succ, i64_w, i32_w]
    rfl
   exact norm_ (by first | (simp only [putAll, Act.put, List.setIfInBounds_toArray, List.set_cons_zero, List.set_cons_succ]; done) | (simp only [putAll, Act.put, List.setIfInBounds_toArray, List.set_cons_zero, List.set_cons_succ]; rfl)) (hJ1_4_10 (v278, v281, v290) _ ⟨hHeld, (by (with_reducible repeat (first | apply zA | apply zB | apply zC)); exact Kd.R_mono HO279.out (fun _ hk => ⟨hk.1.1.2, ⟨hk.1.2, hk.2⟩⟩)), (by (with_reducible repeat (first | apply zA | apply zB | apply zC)); exact Kd.R_mono HO282.out (fun _ hk => ⟨hk.2, ⟨hk.1.1, hk.1.2⟩⟩)), (by (with_reducible repeat (first | apply zA | apply zB | apply zC)); exact Kd.R_mono HO291.out (fun _ hk => ⟨hk.2, ⟨hk.1.1, hk.1.2⟩⟩)), (by (with_reducible repeat (first | refine blk_drewN ?_ _ | refine blk_drew ?_ | refine blk_alloc ?_ _)); exact BK276.out), (by repeat (first | (with_reducible first | exact HB.out | apply zD | apply zE | apply zF | refine below_set ?_ GE276.out) | exact HB.out))⟩)
  intro hJ4_10
  refine join_ (σ := Value) 7 #[true, true, true, true, false, false, true, false, true, true, false, false, false, false] (fun s_ => [(21, s_)]) (fun s_ w' => (w'.cell? ⟨gb276, 0, none⟩ = some (.int .i64 (-7)) ∧ w'.cell? ⟨gb276, 1, none⟩ = some (.int .i64 (-8))) ∧ (Kd.R k56 56 w' w.heap.size (fun k_ => k_ ≠ gb276) s_ t277) ∧ (w'.heap[gb276]? = some (.cells #[.int .i64 (-7), .int .i64 (-8)] 56 (0, 0))) ∧ (Below w.heap.size w w')) ?_ ?_
  rotate_left
  rotate_left
  ·skip
   rintro v278 w30 ⟨hS_, h0_, h1_, h2_⟩
   have n0_ : Aside0 (Kd.R k56 56 w30 w.heap.size (fun k_ => k_ ≠ gb276) v278 t277) := ⟨h0_⟩
   have n1_ : Aside0 (w30.heap[gb276]? = some (.cells #[.int .i64 (-7), .int .i64 (-8)] 56 (0, 0))) := ⟨h1_⟩
   have n2_ : Aside0 (Below w.heap.size w w30) := ⟨h2_⟩
   clear BK276
   clear HB
   clear h0_ h1_ h2_
   have HO279 := n0_
   have BK276 := n1_
   have HB := n2_
   clear n0_ n1_ n2_
   have hHeld : w30.cell? ⟨gb276, 0, none⟩ = some (.int .i64 (-7)) ∧ w30.cell? ⟨gb276, 1, none⟩ = some (.int .i64 (-8)) := hS_
   refine norm_ (a' := ?_) ?_ ?_
   rotate_left
   ·simp only [putAll, Act.put, List.setIfInBounds_toArray, List.set_cons_zero, List.set_cons_succ]
    rfl
   refine two_ (i := 4) (j := 10) (Ni := some 24) (Nj := some 30) #[true, true, true, true, true, false, true, false, true, true, false, false, false, false] #[true, true, true, true, false, false, true, false, true, true, true, false, false, false] rfl rfl rfl rfl (two_of HT_.out (by kernel_rfl)) (by decide) (by decide) (fun K hK => ?_) (fun K hK => ?_)
   ·skip
    refine Kd.R_lit_step k56 _ 56 ?hg (N := 24) ?hd (xs := ([(⟨(-7), (-8)⟩ : S56), (⟨(-7), (-8)⟩ : S56)] : List (S56))) (inner := [.int .i64 (-7), .int .i64 (-8), .int .i64 (-7), .int .i64 (-8)]) (ok := fun _ => True) (okp := fun _ => True) ?hr ?hp (fun _ hk => hk) trivial (Below.refl _ _) (Nat.le_refl _) (by simp) ?_; (case hd => rfl); (case hg => rfl); (case hr => first | (go_simp; done) | (go_simp; rfl)); (case hp => exact (Reps.c2 (show Kd.M k56 _ _ _ (⟨(-7), (-8)⟩ : S56) [.int .i64 (-7), .int .i64 (-8)] from (k56_mkM _ _ _ (⟨(-7), (-8)⟩ : S56) )) (Reps.c2 (show Kd.M k56 _ _ _ (⟨(-7), (-8)⟩ : S56) [.int .i64 (-7), .int .i64 (-8)] from (k56_mkM _ _ _ (⟨(-7), (-8)⟩ : S56) )) (Reps.none _ _))))
    intro v281 w31 ho32 hb hg_ hnew_
    clear hg_ hnew_
    (first | rw [← Ny280.out] at ho32 | (simp only [Int.reduceToNat] at ho32; rw [← Ny280.out] at ho32))
    have n0_ := Aside0.mk (Kd.R_elder' (by (with_reducible repeat (first | apply zA | apply zB | apply zC)); exact HO279.out) (Kd.R_base ho32) hb)
    have n1_ := Aside0.mk (Kd.R_lower (Kd.R_newB (Kd.R_new' ho32 (Kd.R_lt (by (with_reducible repeat (first | apply zA | apply zB | apply zC)); exact HO279.out))) (g := gb276) (o := .cells #[.int .i64 (-7), .int .i64 (-8)] 56 (0, 0)) (by (with_reducible repeat (first | refine blk_drewN ?_ _ | refine blk_drew ?_ | refine blk_alloc ?_ _)); exact BK276.out)) (below_size (by repeat (first | (with_reducible first | exact HB.out | apply zD | apply zE | apply zF | refine below_set ?_ GE276.out) | exact HB.out))))
    have n2_ := Aside0.mk (blk_below (g := gb276) (o := .cells #[.int .i64 (-7), .int .i64 (-8)] 56 (0, 0)) (by (with_reducible repeat (first | refine blk_drewN ?_ _ | refine blk_drew ?_ | refine blk_alloc ?_ _)); exact BK276.out) hb)
    have n3_ := Aside0.mk (below_step (by repeat (first | (with_reducible first | exact HB.out | apply zD | apply zE | apply zF | refine below_set ?_ GE276.out) | exact HB.out)) hb)
    clear HO279
    clear BK276
    clear HB
    have HO279 := n0_
    have HO282 := n1_
    have BK276 := n2_
    have HB := n3_
    clear n0_ n1_ n2_ n3_
    clear hb ho32
    refine hK.out _ _ ⟨(blk_cell BK276.out 0).trans rfl, (blk_cell BK276.out 1).trans rfl⟩ (fun hHeld => ?_)
    clear hK K
    refine norm_ (a' := ?_) ?_ ?_
    rotate_left
    ·show Act.put _ (some 24) _ = _
     simp only [Act.put, List.setIfInBounds_toArray, List.set_cons_zero, List.set_cons_succ, i64_w, i32_w]
     rfl
    exact norm_ (by first | (simp only [putAll, Act.put, List.setIfInBounds_toArray, List.set_cons_zero, List.set_cons_succ]; done) | (simp only [putAll, Act.put, List.setIfInBounds_toArray, List.set_cons_zero, List.set_cons_succ]; rfl)) (hJ1_4 (v278, v281) _ ⟨hHeld, (by (with_reducible repeat (first | apply zA | apply zB | apply zC)); exact Kd.R_mono HO279.out (fun _ hk => ⟨hk.2, hk.1⟩)), (by (with_reducible repeat (first | apply zA | apply zB | apply zC)); exact Kd.R_mono HO282.out (fun _ hk => ⟨hk.1.2, hk.2⟩)), (by (with_reducible repeat (first | refine blk_drewN ?_ _ | refine blk_drew ?_ | refine blk_alloc ?_ _)); exact BK276.out), (by repeat (first | (with_reducible first | exact HB.out | apply zD | apply zE | apply zF | refine below_set ?_ GE276.out) | exact HB.out))⟩)
   ·skip
    refine Kd.R_lit_step k56 _ 56 ?hg (N := 30) ?hd (xs := ([(⟨(-7), (-8)⟩ : S56), (⟨(-7), (-8)⟩ : S56)] : List (S56))) (inner := [.int .i64 (-7), .int .i64 (-8), .int .i64 (-7), .int .i64 (-8)]) (ok := fun _ => True) (okp := fun _ => True) ?hr ?hp (fun _ hk => hk) trivial (Below.refl _ _) (Nat.le_refl _) (by simp) ?_; (case hd => rfl); (case hg => rfl); (case hr => first | (go_simp; done) | (go_simp; rfl)); (case hp => exact (Reps.c2 (show Kd.M k56 _ _ _ (⟨(-7), (-8)⟩ : S56) [.int .i64 (-7), .int .i64 (-8)] from (k56_mkM _ _ _ (⟨(-7), (-8)⟩ : S56) )) (Reps.c2 (show Kd.M k56 _ _ _ (⟨(-7), (-8)⟩ : S56) [.int .i64 (-7), .int .i64 (-8)] from (k56_mkM _ _ _ (⟨(-7), (-8)⟩ : S56) )) (Reps.none _ _))))
    intro v290 w31 ho32 hb hg_ hnew_
    clear hg_ hnew_
    (first | rw [← Ny289.out] at ho32 | (simp only [Int.reduceToNat] at ho32; rw [← Ny289.out] at ho32))
    have n0_ := Aside0.mk (Kd.R_elder' (by (with_reducible repeat (first | apply zA | apply zB | apply zC)); exact HO279.out) (Kd.R_base ho32) hb)
    have n1_ := Aside0.mk (Kd.R_lower (Kd.R_newB (Kd.R_new' ho32 (Kd.R_lt (by (with_reducible repeat (first | apply zA | apply zB | apply zC)); exact HO279.out))) (g := gb276) (o := .cells #[.int .i64 (-7), .int .i64 (-8)] 56 (0, 0)) (by (with_reducible repeat (first | refine blk_drewN ?_ _ | refine blk_drew ?_ | refine blk_alloc ?_ _)); exact BK276.out)) (below_size (by repeat (first | (with_reducible first | exact HB.out | apply zD | apply zE | apply zF | refine below_set ?_ GE276.out) | exact HB.out))))
    have n2_ := Aside0.mk (blk_below (g := gb276) (o := .cells #[.int .i64 (-7), .int .i64 (-8)] 56 (0, 0)) (by (with_reducible repeat (first | refine blk_drewN ?_ _ | refine blk_drew ?_ | refine blk_alloc ?_ _)); exact BK276.out) hb)
    have n3_ := Aside0.mk (below_step (by repeat (first | (with_reducible first | exact HB.out | apply zD | apply zE | apply zF | refine below_set ?_ GE276.out) | exact HB.out)) hb)
    clear HO279
    clear BK276
    clear HB
    have HO279 := n0_
    have HO291 := n1_
    have BK276 := n2_
    have HB := n3_
    clear n0_ n1_ n2_ n3_
    clear hb ho32
    refine hK.out _ _ ⟨(blk_cell BK276.out 0).trans rfl, (blk_cell BK276.out 1).trans rfl⟩ (fun hHeld => ?_)
    clear hK K
    refine norm_ (a' := ?_) ?_ ?_
    rotate_left
    ·show Act.put _ (some 30) _ = _
     simp only [Act.put, List.setIfInBounds_toArray, List.set_cons_zero, List.set_cons_succ, i64_w, i32_w]
     rfl
    exact norm_ (by first | (simp only [putAll, Act.put, List.setIfInBounds_toArray, List.set_cons_zero, List.set_cons_succ]; done) | (simp only [putAll, Act.put, List.setIfInBounds_toArray, List.set_cons_zero, List.set_cons_succ]; rfl)) (hJ1_10 (v278, v290) _ ⟨hHeld, (by (with_reducible repeat (first | apply zA | apply zB | apply zC)); exact Kd.R_mono HO279.out (fun _ hk => ⟨hk.2, hk.1⟩)), (by (with_reducible repeat (first | apply zA | apply zB | apply zC)); exact Kd.R_mono HO291.out (fun _ hk => ⟨hk.1.2, hk.2⟩)), (by (with_reducible repeat (first | refine blk_drewN ?_ _ | refine blk_drew ?_ | refine blk_alloc ?_ _)); exact BK276.out), (by repeat (first | (with_reducible first | exact HB.out | apply zD | apply zE | apply zF | refine below_set ?_ GE276.out) | exact HB.out))⟩)
  intro hJ1
  refine join_ (σ := Value) 7 #[true, false, true, true, true, false, true, false, true, true, false, false, false, false] (fun s_ => [(24, s_)]) (fun s_ w' => (w'.cell? ⟨gb276, 0, none⟩ = some (.int .i64 (-7)) ∧ w'.cell? ⟨gb276, 1, none⟩ = some (.int .i64 (-8))) ∧ (Kd.R k56 56 w' w.heap.size (fun k_ => k_ ≠ gb276) s_ y280) ∧ (w'.heap[gb276]? = some (.cells #[.int .i64 (-7), .int .i64 (-8)] 56 (0, 0))) ∧ (Below w.heap.size w w')) ?_ ?_
  rotate_left
  rotate_left
  ·skip
   rintro v281 w31 ⟨hS_, h0_, h1_, h2_⟩
   have n0_ : Aside0 (Kd.R k56 56 w31 w.heap.size (fun k_ => k_ ≠ gb276) v281 y280) := ⟨h0_⟩
   have n1_ : Aside0 (w31.heap[gb276]? = some (.cells #[.int .i64 (-7), .int .i64 (-8)] 56 (0, 0))) := ⟨h1_⟩
   have n2_ : Aside0 (Below w.heap.size w w31) := ⟨h2_⟩
   clear BK276
   clear HB
   clear h0_ h1_ h2_
   have HO282 := n0_
   have BK276 := n1_
   have HB := n2_
   clear n0_ n1_ n2_
   have hHeld : w31.cell? ⟨gb276, 0, none⟩ = some (.int .i64 (-7)) ∧ w31.cell? ⟨gb276, 1, none⟩ = some (.int .i64 (-8)) := hS_
   refine norm_ (a' := ?_) ?_ ?_
   rotate_left
   ·simp only [putAll, Act.put, List.setIfInBounds_toArray, List.set_cons_zero, List.set_cons_succ]
    rfl
   refine two_ (i := 1) (j := 10) (Ni := some 21) (Nj := some 30) #[true, true, true, true, true, false, true, false, true, true, false, false, false, false] #[true, false, true, true, true, false, true, false, true, true, true, false, false, false] rfl rfl rfl rfl (two_of HT_.out (by kernel_rfl)) (by decide) (by decide) (fun K hK => ?_) (fun K hK => ?_)
   ·skip
    refine goes_ Try.func25 (by kernel_rfl) rfl #[.slice A0 l0.length c0] (by rfl) rfl rfl (by (try simp only [List.map_toArray, List.map_cons, List.map_nil]); first | done | rfl | (simp only [List.length_drop, List.length_take]; rfl)) ?_
    with_reducible refine (leadtraillaw04_copied.calls _ _ l0 t277 _ ?side1 ?side2 A5.out).mono ?_
    (case side1 => repeat (first | exact (Kd.C_below HR0.out HB.out) | (with_reducible refine Kd.C_alloc ?_ _) | (with_reducible refine Kd.C_drewN ?_ _) | (with_reducible refine Kd.C_drew ?_)))
    (case side2 => exact HC0.out)
    rintro e w32 ⟨v278, rfl, ho0, hb⟩
    refine ⟨_, rfl, ?_⟩
    have n0_ := Aside0.mk (Kd.R_elder' (by (with_reducible repeat (first | apply zA | apply zB | apply zC)); exact HO282.out) (Kd.R_base ho0) hb)
    have n1_ := Aside0.mk (Kd.R_lower (Kd.R_newB (Kd.R_new' ho0 (Kd.R_lt (by (with_reducible repeat (first | apply zA | apply zB | apply zC)); exact HO282.out))) (g := gb276) (o := .cells #[.int .i64 (-7), .int .i64 (-8)] 56 (0, 0)) (by (with_reducible repeat (first | refine blk_drewN ?_ _ | refine blk_drew ?_ | refine blk_alloc ?_ _)); exact BK276.out)) (below_size (by repeat (first | (with_reducible first | exact HB.out | apply zD | apply zE | apply zF | refine below_set ?_ GE276.out) | exact HB.out))))
    have n2_ := Aside0.mk (blk_below (g := gb276) (o := .cells #[.int .i64 (-7), .int .i64 (-8)] 56 (0, 0)) (by (with_reducible repeat (first | refine blk_drewN ?_ _ | refine blk_drew ?_ | refine blk_alloc ?_ _)); exact BK276.out) hb)
    have n3_ := Aside0.mk (below_step (by repeat (first | (with_reducible first | exact HB.out | apply zD | apply zE | apply zF | refine below_set ?_ GE276.out) | exact HB.out)) hb)
    clear HO282
    clear BK276
    clear HB
    have HO282 := n0_
    have HO279 := n1_
    have BK276 := n2_
    have HB := n3_
    clear n0_ n1_ n2_ n3_
    (try clear hb)
    (try clear hb2)
    (try clear hk)
    (try clear hi)
    (try clear ho0)
    refine hK.out _ _ ⟨(blk_cell BK276.out 0).trans rfl, (blk_cell BK276.out 1).trans rfl⟩ (fun hHeld => ?_)
    clear hK K
    refine norm_ (a' := ?_) ?_ ?_
    rotate_left
    ·show Act.put _ (some 21) _ = _
     simp only [Act.put, List.setIfInBounds_toArray, List.set_cons_zero, List.set_cons_succ, i64_w, i32_w]
     rfl
    exact norm_ (by first | (simp only [putAll, Act.put, List.setIfInBounds_toArray, List.set_cons_zero, List.set_cons_succ]; done) | (simp only [putAll, Act.put, List.setIfInBounds_toArray, List.set_cons_zero, List.set_cons_succ]; rfl)) (hJ1_4 (v278, v281) _ ⟨hHeld, (by (with_reducible repeat (first | apply zA | apply zB | apply zC)); exact Kd.R_mono HO279.out (fun _ hk => ⟨hk.1.2, hk.2⟩)), (by (with_reducible repeat (first | apply zA | apply zB | apply zC)); exact Kd.R_mono HO282.out (fun _ hk => ⟨hk.2, hk.1⟩)), (by (with_reducible repeat (first | refine blk_drewN ?_ _ | refine blk_drew ?_ | refine blk_alloc ?_ _)); exact BK276.out), (by repeat (first | (with_reducible first | exact HB.out | apply zD | apply zE | apply zF | refine below_set ?_ GE276.out) | exact HB.out))⟩)
   ·skip
    refine Kd.R_lit_step k56 _ 56 ?hg (N := 30) ?hd (xs := ([(⟨(-7), (-8)⟩ : S56), (⟨(-7), (-8)⟩ : S56)] : List (S56))) (inner := [.int .i64 (-7), .int .i64 (-8), .int .i64 (-7), .int .i64 (-8)]) (ok := fun _ => True) (okp := fun _ => True) ?hr ?hp (fun _ hk => hk) trivial (Below.refl _ _) (Nat.le_refl _) (by simp) ?_; (case hd => rfl); (case hg => rfl); (case hr => first | (go_simp; done) | (go_simp; rfl)); (case hp => exact (Reps.c2 (show Kd.M k56 _ _ _ (⟨(-7), (-8)⟩ : S56) [.int .i64 (-7), .int .i64 (-8)] from (k56_mkM _ _ _ (⟨(-7), (-8)⟩ : S56) )) (Reps.c2 (show Kd.M k56 _ _ _ (⟨(-7), (-8)⟩ : S56) [.int .i64 (-7), .int .i64 (-8)] from (k56_mkM _ _ _ (⟨(-7), (-8)⟩ : S56) )) (Reps.none _ _))))
    intro v290 w32 ho33 hb hg_ hnew_
    clear hg_ hnew_
    (first | rw [← Ny289.out] at ho33 | (simp only [Int.reduceToNat] at ho33; rw [← Ny289.out] at ho33))
    have n0_ := Aside0.mk (Kd.R_elder' (by (with_reducible repeat (first | apply zA | apply zB | apply zC)); exact HO282.out) (Kd.R_base ho33) hb)
    have n1_ := Aside0.mk (Kd.R_lower (Kd.R_newB (Kd.R_new' ho33 (Kd.R_lt (by (with_reducible repeat (first | apply zA | apply zB | apply zC)); exact HO282.out))) (g := gb276) (o := .cells #[.int .i64 (-7), .int .i64 (-8)] 56 (0, 0)) (by (with_reducible repeat (first | refine blk_drewN ?_ _ | refine blk_drew ?_ | refine blk_alloc ?_ _)); exact BK276.out)) (below_size (by repeat (first | (with_reducible first | exact HB.out | apply zD | apply zE | apply zF | refine below_set ?_ GE276.out) | exact HB.out))))
    have n2_ := Aside0.mk (blk_below (g := gb276) (o := .cells #[.int .i64 (-7), .int .i64 (-8)] 56 (0, 0)) (by (with_reducible repeat (first | refine blk_drewN ?_ _ | refine blk_drew ?_ | refine blk_alloc ?_ _)); exact BK276.out) hb)
    have n3_ := Aside0.mk (below_step (by repeat (first | (with_reducible first | exact HB.out | apply zD | apply zE | apply zF | refine below_set ?_ GE276.out) | exact HB.out)) hb)
    clear HO282
    clear BK276
    clear HB
    have HO282 := n0_
    have HO291 := n1_
    have BK276 := n2_
    have HB := n3_
    clear n0_ n1_ n2_ n3_
    clear hb ho33
    refine hK.out _ _ ⟨(blk_cell BK276.out 0).trans rfl, (blk_cell BK276.out 1).trans rfl⟩ (fun hHeld => ?_)
    clear hK K
    refine norm_ (a' := ?_) ?_ ?_
    rotate_left
    ·show Act.put _ (some 30) _ = _
     simp only [Act.put, List.setIfInBounds_toArray, List.set_cons_zero, List.set_cons_succ, i64_w, i32_w]
     rfl
    exact norm_ (by first | (simp only [putAll, Act.put, List.setIfInBounds_toArray, List.set_cons_zero, List.set_cons_succ]; done) | (simp only [putAll, Act.put, List.setIfInBounds_toArray, List.set_cons_zero, List.set_cons_succ]; rfl)) (hJ4_10 (v281, v290) _ ⟨hHeld, (by (with_reducible repeat (first | apply zA | apply zB | apply zC)); exact Kd.R_mono HO282.out (fun _ hk => ⟨hk.2, hk.1⟩)), (by (with_reducible repeat (first | apply zA | apply zB | apply zC)); exact Kd.R_mono HO291.out (fun _ hk => ⟨hk.1.2, hk.2⟩)), (by (with_reducible repeat (first | refine blk_drewN ?_ _ | refine blk_drew ?_ | refine blk_alloc ?_ _)); exact BK276.out), (by repeat (first | (with_reducible first | exact HB.out | apply zD | apply zE | apply zF | refine below_set ?_ GE276.out) | exact HB.out))⟩)
  intro hJ4
  refine join_ (σ := Value) 7 #[true, false, true, true, false, false, true, false, true, true, true, false, false, false] (fun s_ => [(30, s_)]) (fun s_ w' => (w'.cell? ⟨gb276, 0, none⟩ = some (.int .i64 (-7)) ∧ w'.cell? ⟨gb276, 1, none⟩ = some (.int .i64 (-8))) ∧ (Kd.R k56 56 w' w.heap.size (fun k_ => k_ ≠ gb276) s_ y289) ∧ (w'.heap[gb276]? = some (.cells #[.int .i64 (-7), .int .i64 (-8)] 56 (0, 0))) ∧ (Below w.heap.size w w')) ?_ ?_
  rotate_left
  ·intro hJ10
   refine three_ (i := 1) (j := 4) (k := 10) (Ni := some 21) (Nj := some 24) (Nk := some 30) #[true, true, true, true, false, false, true, false, true, true, false, false, false, false] #[true, false, true, true, true, false, true, false, true, true, false, false, false, false] #[true, false, true, true, false, false, true, false, true, true, true, false, false, false] rfl rfl rfl rfl rfl rfl (three_of HT_.out (by kernel_rfl)) (by decide) (by decide) (by decide) (fun K hK => ?_) (fun K hK => ?_) (fun K hK => ?_)
   ·skip
    refine goes_ Try.func25 (by kernel_rfl) rfl #[.slice A0 l0.length c0] (by rfl) rfl rfl (by (try simp only [List.map_toArray, List.map_cons, List.map_nil]); first | done | rfl | (simp only [List.length_drop, List.length_take]; rfl)) ?_
    with_reducible refine (leadtraillaw04_copied.calls _ _ l0 t277 _ ?side1 ?side2 A5.out).mono ?_
    (case side1 => repeat (first | exact (Kd.C_below HR0.out HB.out) | (with_reducible refine Kd.C_alloc ?_ _) | (with_reducible refine Kd.C_drewN ?_ _) | (with_reducible refine Kd.C_drew ?_)))
    (case side2 => exact HC0.out)
    rintro e w29 ⟨v278, rfl, ho0, hb⟩
    refine ⟨_, rfl, ?_⟩
    have n0_ := Aside0.mk (Kd.R_lower (Kd.R_newB ho0 (g := gb276) (o := .cells #[.int .i64 (-7), .int .i64 (-8)] 56 (0, 0)) (by (with_reducible repeat (first | refine blk_drewN ?_ _ | refine blk_drew ?_ | refine blk_alloc ?_ _)); exact BK276.out)) (below_size (by repeat (first | (with_reducible first | exact HB.out | apply zD | apply zE | apply zF | refine below_set ?_ GE276.out) | exact HB.out))))
    have n1_ := Aside0.mk (blk_below (g := gb276) (o := .cells #[.int .i64 (-7), .int .i64 (-8)] 56 (0, 0)) (by (with_reducible repeat (first | refine blk_drewN ?_ _ | refine blk_drew ?_ | refine blk_alloc ?_ _)); exact BK276.out) hb)
    have n2_ := Aside0.mk (below_step (by repeat (first | (with_reducible first | exact HB.out | apply zD | apply zE | apply zF | refine below_set ?_ GE276.out) | exact HB.out)) hb)
    clear BK276
    clear HB
    have HO279 := n0_
    have BK276 := n1_
    have HB := n2_
    clear n0_ n1_ n2_
    (try clear hb)
    (try clear hb2)
    (try clear hk)
    (try clear hi)
    (try clear ho0)
    refine hK.out _ _ ⟨(blk_cell BK276.out 0).trans rfl, (blk_cell BK276.out 1).trans rfl⟩ (fun hHeld => ?_)
    clear hK K
    refine norm_ (a' := ?_) ?_ ?_
    rotate_left
    ·show Act.put _ (some 21) _ = _
     simp only [Act.put, List.setIfInBounds_toArray, List.set_cons_zero, List.set_cons_succ, i64_w, i32_w]
     rfl
    exact norm_ (by first | (simp only [putAll, Act.put, List.setIfInBounds_toArray, List.set_cons_zero, List.set_cons_succ]; done) | (simp only [putAll, Act.put, List.setIfInBounds_toArray, List.set_cons_zero, List.set_cons_succ]; rfl)) (hJ1 (v278) _ ⟨hHeld, (by (with_reducible repeat (first | apply zA | apply zB | apply zC)); exact Kd.R_mono HO279.out (fun _ hk => hk.2)), (by (with_reducible repeat (first | refine blk_drewN ?_ _ | refine blk_drew ?_ | refine blk_alloc ?_ _)); exact BK276.out), (by repeat (first | (with_reducible first | exact HB.out | apply zD | apply zE | apply zF | refine below_set ?_ GE276.out) | exact HB.out))⟩)
   ·skip
    refine Kd.R_lit_step k56 _ 56 ?hg (N := 24) ?hd (xs := ([(⟨(-7), (-8)⟩ : S56), (⟨(-7), (-8)⟩ : S56)] : List (S56))) (inner := [.int .i64 (-7), .int .i64 (-8), .int .i64 (-7), .int .i64 (-8)]) (ok := fun _ => True) (okp := fun _ => True) ?hr ?hp (fun _ hk => hk) trivial (Below.refl _ _) (Nat.le_refl _) (by simp) ?_; (case hd => rfl); (case hg => rfl); (case hr => first | (go_simp; done) | (go_simp; rfl)); (case hp => exact (Reps.c2 (show Kd.M k56 _ _ _ (⟨(-7), (-8)⟩ : S56) [.int .i64 (-7), .int .i64 (-8)] from (k56_mkM _ _ _ (⟨(-7), (-8)⟩ : S56) )) (Reps.c2 (show Kd.M k56 _ _ _ (⟨(-7), (-8)⟩ : S56) [.int .i64 (-7), .int .i64 (-8)] from (k56_mkM _ _ _ (⟨(-7), (-8)⟩ : S56) )) (Reps.none _ _))))
    intro v281 w29 ho30 hb hg_ hnew_
    clear hg_ hnew_
    (first | rw [← Ny280.out] at ho30 | (simp only [Int.reduceToNat] at ho30; rw [← Ny280.out] at ho30))
    have n0_ := Aside0.mk (Kd.R_lower (Kd.R_newB ho30 (g := gb276) (o := .cells #[.int .i64 (-7), .int .i64 (-8)] 56 (0, 0)) (by (with_reducible repeat (first | refine blk_drewN ?_ _ | refine blk_drew ?_ | refine blk_alloc ?_ _)); exact BK276.out)) (below_size (by repeat (first | (with_reducible first | exact HB.out | apply zD | apply zE | apply zF | refine below_set ?_ GE276.out) | exact HB.out))))
    have n1_ := Aside0.mk (blk_below (g := gb276) (o := .cells #[.int .i64 (-7), .int .i64 (-8)] 56 (0, 0)) (by (with_reducible repeat (first | refine blk_drewN ?_ _ | refine blk_drew ?_ | refine blk_alloc ?_ _)); exact BK276.out) hb)
    have n2_ := Aside0.mk (below_step (by repeat (first | (with_reducible first | exact HB.out | apply zD | apply zE | apply zF | refine below_set ?_ GE276.out) | exact HB.out)) hb)
    clear BK276
    clear HB
    have HO282 := n0_
    have BK276 := n1_
    have HB := n2_
    clear n0_ n1_ n2_
    clear hb ho30
    refine hK.out _ _ ⟨(blk_cell BK276.out 0).trans rfl, (blk_cell BK276.out 1).trans rfl⟩ (fun hHeld => ?_)
    clear hK K
    refine norm_ (a' := ?_) ?_ ?_
    rotate_left
    ·show Act.put _ (some 24) _ = _
     simp only [Act.put, List.setIfInBounds_toArray, List.set_cons_zero, List.set_cons_succ, i64_w, i32_w]
     rfl
    exact norm_ (by first | (simp only [putAll, Act.put, List.setIfInBounds_toArray, List.set_cons_zero, List.set_cons_succ]; done) | (simp only [putAll, Act.put, List.setIfInBounds_toArray, List.set_cons_zero, List.set_cons_succ]; rfl)) (hJ4 (v281) _ ⟨hHeld, (by (with_reducible repeat (first | apply zA | apply zB | apply zC)); exact Kd.R_mono HO282.out (fun _ hk => hk.2)), (by (with_reducible repeat (first | refine blk_drewN ?_ _ | refine blk_drew ?_ | refine blk_alloc ?_ _)); exact BK276.out), (by repeat (first | (with_reducible first | exact HB.out | apply zD | apply zE | apply zF | refine below_set ?_ GE276.out) | exact HB.out))⟩)
   ·skip
    refine Kd.R_lit_step k56 _ 56 ?hg (N := 30) ?hd (xs := ([(⟨(-7), (-8)⟩ : S56), (⟨(-7), (-8)⟩ : S56)] : List (S56))) (inner := [.int .i64 (-7), .int .i64 (-8), .int .i64 (-7), .int .i64 (-8)]) (ok := fun _ => True) (okp := fun _ => True) ?hr ?hp (fun _ hk => hk) trivial (Below.refl _ _) (Nat.le_refl _) (by simp) ?_; (case hd => rfl); (case hg => rfl); (case hr => first | (go_simp; done) | (go_simp; rfl)); (case hp => exact (Reps.c2 (show Kd.M k56 _ _ _ (⟨(-7), (-8)⟩ : S56) [.int .i64 (-7), .int .i64 (-8)] from (k56_mkM _ _ _ (⟨(-7), (-8)⟩ : S56) )) (Reps.c2 (show Kd.M k56 _ _ _ (⟨(-7), (-8)⟩ : S56) [.int .i64 (-7), .int .i64 (-8)] from (k56_mkM _ _ _ (⟨(-7), (-8)⟩ : S56) )) (Reps.none _ _))))
    intro v290 w29 ho30 hb hg_ hnew_
    clear hg_ hnew_
    (first | rw [← Ny289.out] at ho30 | (simp only [Int.reduceToNat] at ho30; rw [← Ny289.out] at ho30))
    have n0_ := Aside0.mk (Kd.R_lower (Kd.R_newB ho30 (g := gb276) (o := .cells #[.int .i64 (-7), .int .i64 (-8)] 56 (0, 0)) (by (with_reducible repeat (first | refine blk_drewN ?_ _ | refine blk_drew ?_ | refine blk_alloc ?_ _)); exact BK276.out)) (below_size (by repeat (first | (with_reducible first | exact HB.out | apply zD | apply zE | apply zF | refine below_set ?_ GE276.out) | exact HB.out))))
    have n1_ := Aside0.mk (blk_below (g := gb276) (o := .cells #[.int .i64 (-7), .int .i64 (-8)] 56 (0, 0)) (by (with_reducible repeat (first | refine blk_drewN ?_ _ | refine blk_drew ?_ | refine blk_alloc ?_ _)); exact BK276.out) hb)
    have n2_ := Aside0.mk (below_step (by repeat (first | (with_reducible first | exact HB.out | apply zD | apply zE | apply zF | refine below_set ?_ GE276.out) | exact HB.out)) hb)
    clear BK276
    clear HB
    have HO291 := n0_
    have BK276 := n1_
    have HB := n2_
    clear n0_ n1_ n2_
    clear hb ho30
    refine hK.out _ _ ⟨(blk_cell BK276.out 0).trans rfl, (blk_cell BK276.out 1).trans rfl⟩ (fun hHeld => ?_)
    clear hK K
    refine norm_ (a' := ?_) ?_ ?_
    rotate_left
    ·show Act.put _ (some 30) _ = _
     simp only [Act.put, List.setIfInBounds_toArray, List.set_cons_zero, List.set_cons_succ, i64_w, i32_w]
     rfl
    exact norm_ (by first | (simp only [putAll, Act.put, List.setIfInBounds_toArray, List.set_cons_zero, List.set_cons_succ]; done) | (simp only [putAll, Act.put, List.setIfInBounds_toArray, List.set_cons_zero, List.set_cons_succ]; rfl)) (hJ10 (v290) _ ⟨hHeld, (by (with_reducible repeat (first | apply zA | apply zB | apply zC)); exact Kd.R_mono HO291.out (fun _ hk => hk.2)), (by (with_reducible repeat (first | refine blk_drewN ?_ _ | refine blk_drew ?_ | refine blk_alloc ?_ _)); exact BK276.out), (by repeat (first | (with_reducible first | exact HB.out | apply zD | apply zE | apply zF | refine below_set ?_ GE276.out) | exact HB.out))⟩)
  ·skip
   rintro v290 w31 ⟨hS_, h0_, h1_, h2_⟩
   have n0_ : Aside0 (Kd.R k56 56 w31 w.heap.size (fun k_ => k_ ≠ gb276) v290 y289) := ⟨h0_⟩
   have n1_ : Aside0 (w31.heap[gb276]? = some (.cells #[.int .i64 (-7), .int .i64 (-8)] 56 (0, 0))) := ⟨h1_⟩
   have n2_ : Aside0 (Below w.heap.size w w31) := ⟨h2_⟩
   clear BK276
   clear HB
   clear h0_ h1_ h2_
   have HO291 := n0_
   have BK276 := n1_
   have HB := n2_
   clear n0_ n1_ n2_
   have hHeld : w31.cell? ⟨gb276, 0, none⟩ = some (.int .i64 (-7)) ∧ w31.cell? ⟨gb276, 1, none⟩ = some (.int .i64 (-8)) := hS_
   refine norm_ (a' := ?_) ?_ ?_
   rotate_left
   ·simp only [putAll, Act.put, List.setIfInBounds_toArray, List.set_cons_zero, List.set_cons_succ]
    rfl
   refine two_ (i := 1) (j := 4) (Ni := some 21) (Nj := some 24) #[true, true, true, true, false, false, true, false, true, true, true, false, false, false] #[true, false, true, true, true, false, true, false, true, true, true, false, false, false] rfl rfl rfl rfl (two_of HT_.out (by kernel_rfl)) (by decide) (by decide) (fun K hK => ?_) (fun K hK => ?_)
   ·skip
    refine goes_ Try.func25 (by kernel_rfl) rfl #[.slice A0 l0.length c0] (by rfl) rfl rfl (by (try simp only [List.map_toArray, List.map_cons, List.map_nil]); first | done | rfl | (simp only [List.length_drop, List.length_take]; rfl)) ?_
    with_reducible refine (leadtraillaw04_copied.calls _ _ l0 t277 _ ?side1 ?side2 A5.out).mono ?_
    (case side1 => repeat (first | exact (Kd.C_below HR0.out HB.out) | (with_reducible refine Kd.C_alloc ?_ _) | (with_reducible refine Kd.C_drewN ?_ _) | (with_reducible refine Kd.C_drew ?_)))
    (case side2 => exact HC0.out)
    rintro e w32 ⟨v278, rfl, ho0, hb⟩
    refine ⟨_, rfl, ?_⟩
    have n0_ := Aside0.mk (Kd.R_elder' (by (with_reducible repeat (first | apply zA | apply zB | apply zC)); exact HO291.out) (Kd.R_base ho0) hb)
    have n1_ := Aside0.mk (Kd.R_lower (Kd.R_newB (Kd.R_new' ho0 (Kd.R_lt (by (with_reducible repeat (first | apply zA | apply zB | apply zC)); exact HO291.out))) (g := gb276) (o := .cells #[.int .i64 (-7), .int .i64 (-8)] 56 (0, 0)) (by (with_reducible repeat (first | refine blk_drewN ?_ _ | refine blk_drew ?_ | refine blk_alloc ?_ _)); exact BK276.out)) (below_size (by repeat (first | (with_reducible first | exact HB.out | apply zD | apply zE | apply zF | refine below_set ?_ GE276.out) | exact HB.out))))
    have n2_ := Aside0.mk (blk_below (g := gb276) (o := .cells #[.int .i64 (-7), .int .i64 (-8)] 56 (0, 0)) (by (with_reducible repeat (first | refine blk_drewN ?_ _ | refine blk_drew ?_ | refine blk_alloc ?_ _)); exact BK276.out) hb)
    have n3_ := Aside0.mk (below_step (by repeat (first | (with_reducible first | exact HB.out | apply zD | apply zE | apply zF | refine below_set ?_ GE276.out) | exact HB.out)) hb)
    clear HO291
    clear BK276
    clear HB
    have HO291 := n0_
    have HO279 := n1_
    have BK276 := n2_
    have HB := n3_
    clear n0_ n1_ n2_ n3_
    (try clear hb)
    (try clear hb2)
    (try clear hk)
    (try clear hi)
    (try clear ho0)
    refine hK.out _ _ ⟨(blk_cell BK276.out 0).trans rfl, (blk_cell BK276.out 1).trans rfl⟩ (fun hHeld => ?_)
    clear hK K
    refine norm_ (a' := ?_) ?_ ?_
    rotate_left
    ·show Act.put _ (some 21) _ = _
     simp only [Act.put, List.setIfInBounds_toArray, List.set_cons_zero, List.set_cons_succ, i64_w, i32_w]
     rfl
    exact norm_ (by first | (simp only [putAll, Act.put, List.setIfInBounds_toArray, List.set_cons_zero, List.set_cons_succ]; done) | (simp only [putAll, Act.put, List.setIfInBounds_toArray, List.set_cons_zero, List.set_cons_succ]; rfl)) (hJ1_10 (v278, v290) _ ⟨hHeld, (by (with_reducible repeat (first | apply zA | apply zB | apply zC)); exact Kd.R_mono HO279.out (fun _ hk => ⟨hk.1.2, hk.2⟩)), (by (with_reducible repeat (first | apply zA | apply zB | apply zC)); exact Kd.R_mono HO291.out (fun _ hk => ⟨hk.2, hk.1⟩)), (by (with_reducible repeat (first | refine blk_drewN ?_ _ | refine blk_drew ?_ | refine blk_alloc ?_ _)); exact BK276.out), (by repeat (first | (with_reducible first | exact HB.out | apply zD | apply zE | apply zF | refine below_set ?_ GE276.out) | exact HB.out))⟩)
   ·skip
    refine Kd.R_lit_step k56 _ 56 ?hg (N := 24) ?hd (xs := ([(⟨(-7), (-8)⟩ : S56), (⟨(-7), (-8)⟩ : S56)] : List (S56))) (inner := [.int .i64 (-7), .int .i64 (-8), .int .i64 (-7), .int .i64 (-8)]) (ok := fun _ => True) (okp := fun _ => True) ?hr ?hp (fun _ hk => hk) trivial (Below.refl _ _) (Nat.le_refl _) (by simp) ?_; (case hd => rfl); (case hg => rfl); (case hr => first | (go_simp; done) | (go_simp; rfl)); (case hp => exact (Reps.c2 (show Kd.M k56 _ _ _ (⟨(-7), (-8)⟩ : S56) [.int .i64 (-7), .int .i64 (-8)] from (k56_mkM _ _ _ (⟨(-7), (-8)⟩ : S56) )) (Reps.c2 (show Kd.M k56 _ _ _ (⟨(-7), (-8)⟩ : S56) [.int .i64 (-7), .int .i64 (-8)] from (k56_mkM _ _ _ (⟨(-7), (-8)⟩ : S56) )) (Reps.none _ _))))
    intro v281 w32 ho33 hb hg_ hnew_
    clear hg_ hnew_
    (first | rw [← Ny280.out] at ho33 | (simp only [Int.reduceToNat] at ho33; rw [← Ny280.out] at ho33))
    have n0_ := Aside0.mk (Kd.R_elder' (by (with_reducible repeat (first | apply zA | apply zB | apply zC)); exact HO291.out) (Kd.R_base ho33) hb)
    have n1_ := Aside0.mk (Kd.R_lower (Kd.R_newB (Kd.R_new' ho33 (Kd.R_lt (by (with_reducible repeat (first | apply zA | apply zB | apply zC)); exact HO291.out))) (g := gb276) (o := .cells #[.int .i64 (-7), .int .i64 (-8)] 56 (0, 0)) (by (with_reducible repeat (first | refine blk_drewN ?_ _ | refine blk_drew ?_ | refine blk_alloc ?_ _)); exact BK276.out)) (below_size (by repeat (first | (with_reducible first | exact HB.out | apply zD | apply zE | apply zF | refine below_set ?_ GE276.out) | exact HB.out))))
    have n2_ := Aside0.mk (blk_below (g := gb276) (o := .cells #[.int .i64 (-7), .int .i64 (-8)] 56 (0, 0)) (by (with_reducible repeat (first | refine blk_drewN ?_ _ | refine blk_drew ?_ | refine blk_alloc ?_ _)); exact BK276.out) hb)
    have n3_ := Aside0.mk (below_step (by repeat (first | (with_reducible first | exact HB.out | apply zD | apply zE | apply zF | refine below_set ?_ GE276.out) | exact HB.out)) hb)
    clear HO291
    clear BK276
    clear HB
    have HO291 := n0_
    have HO282 := n1_
    have BK276 := n2_
    have HB := n3_
    clear n0_ n1_ n2_ n3_
    clear hb ho33
    refine hK.out _ _ ⟨(blk_cell BK276.out 0).trans rfl, (blk_cell BK276.out 1).trans rfl⟩ (fun hHeld => ?_)
    clear hK K
    refine norm_ (a' := ?_) ?_ ?_
    rotate_left
    ·show Act.put _ (some 24) _ = _
     simp only [Act.put, List.setIfInBounds_toArray, List.set_cons_zero, List.set_cons_succ, i64_w, i32_w]
     rfl
    exact norm_ (by first | (simp only [putAll, Act.put, List.setIfInBounds_toArray, List.set_cons_zero, List.set_cons_succ]; done) | (simp only [putAll, Act.put, List.setIfInBounds_toArray, List.set_cons_zero, List.set_cons_succ]; rfl)) (hJ4_10 (v281, v290) _ ⟨hHeld, (by (with_reducible repeat (first | apply zA | apply zB | apply zC)); exact Kd.R_mono HO282.out (fun _ hk => ⟨hk.1.2, hk.2⟩)), (by (with_reducible repeat (first | apply zA | apply zB | apply zC)); exact Kd.R_mono HO291.out (fun _ hk => ⟨hk.2, hk.1⟩)), (by (with_reducible repeat (first | refine blk_drewN ?_ _ | refine blk_drew ?_ | refine blk_alloc ?_ _)); exact BK276.out), (by repeat (first | (with_reducible first | exact HB.out | apply zD | apply zE | apply zF | refine below_set ?_ GE276.out) | exact HB.out))⟩)
 rintro ⟨v278, v281, v284, v287, v290⟩ w37 ⟨hS_, h0_, h1_, h2_, h3_, h4_, h5_⟩
 have n0_ : Aside0 (Kd.R k56 56 w37 w.heap.size (fun k_ => some k_ ≠ (v284 : Value).ownBlock ∧ some k_ ≠ (v287 : Value).ownBlock ∧ some k_ ≠ (v290 : Value).ownBlock ∧ k_ ≠ gb276) v281 y280) := ⟨h0_⟩
 have n1_ : Aside0 (Kd.R k56 56 w37 w.heap.size (fun k_ => some k_ ≠ (v281 : Value).ownBlock ∧ some k_ ≠ (v287 : Value).ownBlock ∧ some k_ ≠ (v290 : Value).ownBlock ∧ k_ ≠ gb276) v284 y283) := ⟨h1_⟩
 have n2_ : Aside0 (Kd.R k56 56 w37 w.heap.size (fun k_ => some k_ ≠ (v281 : Value).ownBlock ∧ some k_ ≠ (v284 : Value).ownBlock ∧ some k_ ≠ (v290 : Value).ownBlock ∧ k_ ≠ gb276) v287 t286) := ⟨h2_⟩
 have n3_ : Aside0 (Kd.R k56 56 w37 w.heap.size (fun k_ => some k_ ≠ (v281 : Value).ownBlock ∧ some k_ ≠ (v284 : Value).ownBlock ∧ some k_ ≠ (v287 : Value).ownBlock ∧ k_ ≠ gb276) v290 y289) := ⟨h3_⟩
 have n4_ : Aside0 (w37.heap[gb276]? = some (.cells #[.int .i64 (-7), .int .i64 (-8)] 56 (0, 0))) := ⟨h4_⟩
 have n5_ : Aside0 (Below w.heap.size w w37) := ⟨h5_⟩
 clear BK276
 clear HB
 clear h0_ h1_ h2_ h3_ h4_ h5_
 have HO282 := n0_
 have HO285 := n1_
 have HO288 := n2_
 have HO291 := n3_
 have BK276 := n4_
 have HB := n5_
 clear n0_ n1_ n2_ n3_ n4_ n5_
 have hHeld : w37.cell? ⟨gb276, 0, none⟩ = some (.int .i64 (-7)) ∧ w37.cell? ⟨gb276, 1, none⟩ = some (.int .i64 (-8)) := hS_
 obtain ⟨Ao39, co39, eo39⟩ := Kd.R_slice HO291.out
 (first | subst eo39 | (injection eo39 with f1_ f2_ f3_; have f4_ := f1_.symm; have f5_ := f3_.symm; clear f1_ f2_ f3_; subst f4_; subst f5_))
 refine norm_ (a' := ?_) ?_ ?_
 rotate_left
 ·simp only [putAll, Act.put, List.setIfInBounds_toArray, List.set_cons_zero, List.set_cons_succ]
  rfl
 refine one_ (i := 11) (N := some 31) #[true, true, true, true, true, true, true, true, true, true, true, true, false, false] rfl rfl (one_of HT_.out (by kernel_rfl)) (by decide) (fun K hK => ?_)
 refine Kd.R_append_rows_step k56 (w0 := w) w.heap.size (by rfl) (.tmp 27) (.tmp 30) 32 56 (.agg #[(.int .i64 0), (.int .i64 0)]) 16 rfl Try.underlying32 info56 rfl (by decide) (by omega) v287 t286 y289 _ _ _ (fun k_ => some k_ ≠ (v281 : Value).ownBlock ∧ some k_ ≠ (v284 : Value).ownBlock ∧ some k_ ≠ (.slice Ao39 y289.length co39 : Value).ownBlock ∧ k_ ≠ gb276) (fun _ => False) rfl rfl ?aO ?aR (fun _ _ h => h) (fun _ h => h.elim) ?aF ?aB ?aS ?aL ?_
 (case aR => repeat (first | exact (Kd.R_reads' HO291.out).2.2 | (with_reducible refine Kd.C_alloc ?_ _) | (with_reducible refine Kd.C_drewN ?_ _) | (with_reducible refine Kd.C_drew ?_)))
 (case aB => exact (by repeat (first | (with_reducible first | exact HB.out | apply zD | apply zE | apply zF | refine below_set ?_ GE276.out) | exact HB.out)))
 (case aF => exact (fun k_ hk => ⟨Kd.fresh' (Kd.R_lt (by (with_reducible repeat (first | apply zA | apply zB | apply zC)); exact HO282.out)) k_ hk, Kd.fresh' (Kd.R_lt (by (with_reducible repeat (first | apply zA | apply zB | apply zC)); exact HO285.out)) k_ hk, Kd.fresh' (Kd.R_lt (by (with_reducible repeat (first | apply zA | apply zB | apply zC)); exact HO291.out)) k_ hk, Kd.freshB (g := gb276) (o := .cells #[.int .i64 (-7), .int .i64 (-8)] 56 (0, 0)) (by (with_reducible repeat (first | refine blk_drewN ?_ _ | refine blk_drew ?_ | refine blk_alloc ?_ _)); exact BK276.out) k_ hk⟩))
 (case aO => exact (by (with_reducible repeat (first | apply zA | apply zB | apply zC)); exact HO288.out))
 (case aS => exact (below_size (by repeat (first | (with_reducible first | exact HB.out | apply zD | apply zE | apply zF | refine below_set ?_ GE276.out) | exact HB.out))))
 (case aL => have := LMc8.out; omega)
 intro v293 w38 ho hb hg hat
 rw [← Ny292.out] at ho
 have n0_ := Aside0.mk (blk_grown (g := gb276) (o := .cells #[.int .i64 (-7), .int .i64 (-8)] 56 (0, 0)) (by (with_reducible repeat (first | refine blk_drewN ?_ _ | refine blk_drew ?_ | refine blk_alloc ?_ _)); exact BK276.out) hg (Kd.R_away HO288.out (fun _ hk => hk.2.2.2)))
 have n1_ := Aside0.mk (Kd.R_after (ok := (fun k_ => some k_ ≠ (v284 : Value).ownBlock ∧ some k_ ≠ (.slice Ao39 y289.length co39 : Value).ownBlock ∧ k_ ≠ gb276)) (by (with_reducible repeat (first | apply zA | apply zB | apply zC)); exact Kd.R_mono HO282.out (fun _ hk => ⟨⟨hk.1, ⟨hk.2.2.1, hk.2.2.2⟩⟩, hk.2.1⟩)) hg hat)
 have n2_ := Aside0.mk (Kd.R_after (ok := (fun k_ => some k_ ≠ (v281 : Value).ownBlock ∧ some k_ ≠ (.slice Ao39 y289.length co39 : Value).ownBlock ∧ k_ ≠ gb276)) (by (with_reducible repeat (first | apply zA | apply zB | apply zC)); exact Kd.R_mono HO285.out (fun _ hk => ⟨⟨hk.1, ⟨hk.2.2.1, hk.2.2.2⟩⟩, hk.2.1⟩)) hg hat)
 have n3_ := Aside0.mk (Kd.R_after (ok := (fun k_ => some k_ ≠ (v281 : Value).ownBlock ∧ some k_ ≠ (v284 : Value).ownBlock ∧ k_ ≠ gb276)) (by (with_reducible repeat (first | apply zA | apply zB | apply zC)); exact Kd.R_mono HO291.out (fun _ hk => ⟨⟨hk.1, ⟨hk.2.1, hk.2.2.2⟩⟩, hk.2.2.1⟩)) hg hat)
 have n4_ := Aside0.mk (hb)
 have n5_ := Aside0.mk (ho)
 clear BK276
 clear HO282
 clear HO285
 clear HO291
 clear HB
 clear HO288
 have BK276 := n0_
 have HO282 := n1_
 have HO285 := n2_
 have HO291 := n3_
 have HB := n4_
 have HO294 := n5_
 clear n0_ n1_ n2_ n3_ n4_ n5_
 clear ho hb hg hat
 refine hK.out _ _ ⟨(blk_cell BK276.out 0).trans rfl, (blk_cell BK276.out 1).trans rfl⟩ (fun hHeld => ?_)
 clear hK K
 refine norm_ (a' := ?_) ?_ ?_
 rotate_left
 ·show Act.put _ (some 31) _ = _
  simp only [Act.put, List.setIfInBounds_toArray, List.set_cons_zero, List.set_cons_succ, i64_w, i32_w]
  rfl
 refine pure_ (i := 12) (N := some 6) (v := ?_) (a' := ?_) #[true, true, true, true, true, true, true, true, true, true, true, true, true, false] rfl rfl (any_of HT_.out (by kernel_rfl)) (fun _ _ _ h => h) (Or.inl ⟨by rfl, ?_⟩) ?_ ?_
 rotate_left
 ·intro w'
  go_simp
  with_reducible rfl
 rotate_left
 ·simp only [Act.put, List.setIfInBounds_toArray, List.set_cons_zero, List.set_cons_succ, i64_w, i32_w]
  rfl
 refine pure_ (i := 13) (N := some 7) (v := ?_) (a' := ?_) #[true, true, true, true, true, true, true, true, true, true, true, true, true, true] rfl rfl (any_of HT_.out (by kernel_rfl)) (fun _ _ _ h => h) (Or.inl ⟨by rfl, ?_⟩) ?_ ?_
 rotate_left
 ·intro w'
  go_simp
  with_reducible rfl
 rotate_left
 ·simp only [Act.put, List.setIfInBounds_toArray, List.set_cons_zero, List.set_cons_succ, i64_w, i32_w]
  rfl
 refine done_ (done_of HT_.out (by kernel_rfl)) ?_
 try go_wp2
 have n0_ := Aside0.mk (Kd.R_drew HO282.out)
 have n1_ := Aside0.mk (Kd.R_drew HO285.out)
 have n2_ := Aside0.mk (Kd.R_drew HO291.out)
 have n3_ := Aside0.mk (Kd.R_drew HO294.out)
 have n4_ := Aside0.mk (blk_drew BK276.out)
 have n5_ := Aside0.mk (below_drew1 HB.out)
 clear HO282
 clear HO285
 clear HO291
 clear HO294
 clear BK276
 clear HB
 have HO282 := n0_
 have HO285 := n1_
 have HO291 := n2_
 have HO294 := n3_
 have BK276 := n4_
 have HB := n5_
 clear n0_ n1_ n2_ n3_ n4_ n5_
 obtain ⟨Ao42, co42, eo42⟩ := Kd.R_slice HO285.out
 (first | subst eo42 | (injection eo42 with f1_ f2_ f3_; have f4_ := f1_.symm; have f5_ := f3_.symm; clear f1_ f2_ f3_; subst f4_; subst f5_))
 have q41 : ((l0.length : Int) : Int) ≤ ((y283.length : Int) : Int) := of_decide_eq_true (by first | (with_reducible assumption) | assumption)
 obtain ⟨i041, hi041, _, hsz41, _⟩ := info_parts info56
 have hroom41 : y283.length ≤ co42 := (Kd.R_reads' HO285.out).2.1
 have hC41 : Kd.C k56 _ Ao42 y283.length y283 := (Kd.R_reads' HO285.out).2.2
 have hcut41 := cut_to (P := Try.prog) 32 56 .i64 Try.underlying32 hi041 Ao42 y283.length co42 (l0.length : Int) (of_decide_eq_true (by first | (with_reducible assumption) | assumption)) q41 hroom41
 have hr41 := Kd.C_take (m := ((l0.length : Int) : Int).toNat) hC41 (by omega)
 have hy41 : y295.length = ((l0.length : Int) : Int).toNat := (by rw [Ny295.out, List.length_take]; omega)
 rw [← Ny295.out] at hr41
 rw [← hy41] at hcut41
 have HR298 := Aside0.mk hr41
 have HC298 := Aside0.mk (show y295.length ≤ co42 from by omega)
 clear hr41 hC41 hroom41 hi041 hsz41
 have KY41 := Aside0.mk hy41
 clear hy41
 have KL41 := Aside0.mk (show ((l0.length : Int) : Int).toNat ≤ y283.length from by omega)
 replace q41 := eq_true q41
 obtain ⟨Ao44, co44, eo44⟩ := Kd.R_slice HO294.out
 (first | subst eo44 | (injection eo44 with f1_ f2_ f3_; have f4_ := f1_.symm; have f5_ := f3_.symm; clear f1_ f2_ f3_; subst f4_; subst f5_))
 have q43 : ((l1.length : Int) : Int) ≤ ((y292.length : Int) : Int) := of_decide_eq_true (by first | (with_reducible assumption) | assumption)
 obtain ⟨i043, hi043, _, hsz43, _⟩ := info_parts info56
 have hroom43 : y292.length ≤ co44 := (Kd.R_reads' HO294.out).2.1
 have hC43 : Kd.C k56 _ Ao44 y292.length y292 := (Kd.R_reads' HO294.out).2.2
 have hcut43 := cut_to (P := Try.prog) 32 56 .i64 Try.underlying32 hi043 Ao44 y292.length co44 (l1.length : Int) (of_decide_eq_true (by first | (with_reducible assumption) | assumption)) q43 hroom43
 have hr43 := Kd.C_take (m := ((l1.length : Int) : Int).toNat) hC43 (by omega)
 have hy43 : y299.length = ((l1.length : Int) : Int).toNat := (by rw [Ny299.out, List.length_take]; omega)
 rw [← Ny299.out] at hr43
 rw [← hy43] at hcut43
 have HR302 := Aside0.mk hr43
 have HC302 := Aside0.mk (show y299.length ≤ co44 from by omega)
 clear hr43 hC43 hroom43 hi043 hsz43
 have KY43 := Aside0.mk hy43
 clear hy43
 have KL43 := Aside0.mk (show ((l1.length : Int) : Int).toNat ≤ y292.length from by omega)
 replace q43 := eq_true q43
 refine start_ (n := 10) (S := fun w' => True) (ds := []) #[false, false, false, false, false, false, false, false, false, false] (by kernel_rfl) rfl rfl trivial (fun hHeld => ?_); refine with_tabW leadtraillaw04_ScalarsOwns.tab5 leadtraillaw04_ScalarsOwns.bits5 (fun HT_ HW_ => ?_)
 generalize w38.drew = w40 at HO282 HO285 HO291 HO294 BK276 HB HR298 HR302 hHeld ⊢
 refine pure_ (i := 0) (N := some 32) (v := ?_) (a' := ?_) #[true, false, false, false, false, false, false, false, false, false] rfl rfl (any_of HT_.out (by kernel_rfl)) (fun _ _ _ h => h) (Or.inl ⟨by rfl, ?_⟩) ?_ ?_
 rotate_left
 ·intro w'
  go_simp
  with_reducible rfl
 rotate_left
 ·simp only [Act.put, List.setIfInBounds_toArray, List.set_cons_zero, List.set_cons_succ, i64_w, i32_w]
  rfl
 refine pure_ (i := 1) (N := some 33) (v := ?_) (a' := ?_) #[true, true, false, false, false, false, false, false, false, false] rfl rfl (any_of HT_.out (by kernel_rfl)) (fun _ _ _ h => h) (Or.inl ⟨by rfl, ?_⟩) ?_ ?_
 rotate_left
 ·intro w'
  go_simp
  with_reducible rfl
 rotate_left
 ·simp only [Act.put, List.setIfInBounds_toArray, List.set_cons_zero, List.set_cons_succ, i64_w, i32_w]
  rfl
 refine pure_ (i := 2) (N := some 34) (v := ?_) (a' := ?_) #[true, true, true, false, false, false, false, false, false, false] rfl rfl (any_of HT_.out (by kernel_rfl)) (fun _ _ _ h => h) (Or.inl ⟨by rfl, ?_⟩) ?_ ?_
 rotate_left
 ·intro w'
  go_simp
  with_reducible rfl
 rotate_left
 ·simp only [Act.put, List.setIfInBounds_toArray, List.set_cons_zero, List.set_cons_succ, i64_w, i32_w]
  rfl
 refine pure_ (i := 3) (N := some 35) (v := ?_) (a' := ?_) #[true, true, true, true, false, false, false, false, false, false] rfl rfl (any_of HT_.out (by kernel_rfl)) (fun _ _ _ h => h) (Or.inl ⟨by rfl, ?_⟩) ?_ ?_
 rotate_left
 ·intro w'
  go_simp
  with_reducible rfl
 rotate_left
 ·simp only [Act.put, List.setIfInBounds_toArray, List.set_cons_zero, List.set_cons_succ, i64_w, i32_w]
  rfl
 refine pure_ (i := 4) (N := some 36) (v := ?_) (a' := ?_) #[true, true, true, true, true, false, false, false, false, false] rfl rfl (any_of HT_.out (by kernel_rfl)) (fun _ _ _ h => h) (Or.inl ⟨by rfl, ?_⟩) ?_ ?_
 rotate_left
 ·intro w'
  go_simp
  with_reducible rfl
 rotate_left
 ·simp only [Act.put, List.setIfInBounds_toArray, List.set_cons_zero, List.set_cons_succ, i64_w, i32_w]
  rfl
 refine pure_ (i := 5) (N := some 37) (v := ?_) (a' := ?_) #[true, true, true, true, true, true, false, false, false, false] rfl rfl (any_of HT_.out (by kernel_rfl)) (fun _ _ _ h => h) (Or.inl ⟨by rfl, ?_⟩) ?_ ?_
 rotate_left
 ·intro w'
  go_simp
  with_reducible rfl
 rotate_left
 ·simp only [Act.put, List.setIfInBounds_toArray, List.set_cons_zero, List.set_cons_succ, i64_w, i32_w]
  rfl
 refine pure_ (i := 6) (N := some 38) (v := ?_) (a' := ?_) #[true, true, true, true, true, true, true, false, false, false] rfl rfl (any_of HT_.out (by kernel_rfl)) (fun _ _ _ h => h) (Or.inl ⟨by rfl, ?_⟩) ?_ ?_
 rotate_left
 ·intro w'
  go_simp
  with_reducible rfl
 rotate_left
 ·simp only [Act.put, List.setIfInBounds_toArray, List.set_cons_zero, List.set_cons_succ, i64_w, i32_w]
  rfl
 refine pure_ (i := 7) (N := some 39) (v := ?_) (a' := ?_) #[true, true, true, true, true, true, true, true, false, false] rfl rfl (any_of HT_.out (by kernel_rfl)) (fun _ _ _ h => h) (Or.inl ⟨by rfl, ?_⟩) ?_ ?_
 rotate_left
 ·intro w'
  go_simp
  with_reducible rfl
 rotate_left
 ·simp only [Act.put, List.setIfInBounds_toArray, List.set_cons_zero, List.set_cons_succ, i64_w, i32_w]
  rfl
 refine pure_ (i := 8) (N := some 8) (v := ?_) (a' := ?_) #[true, true, true, true, true, true, true, true, true, false] rfl rfl (any_of HT_.out (by kernel_rfl)) (fun _ _ _ h => h) (Or.inl ⟨by rfl, ?_⟩) ?_ ?_
 rotate_left
 ·intro w'
  go_simp
  with_reducible rfl
 rotate_left
 ·simp only [Act.put, List.setIfInBounds_toArray, List.set_cons_zero, List.set_cons_succ, i64_w, i32_w]
  rfl
 refine pure_ (i := 9) (N := some 9) (v := ?_) (a' := ?_) #[true, true, true, true, true, true, true, true, true, true] rfl rfl (any_of HT_.out (by kernel_rfl)) (fun _ _ _ h => h) (Or.inl ⟨by rfl, ?_⟩) ?_ ?_
 rotate_left
 ·intro w'
  go_simp
  with_reducible rfl
 rotate_left
 ·simp only [Act.put, List.setIfInBounds_toArray, List.set_cons_zero, List.set_cons_succ, i64_w, i32_w]
  rfl
 refine done_ (done_of HT_.out (by kernel_rfl)) ?_
 try go_wp2_with (first | ((with_reducible refine gate_callee (f := 24) rfl ?_); refine goesL_ (some 42) rfl rfl Try.func24 (by kernel_rfl) rfl #[.slice Ao42 y295.length co42] rfl (by (try simp only [List.map_toArray, List.map_cons, List.map_nil]); first | done | rfl | (simp only [List.length_drop, List.length_take]; rfl)) ?_; (with_reducible refine (scalars_Norm.calls k _ _ y295 t303 t304 t305 _ ?side1 ?side2 A13.out).mono ?_); (case side1 => repeat (first | exact (by repeat (first | (with_reducible exact HR298.out) | (with_reducible refine Kd.C_alloc ?_ _) | (with_reducible refine Kd.C_drewN ?_ _) | (with_reducible refine Kd.C_drew ?_) | exact HR298.out)) | (with_reducible refine Kd.C_alloc ?_ _) | (with_reducible refine Kd.C_drewN ?_ _) | (with_reducible refine Kd.C_drew ?_))); (case side2 => exact HC298.out); rintro e w45 ⟨v306, rfl, ho0, hb⟩; refine ⟨_, rfl, ?_⟩; have n0_ := Aside0.mk (Kd.R_elder' (by (with_reducible repeat (first | apply zA | apply zB | apply zC)); exact HO282.out) (Kd.R_base ho0) hb); have n1_ := Aside0.mk (Kd.R_elder' (by (with_reducible repeat (first | apply zA | apply zB | apply zC)); exact HO285.out) (Kd.R_base ho0) hb); have n2_ := Aside0.mk (Kd.R_elder' (by (with_reducible repeat (first | apply zA | apply zB | apply zC)); exact HO291.out) (Kd.R_base ho0) hb); have n3_ := Aside0.mk (Kd.R_elder' (by (with_reducible repeat (first | apply zA | apply zB | apply zC)); exact HO294.out) (Kd.R_base ho0) hb); have n4_ := Aside0.mk (Kd.R_lower (Kd.R_newB (Kd.R_new' (Kd.R_new' (Kd.R_new' (Kd.R_new' ho0 (Kd.R_lt (by (with_reducible repeat (first | apply zA | apply zB | apply zC)); exact HO282.out))) (Kd.R_lt (by (with_reducible repeat (first | apply zA | apply zB | apply zC)); exact HO285.out))) (Kd.R_lt (by (with_reducible repeat (first | apply zA | apply zB | apply zC)); exact HO291.out))) (Kd.R_lt (by (with_reducible repeat (first | apply zA | apply zB | apply zC)); exact HO294.out))) (g := gb276) (o := .cells #[.int .i64 (-7), .int .i64 (-8)] 56 (0, 0)) (by (with_reducible repeat (first | refine blk_drewN ?_ _ | refine blk_drew ?_ | refine blk_alloc ?_ _)); exact BK276.out)) (below_size (by repeat (first | (with_reducible first | exact HB.out | apply zD | apply zE | apply zF | refine below_set ?_ GE276.out) | exact HB.out)))); have n5_ := Aside0.mk (blk_below (g := gb276) (o := .cells #[.int .i64 (-7), .int .i64 (-8)] 56 (0, 0)) (by (with_reducible repeat (first | refine blk_drewN ?_ _ | refine blk_drew ?_ | refine blk_alloc ?_ _)); exact BK276.out) hb); have n6_ := Aside0.mk (Kd.C_below (by repeat (first | (with_reducible exact HR298.out) | (with_reducible refine Kd.C_alloc ?_ _) | (with_reducible refine Kd.C_drewN ?_ _) | (with_reducible refine Kd.C_drew ?_) | exact HR298.out)) hb); have n7_ := Aside0.mk (Kd.C_below (by repeat (first | (with_reducible exact HR302.out) | (with_reducible refine Kd.C_alloc ?_ _) | (with_reducible refine Kd.C_drewN ?_ _) | (with_reducible refine Kd.C_drew ?_) | exact HR302.out)) hb); have n8_ := Aside0.mk (below_step (by repeat (first | (with_reducible first | exact HB.out | apply zD | apply zE | apply zF | refine below_set ?_ GE276.out) | exact HB.out)) hb); clear HO282; clear HO285; clear HO291; clear HO294; clear BK276; clear HR298; clear HR302; clear HB; have HO282 := n0_; have HO285 := n1_; have HO291 := n2_; have HO294 := n3_; have HO307 := n4_; have BK276 := n5_; have HR298 := n6_; have HR302 := n7_; have HB := n8_; clear n0_ n1_ n2_ n3_ n4_ n5_ n6_ n7_ n8_; (try clear hb); (try clear hb2); (try clear hk); (try clear hi); (try clear ho0)) | ((with_reducible refine gate_callee (f := 59) rfl ?_); refine goesL_ (some 49) rfl rfl Try.func59 (by kernel_rfl) rfl #[.slice Ao42 y295.length co42, .slice Ao44 y299.length co44] rfl (by (try simp only [List.map_toArray, List.map_cons, List.map_nil]); first | done | rfl | (simp only [List.length_drop, List.length_take]; rfl)) ?_; (with_reducible refine (scalars_Union.calls k _ _ y295 _ _ y299 t308 _ ?side1 ?side2 ?side3 ?side4 A14.out).mono ?_); (case side1 => repeat (first | exact (by repeat (first | (with_reducible exact HR298.out) | (with_reducible refine Kd.C_alloc ?_ _) | (with_reducible refine Kd.C_drewN ?_ _) | (with_reducible refine Kd.C_drew ?_) | exact HR298.out)) | (with_reducible refine Kd.C_alloc ?_ _) | (with_reducible refine Kd.C_drewN ?_ _) | (with_reducible refine Kd.C_drew ?_))); (case side2 => exact HC298.out); (case side3 => repeat (first | exact (by repeat (first | (with_reducible exact HR302.out) | (with_reducible refine Kd.C_alloc ?_ _) | (with_reducible refine Kd.C_drewN ?_ _) | (with_reducible refine Kd.C_drew ?_) | exact HR302.out)) | (with_reducible refine Kd.C_alloc ?_ _) | (with_reducible refine Kd.C_drewN ?_ _) | (with_reducible refine Kd.C_drew ?_))); (case side4 => exact HC302.out); rintro e w46 ⟨v309, rfl, ho0, hb⟩; refine ⟨_, rfl, ?_⟩; have n0_ := Aside0.mk (Kd.R_elder' (by (with_reducible repeat (first | apply zA | apply zB | apply zC)); exact HO282.out) (Kd.R_base ho0) hb); have n1_ := Aside0.mk (Kd.R_elder' (by (with_reducible repeat (first | apply zA | apply zB | apply zC)); exact HO285.out) (Kd.R_base ho0) hb); have n2_ := Aside0.mk (Kd.R_elder' (by (with_reducible repeat (first | apply zA | apply zB | apply zC)); exact HO291.out) (Kd.R_base ho0) hb); have n3_ := Aside0.mk (Kd.R_elder' (by (with_reducible repeat (first | apply zA | apply zB | apply zC)); exact HO294.out) (Kd.R_base ho0) hb); have n4_ := Aside0.mk (Kd.R_elder' (by (with_reducible repeat (first | apply zA | apply zB | apply zC)); exact HO307.out) (Kd.R_base ho0) hb); have n5_ := Aside0.mk (Kd.R_lower (Kd.R_newB (Kd.R_new' (Kd.R_new' (Kd.R_new' (Kd.R_new' (Kd.R_new' ho0 (Kd.R_lt (by (with_reducible repeat (first | apply zA | apply zB | apply zC)); exact HO282.out))) (Kd.R_lt (by (with_reducible repeat (first | apply zA | apply zB | apply zC)); exact HO285.out))) (Kd.R_lt (by (with_reducible repeat (first | apply zA | apply zB | apply zC)); exact HO291.out))) (Kd.R_lt (by (with_reducible repeat (first | apply zA | apply zB | apply zC)); exact HO294.out))) (Kd.R_lt (by (with_reducible repeat (first | apply zA | apply zB | apply zC)); exact HO307.out))) (g := gb276) (o := .cells #[.int .i64 (-7), .int .i64 (-8)] 56 (0, 0)) (by (with_reducible repeat (first | refine blk_drewN ?_ _ | refine blk_drew ?_ | refine blk_alloc ?_ _)); exact BK276.out)) (below_size (by repeat (first | (with_reducible first | exact HB.out | apply zD | apply zE | apply zF | refine below_set ?_ GE276.out) | exact HB.out)))); have n6_ := Aside0.mk (blk_below (g := gb276) (o := .cells #[.int .i64 (-7), .int .i64 (-8)] 56 (0, 0)) (by (with_reducible repeat (first | refine blk_drewN ?_ _ | refine blk_drew ?_ | refine blk_alloc ?_ _)); exact BK276.out) hb); have n7_ := Aside0.mk (Kd.C_below (by repeat (first | (with_reducible exact HR298.out) | (with_reducible refine Kd.C_alloc ?_ _) | (with_reducible refine Kd.C_drewN ?_ _) | (with_reducible refine Kd.C_drew ?_) | exact HR298.out)) hb); have n8_ := Aside0.mk (Kd.C_below (by repeat (first | (with_reducible exact HR302.out) | (with_reducible refine Kd.C_alloc ?_ _) | (with_reducible refine Kd.C_drewN ?_ _) | (with_reducible refine Kd.C_drew ?_) | exact HR302.out)) hb); have n9_ := Aside0.mk (below_step (by repeat (first | (with_reducible first | exact HB.out | apply zD | apply zE | apply zF | refine below_set ?_ GE276.out) | exact HB.out)) hb); clear HO282; clear HO285; clear HO291; clear HO294; clear HO307; clear BK276; clear HR298; clear HR302; clear HB; have HO282 := n0_; have HO285 := n1_; have HO291 := n2_; have HO294 := n3_; have HO307 := n4_; have HO310 := n5_; have BK276 := n6_; have HR298 := n7_; have HR302 := n8_; have HB := n9_; clear n0_ n1_ n2_ n3_ n4_ n5_ n6_ n7_ n8_ n9_; (try clear hb); (try clear hb2); (try clear hk); (try clear hi); (try clear ho0)) | ((with_reducible refine gate_callee (f := 61) rfl ?_); refine goesL_ (some 52) rfl rfl Try.func61 (by kernel_rfl) rfl #[.slice Ao42 y295.length co42, .slice Ao44 y299.length co44] rfl (by (try simp only [List.map_toArray, List.map_cons, List.map_nil]); first | done | rfl | (simp only [List.length_drop, List.length_take]; rfl)) ?_; (with_reducible refine (scalars_Meet.calls k _ _ y295 _ _ y299 t311 _ ?side1 ?side2 ?side3 ?side4 A15.out).mono ?_); (case side1 => repeat (first | exact (by repeat (first | (with_reducible exact HR298.out) | (with_reducible refine Kd.C_alloc ?_ _) | (with_reducible refine Kd.C_drewN ?_ _) | (with_reducible refine Kd.C_drew ?_) | exact HR298.out)) | (with_reducible refine Kd.C_alloc ?_ _) | (with_reducible refine Kd.C_drewN ?_ _) | (with_reducible refine Kd.C_drew ?_))); (case side2 => exact HC298.out); (case side3 => repeat (first | exact (by repeat (first | (with_reducible exact HR302.out) | (with_reducible refine Kd.C_alloc ?_ _) | (with_reducible refine Kd.C_drewN ?_ _) | (with_reducible refine Kd.C_drew ?_) | exact HR302.out)) | (with_reducible refine Kd.C_alloc ?_ _) | (with_reducible refine Kd.C_drewN ?_ _) | (with_reducible refine Kd.C_drew ?_))); (case side4 => exact HC302.out); rintro e w47 ⟨v312, rfl, ho0, hb⟩; refine ⟨_, rfl, ?_⟩; have n0_ := Aside0.mk (Kd.R_elder' (by (with_reducible repeat (first | apply zA | apply zB | apply zC)); exact HO282.out) (Kd.R_base ho0) hb); have n1_ := Aside0.mk (Kd.R_elder' (by (with_reducible repeat (first | apply zA | apply zB | apply zC)); exact HO285.out) (Kd.R_base ho0) hb); have n2_ := Aside0.mk (Kd.R_elder' (by (with_reducible repeat (first | apply zA | apply zB | apply zC)); exact HO291.out) (Kd.R_base ho0) hb); have n3_ := Aside0.mk (Kd.R_elder' (by (with_reducible repeat (first | apply zA | apply zB | apply zC)); exact HO294.out) (Kd.R_base ho0) hb); have n4_ := Aside0.mk (Kd.R_elder' (by (with_reducible repeat (first | apply zA | apply zB | apply zC)); exact HO307.out) (Kd.R_base ho0) hb); have n5_ := Aside0.mk (Kd.R_elder' (by (with_reducible repeat (first | apply zA | apply zB | apply zC)); exact HO310.out) (Kd.R_base ho0) hb); have n6_ := Aside0.mk (Kd.R_lower (Kd.R_newB (Kd.R_new' (Kd.R_new' (Kd.R_new' (Kd.R_new' (Kd.R_new' (Kd.R_new' ho0 (Kd.R_lt (by (with_reducible repeat (first | apply zA | apply zB | apply zC)); exact HO282.out))) (Kd.R_lt (by (with_reducible repeat (first | apply zA | apply zB | apply zC)); exact HO285.out))) (Kd.R_lt (by (with_reducible repeat (first | apply zA | apply zB | apply zC)); exact HO291.out))) (Kd.R_lt (by (with_reducible repeat (first | apply zA | apply zB | apply zC)); exact HO294.out))) (Kd.R_lt (by (with_reducible repeat (first | apply zA | apply zB | apply zC)); exact HO307.out))) (Kd.R_lt (by (with_reducible repeat (first | apply zA | apply zB | apply zC)); exact HO310.out))) (g := gb276) (o := .cells #[.int .i64 (-7), .int .i64 (-8)] 56 (0, 0)) (by (with_reducible repeat (first | refine blk_drewN ?_ _ | refine blk_drew ?_ | refine blk_alloc ?_ _)); exact BK276.out)) (below_size (by repeat (first | (with_reducible first | exact HB.out | apply zD | apply zE | apply zF | refine below_set ?_ GE276.out) | exact HB.out)))); have n7_ := Aside0.mk (blk_below (g := gb276) (o := .cells #[.int .i64 (-7), .int .i64 (-8)] 56 (0, 0)) (by (with_reducible repeat (first | refine blk_drewN ?_ _ | refine blk_drew ?_ | refine blk_alloc ?_ _)); exact BK276.out) hb); have n8_ := Aside0.mk (Kd.C_below (by repeat (first | (with_reducible exact HR298.out) | (with_reducible refine Kd.C_alloc ?_ _) | (with_reducible refine Kd.C_drewN ?_ _) | (with_reducible refine Kd.C_drew ?_) | exact HR298.out)) hb); have n9_ := Aside0.mk (Kd.C_below (by repeat (first | (with_reducible exact HR302.out) | (with_reducible refine Kd.C_alloc ?_ _) | (with_reducible refine Kd.C_drewN ?_ _) | (with_reducible refine Kd.C_drew ?_) | exact HR302.out)) hb); have n10_ := Aside0.mk (below_step (by repeat (first | (with_reducible first | exact HB.out | apply zD | apply zE | apply zF | refine below_set ?_ GE276.out) | exact HB.out)) hb); clear HO282; clear HO285; clear HO291; clear HO294; clear HO307; clear HO310; clear BK276; clear HR298; clear HR302; clear HB; have HO282 := n0_; have HO285 := n1_; have HO291 := n2_; have HO294 := n3_; have HO307 := n4_; have HO310 := n5_; have HO313 := n6_; have BK276 := n7_; have HR298 := n8_; have HR302 := n9_; have HB := n10_; clear n0_ n1_ n2_ n3_ n4_ n5_ n6_ n7_ n8_ n9_ n10_; (try clear hb); (try clear hb2); (try clear hk); (try clear hi); (try clear ho0)) | ((with_reducible refine gate_callee (f := 62) rfl ?_); refine goesL_ (some 55) rfl rfl Try.func62 (by kernel_rfl) rfl #[.slice Ao42 y295.length co42, .slice Ao44 y299.length co44] rfl (by (try simp only [List.map_toArray, List.map_cons, List.map_nil]); first | done | rfl | (simp only [List.length_drop, List.length_take]; rfl)) ?_; (with_reducible refine (scalars_Minus.calls k _ _ y295 _ _ y299 t314 _ ?side1 ?side2 ?side3 ?side4 A16.out).mono ?_); (case side1 => repeat (first | exact (by repeat (first | (with_reducible exact HR298.out) | (with_reducible refine Kd.C_alloc ?_ _) | (with_reducible refine Kd.C_drewN ?_ _) | (with_reducible refine Kd.C_drew ?_) | exact HR298.out)) | (with_reducible refine Kd.C_alloc ?_ _) | (with_reducible refine Kd.C_drewN ?_ _) | (with_reducible refine Kd.C_drew ?_))); (case side2 => exact HC298.out); (case side3 => repeat (first | exact (by repeat (first | (with_reducible exact HR302.out) | (with_reducible refine Kd.C_alloc ?_ _) | (with_reducible refine Kd.C_drewN ?_ _) | (with_reducible refine Kd.C_drew ?_) | exact HR302.out)) | (with_reducible refine Kd.C_alloc ?_ _) | (with_reducible refine Kd.C_drewN ?_ _) | (with_reducible refine Kd.C_drew ?_))); (case side4 => exact HC302.out); rintro e w48 ⟨v315, rfl, ho0, hb⟩; refine ⟨_, rfl, ?_⟩; have n0_ := Aside0.mk (Kd.R_elder' (by (with_reducible repeat (first | apply zA | apply zB | apply zC)); exact HO282.out) (Kd.R_base ho0) hb); have n1_ := Aside0.mk (Kd.R_elder' (by (with_reducible repeat (first | apply zA | apply zB | apply zC)); exact HO285.out) (Kd.R_base ho0) hb); have n2_ := Aside0.mk (Kd.R_elder' (by (with_reducible repeat (first | apply zA | apply zB | apply zC)); exact HO291.out) (Kd.R_base ho0) hb); have n3_ := Aside0.mk (Kd.R_elder' (by (with_reducible repeat (first | apply zA | apply zB | apply zC)); exact HO294.out) (Kd.R_base ho0) hb); have n4_ := Aside0.mk (Kd.R_elder' (by (with_reducible repeat (first | apply zA | apply zB | apply zC)); exact HO307.out) (Kd.R_base ho0) hb); have n5_ := Aside0.mk (Kd.R_elder' (by (with_reducible repeat (first | apply zA | apply zB | apply zC)); exact HO310.out) (Kd.R_base ho0) hb); have n6_ := Aside0.mk (Kd.R_elder' (by (with_reducible repeat (first | apply zA | apply zB | apply zC)); exact HO313.out) (Kd.R_base ho0) hb); have n7_ := Aside0.mk (Kd.R_lower (Kd.R_newB (Kd.R_new' (Kd.R_new' (Kd.R_new' (Kd.R_new' (Kd.R_new' (Kd.R_new' (Kd.R_new' ho0 (Kd.R_lt (by (with_reducible repeat (first | apply zA | apply zB | apply zC)); exact HO282.out))) (Kd.R_lt (by (with_reducible repeat (first | apply zA | apply zB | apply zC)); exact HO285.out))) (Kd.R_lt (by (with_reducible repeat (first | apply zA | apply zB | apply zC)); exact HO291.out))) (Kd.R_lt (by (with_reducible repeat (first | apply zA | apply zB | apply zC)); exact HO294.out))) (Kd.R_lt (by (with_reducible repeat (first | apply zA | apply zB | apply zC)); exact HO307.out))) (Kd.R_lt (by (with_reducible repeat (first | apply zA | apply zB | apply zC)); exact HO310.out))) (Kd.R_lt (by (with_reducible repeat (first | apply zA | apply zB | apply zC)); exact HO313.out))) (g := gb276) (o := .cells #[.int .i64 (-7), .int .i64 (-8)] 56 (0, 0)) (by (with_reducible repeat (first | refine blk_drewN ?_ _ | refine blk_drew ?_ | refine blk_alloc ?_ _)); exact BK276.out)) (below_size (by repeat (first | (with_reducible first | exact HB.out | apply zD | apply zE | apply zF | refine below_set ?_ GE276.out) | exact HB.out)))); have n8_ := Aside0.mk (blk_below (g := gb276) (o := .cells #[.int .i64 (-7), .int .i64 (-8)] 56 (0, 0)) (by (with_reducible repeat (first | refine blk_drewN ?_ _ | refine blk_drew ?_ | refine blk_alloc ?_ _)); exact BK276.out) hb); have n9_ := Aside0.mk (Kd.C_below (by repeat (first | (with_reducible exact HR298.out) | (with_reducible refine Kd.C_alloc ?_ _) | (with_reducible refine Kd.C_drewN ?_ _) | (with_reducible refine Kd.C_drew ?_) | exact HR298.out)) hb); have n10_ := Aside0.mk (Kd.C_below (by repeat (first | (with_reducible exact HR302.out) | (with_reducible refine Kd.C_alloc ?_ _) | (with_reducible refine Kd.C_drewN ?_ _) | (with_reducible refine Kd.C_drew ?_) | exact HR302.out)) hb); have n11_ := Aside0.mk (below_step (by repeat (first | (with_reducible first | exact HB.out | apply zD | apply zE | apply zF | refine below_set ?_ GE276.out) | exact HB.out)) hb); clear HO282; clear HO285; clear HO291; clear HO294; clear HO307; clear HO310; clear HO313; clear BK276; clear HR298; clear HR302; clear HB; have HO282 := n0_; have HO285 := n1_; have HO291 := n2_; have HO294 := n3_; have HO307 := n4_; have HO310 := n5_; have HO313 := n6_; have HO316 := n7_; have BK276 := n8_; have HR298 := n9_; have HR302 := n10_; have HB := n11_; clear n0_ n1_ n2_ n3_ n4_ n5_ n6_ n7_ n8_ n9_ n10_ n11_; (try clear hb); (try clear hb2); (try clear hk); (try clear hi); (try clear ho0)) | ((with_reducible refine gate_callee (f := 64) rfl ?_); refine goesL_ (some 57) rfl rfl Try.func64 (by kernel_rfl) rfl #[.slice Ao42 y295.length co42] rfl (by (try simp only [List.map_toArray, List.map_cons, List.map_nil]); first | done | rfl | (simp only [List.length_drop, List.length_take]; rfl)) ?_; (with_reducible refine (scalars_Not.calls k _ _ y295 t317 _ ?side1 ?side2 A17.out).mono ?_); (case side1 => repeat (first | exact (by repeat (first | (with_reducible exact HR298.out) | (with_reducible refine Kd.C_alloc ?_ _) | (with_reducible refine Kd.C_drewN ?_ _) | (with_reducible refine Kd.C_drew ?_) | exact HR298.out)) | (with_reducible refine Kd.C_alloc ?_ _) | (with_reducible refine Kd.C_drewN ?_ _) | (with_reducible refine Kd.C_drew ?_))); (case side2 => exact HC298.out); rintro e w49 ⟨v318, rfl, ho0, hb⟩; refine ⟨_, rfl, ?_⟩; have n0_ := Aside0.mk (Kd.R_elder' (by (with_reducible repeat (first | apply zA | apply zB | apply zC)); exact HO282.out) (Kd.R_base ho0) hb); have n1_ := Aside0.mk (Kd.R_elder' (by (with_reducible repeat (first | apply zA | apply zB | apply zC)); exact HO285.out) (Kd.R_base ho0) hb); have n2_ := Aside0.mk (Kd.R_elder' (by (with_reducible repeat (first | apply zA | apply zB | apply zC)); exact HO291.out) (Kd.R_base ho0) hb); have n3_ := Aside0.mk (Kd.R_elder' (by (with_reducible repeat (first | apply zA | apply zB | apply zC)); exact HO294.out) (Kd.R_base ho0) hb); have n4_ := Aside0.mk (Kd.R_elder' (by (with_reducible repeat (first | apply zA | apply zB | apply zC)); exact HO307.out) (Kd.R_base ho0) hb); have n5_ := Aside0.mk (Kd.R_elder' (by (with_reducible repeat (first | apply zA | apply zB | apply zC)); exact HO310.out) (Kd.R_base ho0) hb); have n6_ := Aside0.mk (Kd.R_elder' (by (with_reducible repeat (first | apply zA | apply zB | apply zC)); exact HO313.out) (Kd.R_base ho0) hb); have n7_ := Aside0.mk (Kd.R_elder' (by (with_reducible repeat (first | apply zA | apply zB | apply zC)); exact HO316.out) (Kd.R_base ho0) hb); have n8_ := Aside0.mk (Kd.R_lower (Kd.R_newB (Kd.R_new' (Kd.R_new' (Kd.R_new' (Kd.R_new' (Kd.R_new' (Kd.R_new' (Kd.R_new' (Kd.R_new' ho0 (Kd.R_lt (by (with_reducible repeat (first | apply zA | apply zB | apply zC)); exact HO282.out))) (Kd.R_lt (by (with_reducible repeat (first | apply zA | apply zB | apply zC)); exact HO285.out))) (Kd.R_lt (by (with_reducible repeat (first | apply zA | apply zB | apply zC)); exact HO291.out))) (Kd.R_lt (by (with_reducible repeat (first | apply zA | apply zB | apply zC)); exact HO294.out))) (Kd.R_lt (by (with_reducible repeat (first | apply zA | apply zB | apply zC)); exact HO307.out))) (Kd.R_lt (by (with_reducible repeat (first | apply zA | apply zB | apply zC)); exact HO310.out))) (Kd.R_lt (by (with_reducible repeat (first | apply zA | apply zB | apply zC)); exact HO313.out))) (Kd.R_lt (by (with_reducible repeat (first | apply zA | apply zB | apply zC)); exact HO316.out))) (g := gb276) (o := .cells #[.int .i64 (-7), .int .i64 (-8)] 56 (0, 0)) (by (with_reducible repeat (first | refine blk_drewN ?_ _ | refine blk_drew ?_ | refine blk_alloc ?_ _)); exact BK276.out)) (below_size (by repeat (first | (with_reducible first | exact HB.out | apply zD | apply zE | apply zF | refine below_set ?_ GE276.out) | exact HB.out)))); have n9_ := Aside0.mk (blk_below (g := gb276) (o := .cells #[.int .i64 (-7), .int .i64 (-8)] 56 (0, 0)) (by (with_reducible repeat (first | refine blk_drewN ?_ _ | refine blk_drew ?_ | refine blk_alloc ?_ _)); exact BK276.out) hb); have n10_ := Aside0.mk (Kd.C_below (by repeat (first | (with_reducible exact HR298.out) | (with_reducible refine Kd.C_alloc ?_ _) | (with_reducible refine Kd.C_drewN ?_ _) | (with_reducible refine Kd.C_drew ?_) | exact HR298.out)) hb); have n11_ := Aside0.mk (Kd.C_below (by repeat (first | (with_reducible exact HR302.out) | (with_reducible refine Kd.C_alloc ?_ _) | (with_reducible refine Kd.C_drewN ?_ _) | (with_reducible refine Kd.C_drew ?_) | exact HR302.out)) hb); have n12_ := Aside0.mk (below_step (by repeat (first | (with_reducible first | exact HB.out | apply zD | apply zE | apply zF | refine below_set ?_ GE276.out) | exact HB.out)) hb); clear HO282; clear HO285; clear HO291; clear HO294; clear HO307; clear HO310; clear HO313; clear HO316; clear BK276; clear HR298; clear HR302; clear HB; have HO282 := n0_; have HO285 := n1_; have HO291 := n2_; have HO294 := n3_; have HO307 := n4_; have HO310 := n5_; have HO313 := n6_; have HO316 := n7_; have HO319 := n8_; have BK276 := n9_; have HR298 := n10_; have HR302 := n11_; have HB := n12_; clear n0_ n1_ n2_ n3_ n4_ n5_ n6_ n7_ n8_ n9_ n10_ n11_ n12_; (try clear hb); (try clear hb2); (try clear hk); (try clear hi); (try clear ho0)) | ((with_reducible refine gate_callee (f := 59) rfl ?_); refine goesL_ (some 59) rfl rfl Try.func59 (by kernel_rfl) rfl #[.slice Ao42 y295.length co42, .slice none 0 0] rfl (by (try simp only [List.map_toArray, List.map_cons, List.map_nil]); first | done | rfl | (simp only [List.length_drop, List.length_take]; rfl)) ?_; (refine (scalars_Union.calls k _ _ y295 _ _ ([] : List (S56)) t320 _ ?side1 ?side2 ?side3 ?side4 A18.out).mono ?_); (case side1 => repeat (first | exact (by repeat (first | (with_reducible exact HR298.out) | (with_reducible refine Kd.C_alloc ?_ _) | (with_reducible refine Kd.C_drewN ?_ _) | (with_reducible refine Kd.C_drew ?_) | exact HR298.out)) | (with_reducible refine Kd.C_alloc ?_ _) | (with_reducible refine Kd.C_drewN ?_ _) | (with_reducible refine Kd.C_drew ?_))); (case side2 => exact HC298.out); (case side3 => exact Kd.C_nil _ _); (case side4 => exact Nat.le_refl _); rintro e w50 ⟨v321, rfl, ho0, hb⟩; refine ⟨_, rfl, ?_⟩; have n0_ := Aside0.mk (Kd.R_elder' (by (with_reducible repeat (first | apply zA | apply zB | apply zC)); exact HO282.out) (Kd.R_base ho0) hb); have n1_ := Aside0.mk (Kd.R_elder' (by (with_reducible repeat (first | apply zA | apply zB | apply zC)); exact HO285.out) (Kd.R_base ho0) hb); have n2_ := Aside0.mk (Kd.R_elder' (by (with_reducible repeat (first | apply zA | apply zB | apply zC)); exact HO291.out) (Kd.R_base ho0) hb); have n3_ := Aside0.mk (Kd.R_elder' (by (with_reducible repeat (first | apply zA | apply zB | apply zC)); exact HO294.out) (Kd.R_base ho0) hb); have n4_ := Aside0.mk (Kd.R_elder' (by (with_reducible repeat (first | apply zA | apply zB | apply zC)); exact HO307.out) (Kd.R_base ho0) hb); have n5_ := Aside0.mk (Kd.R_elder' (by (with_reducible repeat (first | apply zA | apply zB | apply zC)); exact HO310.out) (Kd.R_base ho0) hb); have n6_ := Aside0.mk (Kd.R_elder' (by (with_reducible repeat (first | apply zA | apply zB | apply zC)); exact HO313.out) (Kd.R_base ho0) hb); have n7_ := Aside0.mk (Kd.R_elder' (by (with_reducible repeat (first | apply zA | apply zB | apply zC)); exact HO316.out) (Kd.R_base ho0) hb); have n8_ := Aside0.mk (Kd.R_elder' (by (with_reducible repeat (first | apply zA | apply zB | apply zC)); exact HO319.out) (Kd.R_base ho0) hb); have n9_ := Aside0.mk (Kd.R_lower (Kd.R_newB (Kd.R_new' (Kd.R_new' (Kd.R_new' (Kd.R_new' (Kd.R_new' (Kd.R_new' (Kd.R_new' (Kd.R_new' (Kd.R_new' ho0 (Kd.R_lt (by (with_reducible repeat (first | apply zA | apply zB | apply zC)); exact HO282.out))) (Kd.R_lt (by (with_reducible repeat (first | apply zA | apply zB | apply zC)); exact HO285.out))) (Kd.R_lt (by (with_reducible repeat (first | apply zA | apply zB | apply zC)); exact HO291.out))) (Kd.R_lt (by (with_reducible repeat (first | apply zA | apply zB | apply zC)); exact HO294.out))) (Kd.R_lt (by (with_reducible repeat (first | apply zA | apply zB | apply zC)); exact HO307.out))) (Kd.R_lt (by (with_reducible repeat (first | apply zA | apply zB | apply zC)); exact HO310.out))) (Kd.R_lt (by (with_reducible repeat (first | apply zA | apply zB | apply zC)); exact HO313.out))) (Kd.R_lt (by (with_reducible repeat (first | apply zA | apply zB | apply zC)); exact HO316.out))) (Kd.R_lt (by (with_reducible repeat (first | apply zA | apply zB | apply zC)); exact HO319.out))) (g := gb276) (o := .cells #[.int .i64 (-7), .int .i64 (-8)] 56 (0, 0)) (by (with_reducible repeat (first | refine blk_drewN ?_ _ | refine blk_drew ?_ | refine blk_alloc ?_ _)); exact BK276.out)) (below_size (by repeat (first | (with_reducible first | exact HB.out | apply zD | apply zE | apply zF | refine below_set ?_ GE276.out) | exact HB.out)))); have n10_ := Aside0.mk (blk_below (g := gb276) (o := .cells #[.int .i64 (-7), .int .i64 (-8)] 56 (0, 0)) (by (with_reducible repeat (first | refine blk_drewN ?_ _ | refine blk_drew ?_ | refine blk_alloc ?_ _)); exact BK276.out) hb); have n11_ := Aside0.mk (Kd.C_below (by repeat (first | (with_reducible exact HR298.out) | (with_reducible refine Kd.C_alloc ?_ _) | (with_reducible refine Kd.C_drewN ?_ _) | (with_reducible refine Kd.C_drew ?_) | exact HR298.out)) hb); have n12_ := Aside0.mk (Kd.C_below (by repeat (first | (with_reducible exact HR302.out) | (with_reducible refine Kd.C_alloc ?_ _) | (with_reducible refine Kd.C_drewN ?_ _) | (with_reducible refine Kd.C_drew ?_) | exact HR302.out)) hb); have n13_ := Aside0.mk (below_step (by repeat (first | (with_reducible first | exact HB.out | apply zD | apply zE | apply zF | refine below_set ?_ GE276.out) | exact HB.out)) hb); clear HO282; clear HO285; clear HO291; clear HO294; clear HO307; clear HO310; clear HO313; clear HO316; clear HO319; clear BK276; clear HR298; clear HR302; clear HB; have HO282 := n0_; have HO285 := n1_; have HO291 := n2_; have HO294 := n3_; have HO307 := n4_; have HO310 := n5_; have HO313 := n6_; have HO316 := n7_; have HO319 := n8_; have HO322 := n9_; have BK276 := n10_; have HR298 := n11_; have HR302 := n12_; have HB := n13_; clear n0_ n1_ n2_ n3_ n4_ n5_ n6_ n7_ n8_ n9_ n10_ n11_ n12_ n13_; (try clear hb); (try clear hb2); (try clear hk); (try clear hi); (try clear ho0)) | ((with_reducible refine gate_callee (f := 61) rfl ?_); refine goesL_ (some 62) rfl rfl Try.func61 (by kernel_rfl) rfl #[.slice Ao42 y295.length co42, .slice Ao42 y295.length co42] rfl (by (try simp only [List.map_toArray, List.map_cons, List.map_nil]); first | done | rfl | (simp only [List.length_drop, List.length_take]; rfl)) ?_; (with_reducible refine (scalars_Meet.calls k _ _ y295 _ _ y295 t323 _ ?side1 ?side2 ?side3 ?side4 A19.out).mono ?_); (case side1 => repeat (first | exact (by repeat (first | (with_reducible exact HR298.out) | (with_reducible refine Kd.C_alloc ?_ _) | (with_reducible refine Kd.C_drewN ?_ _) | (with_reducible refine Kd.C_drew ?_) | exact HR298.out)) | (with_reducible refine Kd.C_alloc ?_ _) | (with_reducible refine Kd.C_drewN ?_ _) | (with_reducible refine Kd.C_drew ?_))); (case side2 => exact HC298.out); (case side3 => repeat (first | exact (by repeat (first | (with_reducible exact HR298.out) | (with_reducible refine Kd.C_alloc ?_ _) | (with_reducible refine Kd.C_drewN ?_ _) | (with_reducible refine Kd.C_drew ?_) | exact HR298.out)) | (with_reducible refine Kd.C_alloc ?_ _) | (with_reducible refine Kd.C_drewN ?_ _) | (with_reducible refine Kd.C_drew ?_))); (case side4 => exact HC298.out); rintro e w51 ⟨v324, rfl, ho0, hb⟩; refine ⟨_, rfl, ?_⟩; have n0_ := Aside0.mk (Kd.R_elder' (by (with_reducible repeat (first | apply zA | apply zB | apply zC)); exact HO282.out) (Kd.R_base ho0) hb); have n1_ := Aside0.mk (Kd.R_elder' (by (with_reducible repeat (first | apply zA | apply zB | apply zC)); exact HO285.out) (Kd.R_base ho0) hb); have n2_ := Aside0.mk (Kd.R_elder' (by (with_reducible repeat (first | apply zA | apply zB | apply zC)); exact HO291.out) (Kd.R_base ho0) hb); have n3_ := Aside0.mk (Kd.R_elder' (by (with_reducible repeat (first | apply zA | apply zB | apply zC)); exact HO294.out) (Kd.R_base ho0) hb); have n4_ := Aside0.mk (Kd.R_elder' (by (with_reducible repeat (first | apply zA | apply zB | apply zC)); exact HO307.out) (Kd.R_base ho0) hb); have n5_ := Aside0.mk (Kd.R_elder' (by (with_reducible repeat (first | apply zA | apply zB | apply zC)); exact HO310.out) (Kd.R_base ho0) hb); have n6_ := Aside0.mk (Kd.R_elder' (by (with_reducible repeat (first | apply zA | apply zB | apply zC)); exact HO313.out) (Kd.R_base ho0) hb); have n7_ := Aside0.mk (Kd.R_elder' (by (with_reducible repeat (first | apply zA | apply zB | apply zC)); exact HO316.out) (Kd.R_base ho0) hb); have n8_ := Aside0.mk (Kd.R_elder' (by (with_reducible repeat (first | apply zA | apply zB | apply zC)); exact HO319.out) (Kd.R_base ho0) hb); have n9_ := Aside0.mk (Kd.R_elder' (by (with_reducible repeat (first | apply zA | apply zB | apply zC)); exact HO322.out) (Kd.R_base ho0) hb); have n10_ := Aside0.mk (Kd.R_lower (Kd.R_newB (Kd.R_new' (Kd.R_new' (Kd.R_new' (Kd.R_new' (Kd.R_new' (Kd.R_new' (Kd.R_new' (Kd.R_new' (Kd.R_new' (Kd.R_new' ho0 (Kd.R_lt (by (with_reducible repeat (first | apply zA | apply zB | apply zC)); exact HO282.out))) (Kd.R_lt (by (with_reducible repeat (first | apply zA | apply zB | apply zC)); exact HO285.out))) (Kd.R_lt (by (with_reducible repeat (first | apply zA | apply zB | apply zC)); exact HO291.out))) (Kd.R_lt (by (with_reducible repeat (first | apply zA | apply zB | apply zC)); exact HO294.out))) (Kd.R_lt (by (with_reducible repeat (first | apply zA | apply zB | apply zC)); exact HO307.out))) (Kd.R_lt (by (with_reducible repeat (first | apply zA | apply zB | apply zC)); exact HO310.out))) (Kd.R_lt (by (with_reducible repeat (first | apply zA | apply zB | apply zC)); exact HO313.out))) (Kd.R_lt (by (with_reducible repeat (first | apply zA | apply zB | apply zC)); exact HO316.out))) (Kd.R_lt (by (with_reducible repeat (first | apply zA | apply zB | apply zC)); exact HO319.out))) (Kd.R_lt (by (with_reducible repeat (first | apply zA | apply zB | apply zC)); exact HO322.out))) (g := gb276) (o := .cells #[.int .i64 (-7), .int .i64 (-8)] 56 (0, 0)) (by (with_reducible repeat (first | refine blk_drewN ?_ _ | refine blk_drew ?_ | refine blk_alloc ?_ _)); exact BK276.out)) (below_size (by repeat (first | (with_reducible first | exact HB.out | apply zD | apply zE | apply zF | refine below_set ?_ GE276.out) | exact HB.out)))); have n11_ := Aside0.mk (blk_below (g := gb276) (o := .cells #[.int .i64 (-7), .int .i64 (-8)] 56 (0, 0)) (by (with_reducible repeat (first | refine blk_drewN ?_ _ | refine blk_drew ?_ | refine blk_alloc ?_ _)); exact BK276.out) hb); have n12_ := Aside0.mk (Kd.C_below (by repeat (first | (with_reducible exact HR298.out) | (with_reducible refine Kd.C_alloc ?_ _) | (with_reducible refine Kd.C_drewN ?_ _) | (with_reducible refine Kd.C_drew ?_) | exact HR298.out)) hb); have n13_ := Aside0.mk (Kd.C_below (by repeat (first | (with_reducible exact HR302.out) | (with_reducible refine Kd.C_alloc ?_ _) | (with_reducible refine Kd.C_drewN ?_ _) | (with_reducible refine Kd.C_drew ?_) | exact HR302.out)) hb); have n14_ := Aside0.mk (below_step (by repeat (first | (with_reducible first | exact HB.out | apply zD | apply zE | apply zF | refine below_set ?_ GE276.out) | exact HB.out)) hb); clear HO282; clear HO285; clear HO291; clear HO294; clear HO307; clear HO310; clear HO313; clear HO316; clear HO319; clear HO322; clear BK276; clear HR298; clear HR302; clear HB; have HO282 := n0_; have HO285 := n1_; have HO291 := n2_; have HO294 := n3_; have HO307 := n4_; have HO310 := n5_; have HO313 := n6_; have HO316 := n7_; have HO319 := n8_; have HO322 := n9_; have HO325 := n10_; have BK276 := n11_; have HR298 := n12_; have HR302 := n13_; have HB := n14_; clear n0_ n1_ n2_ n3_ n4_ n5_ n6_ n7_ n8_ n9_ n10_ n11_ n12_ n13_ n14_; (try clear hb); (try clear hb2); (try clear hk); (try clear hi); (try clear ho0); obtain ⟨Ao52, co52, eo52⟩ := Kd.R_slice HO307.out; subst eo52; obtain ⟨Ao53, co53, eo53⟩ := Kd.R_slice HO310.out; subst eo53; obtain ⟨Ao54, co54, eo54⟩ := Kd.R_slice HO313.out; subst eo54; obtain ⟨Ao55, co55, eo55⟩ := Kd.R_slice HO316.out; subst eo55; obtain ⟨Ao56, co56, eo56⟩ := Kd.R_slice HO319.out; subst eo56; obtain ⟨Ao57, co57, eo57⟩ := Kd.R_slice HO322.out; subst eo57; obtain ⟨Ao58, co58, eo58⟩ := Kd.R_slice HO325.out; subst eo58) | ((with_reducible refine gate_dst (N := 63) rfl ?_); (try (refine gate_guard (by rfl) ?_; dsimp only)); refine Kd.S_rows k56 (e2 := 56) (w0 := w) w.heap.size 32 ?hg (N := 63) ?hd (xs := ([t303, t308, t311, t314, t317, t320, t323] : List (List (S56)))) (vs := [.slice Ao52 t303.length co52, .slice Ao53 t308.length co53, .slice Ao54 t311.length co54, .slice Ao55 t314.length co55, .slice Ao56 t317.length co56, .slice Ao57 t320.length co57, .slice Ao58 t323.length co58]) (ok := (fun k_ => some k_ ≠ (v281 : Value).ownBlock ∧ some k_ ≠ (.slice Ao42 y283.length co42 : Value).ownBlock ∧ some k_ ≠ (.slice Ao39 y289.length co39 : Value).ownBlock ∧ some k_ ≠ (.slice Ao44 y292.length co44 : Value).ownBlock ∧ k_ ≠ gb276)) ?hr ?hrow ?hap ?hok ?hfr ?hB ?hb ?hm ?_; (case hd => rfl); (case hg => rfl); (case hr => first | (go_simp; done) | (go_simp; rfl)); (case hrow => exact (RowsL.cons (Kd.R_tight rfl (HO307.out)) (RowsL.cons (Kd.R_tight rfl (HO310.out)) (RowsL.cons (Kd.R_tight rfl (HO313.out)) (RowsL.cons (Kd.R_tight rfl (HO316.out)) (RowsL.cons (Kd.R_tight rfl (HO319.out)) (RowsL.cons (Kd.R_tight rfl (HO322.out)) (RowsL.cons (Kd.R_tight rfl (HO325.out)) RowsL.nil)))))))); (case hap => exact (ApartL.cons (AwayL.cons (fun k_ e_ e2_ => ((HO307.out.1 k_ e_.symm).1.1.1.1.1.2) e2_) (AwayL.cons (fun k_ e_ e2_ => ((HO307.out.1 k_ e_.symm).1.1.1.1.2) e2_) (AwayL.cons (fun k_ e_ e2_ => ((HO307.out.1 k_ e_.symm).1.1.1.2) e2_) (AwayL.cons (fun k_ e_ e2_ => ((HO307.out.1 k_ e_.symm).1.1.2) e2_) (AwayL.cons (fun k_ e_ e2_ => ((HO307.out.1 k_ e_.symm).1.2) e2_) (AwayL.cons (fun k_ e_ e2_ => ((HO307.out.1 k_ e_.symm).2) e2_) AwayL.nil)))))) (ApartL.cons (AwayL.cons (fun k_ e_ e2_ => ((HO310.out.1 k_ e_.symm).1.1.1.1.2) e2_) (AwayL.cons (fun k_ e_ e2_ => ((HO310.out.1 k_ e_.symm).1.1.1.2) e2_) (AwayL.cons (fun k_ e_ e2_ => ((HO310.out.1 k_ e_.symm).1.1.2) e2_) (AwayL.cons (fun k_ e_ e2_ => ((HO310.out.1 k_ e_.symm).1.2) e2_) (AwayL.cons (fun k_ e_ e2_ => ((HO310.out.1 k_ e_.symm).2) e2_) AwayL.nil))))) (ApartL.cons (AwayL.cons (fun k_ e_ e2_ => ((HO313.out.1 k_ e_.symm).1.1.1.2) e2_) (AwayL.cons (fun k_ e_ e2_ => ((HO313.out.1 k_ e_.symm).1.1.2) e2_) (AwayL.cons (fun k_ e_ e2_ => ((HO313.out.1 k_ e_.symm).1.2) e2_) (AwayL.cons (fun k_ e_ e2_ => ((HO313.out.1 k_ e_.symm).2) e2_) AwayL.nil)))) (ApartL.cons (AwayL.cons (fun k_ e_ e2_ => ((HO316.out.1 k_ e_.symm).1.1.2) e2_) (AwayL.cons (fun k_ e_ e2_ => ((HO316.out.1 k_ e_.symm).1.2) e2_) (AwayL.cons (fun k_ e_ e2_ => ((HO316.out.1 k_ e_.symm).2) e2_) AwayL.nil))) (ApartL.cons (AwayL.cons (fun k_ e_ e2_ => ((HO319.out.1 k_ e_.symm).1.2) e2_) (AwayL.cons (fun k_ e_ e2_ => ((HO319.out.1 k_ e_.symm).2) e2_) AwayL.nil)) (ApartL.cons (AwayL.cons (fun k_ e_ e2_ => ((HO322.out.1 k_ e_.symm).2) e2_) AwayL.nil) (ApartL.cons AwayL.nil ApartL.nil)))))))); (case hok => exact (okL_cons (fun k_ e_ => ⟨((HO307.out).1 k_ e_.symm).1.1.1.1.1.1.1.1.1.1.2, ⟨((HO307.out).1 k_ e_.symm).1.1.1.1.1.1.1.1.1.2, ⟨((HO307.out).1 k_ e_.symm).1.1.1.1.1.1.1.1.2, ⟨((HO307.out).1 k_ e_.symm).1.1.1.1.1.1.1.2, ((HO307.out).1 k_ e_.symm).1.1.1.1.1.1.2⟩⟩⟩⟩) (okL_cons (fun k_ e_ => ⟨((HO310.out).1 k_ e_.symm).1.1.1.1.1.1.1.1.1.1.2, ⟨((HO310.out).1 k_ e_.symm).1.1.1.1.1.1.1.1.1.2, ⟨((HO310.out).1 k_ e_.symm).1.1.1.1.1.1.1.1.2, ⟨((HO310.out).1 k_ e_.symm).1.1.1.1.1.1.1.2, ((HO310.out).1 k_ e_.symm).1.1.1.1.1.2⟩⟩⟩⟩) (okL_cons (fun k_ e_ => ⟨((HO313.out).1 k_ e_.symm).1.1.1.1.1.1.1.1.1.1.2, ⟨((HO313.out).1 k_ e_.symm).1.1.1.1.1.1.1.1.1.2, ⟨((HO313.out).1 k_ e_.symm).1.1.1.1.1.1.1.1.2, ⟨((HO313.out).1 k_ e_.symm).1.1.1.1.1.1.1.2, ((HO313.out).1 k_ e_.symm).1.1.1.1.2⟩⟩⟩⟩) (okL_cons (fun k_ e_ => ⟨((HO316.out).1 k_ e_.symm).1.1.1.1.1.1.1.1.1.1.2, ⟨((HO316.out).1 k_ e_.symm).1.1.1.1.1.1.1.1.1.2, ⟨((HO316.out).1 k_ e_.symm).1.1.1.1.1.1.1.1.2, ⟨((HO316.out).1 k_ e_.symm).1.1.1.1.1.1.1.2, ((HO316.out).1 k_ e_.symm).1.1.1.2⟩⟩⟩⟩) (okL_cons (fun k_ e_ => ⟨((HO319.out).1 k_ e_.symm).1.1.1.1.1.1.1.1.1.1.2, ⟨((HO319.out).1 k_ e_.symm).1.1.1.1.1.1.1.1.1.2, ⟨((HO319.out).1 k_ e_.symm).1.1.1.1.1.1.1.1.2, ⟨((HO319.out).1 k_ e_.symm).1.1.1.1.1.1.1.2, ((HO319.out).1 k_ e_.symm).1.1.2⟩⟩⟩⟩) (okL_cons (fun k_ e_ => ⟨((HO322.out).1 k_ e_.symm).1.1.1.1.1.1.1.1.1.1.2, ⟨((HO322.out).1 k_ e_.symm).1.1.1.1.1.1.1.1.1.2, ⟨((HO322.out).1 k_ e_.symm).1.1.1.1.1.1.1.1.2, ⟨((HO322.out).1 k_ e_.symm).1.1.1.1.1.1.1.2, ((HO322.out).1 k_ e_.symm).1.2⟩⟩⟩⟩) (okL_cons (fun k_ e_ => ⟨((HO325.out).1 k_ e_.symm).1.1.1.1.1.1.1.1.1.1.2, ⟨((HO325.out).1 k_ e_.symm).1.1.1.1.1.1.1.1.1.2, ⟨((HO325.out).1 k_ e_.symm).1.1.1.1.1.1.1.1.2, ⟨((HO325.out).1 k_ e_.symm).1.1.1.1.1.1.1.2, ((HO325.out).1 k_ e_.symm).2⟩⟩⟩⟩) (fun _ h_ => (by cases h_)))))))))); (case hfr => exact ((show ∀ k_, w51.heap.size ≤ k_ → (fun k_ => some k_ ≠ (v281 : Value).ownBlock ∧ some k_ ≠ (.slice Ao42 y283.length co42 : Value).ownBlock ∧ some k_ ≠ (.slice Ao39 y289.length co39 : Value).ownBlock ∧ some k_ ≠ (.slice Ao44 y292.length co44 : Value).ownBlock ∧ k_ ≠ gb276) k_ from fun k_ hk => ⟨Kd.fresh' (Kd.R_lt (by (with_reducible repeat (first | apply zA | apply zB | apply zC)); exact HO282.out)) k_ hk, Kd.fresh' (Kd.R_lt (by (with_reducible repeat (first | apply zA | apply zB | apply zC)); exact HO285.out)) k_ hk, Kd.fresh' (Kd.R_lt (by (with_reducible repeat (first | apply zA | apply zB | apply zC)); exact HO291.out)) k_ hk, Kd.fresh' (Kd.R_lt (by (with_reducible repeat (first | apply zA | apply zB | apply zC)); exact HO294.out)) k_ hk, Kd.freshB (g := gb276) (o := .cells #[.int .i64 (-7), .int .i64 (-8)] 56 (0, 0)) (by (with_reducible repeat (first | refine blk_drewN ?_ _ | refine blk_drew ?_ | refine blk_alloc ?_ _)); exact BK276.out) k_ hk⟩) _ (Nat.le_refl _))); (case hB => exact (by repeat (first | (with_reducible first | exact HB.out | apply zD | apply zE | apply zF | refine below_set ?_ GE276.out) | exact HB.out))); (case hb => exact (below_size (by repeat (first | (with_reducible first | exact HB.out | apply zD | apply zE | apply zF | refine below_set ?_ GE276.out) | exact HB.out)))); (case hm => (first | decide | (simp; done))); intro v327 w59 ho60 hb hg_ hnew_; clear hg_ hnew_; (first | rw [← Ny326.out] at ho60 | (simp only [Int.reduceToNat] at ho60; rw [← Ny326.out] at ho60)); have n0_ := Aside0.mk (Kd.R_below (by (with_reducible repeat (first | apply zA | apply zB | apply zC)); exact HO282.out) hb); have n1_ := Aside0.mk (Kd.R_below (by (with_reducible repeat (first | apply zA | apply zB | apply zC)); exact HO285.out) hb); have n2_ := Aside0.mk (Kd.R_below (by (with_reducible repeat (first | apply zA | apply zB | apply zC)); exact HO291.out) hb); have n3_ := Aside0.mk (Kd.R_below (by (with_reducible repeat (first | apply zA | apply zB | apply zC)); exact HO294.out) hb); have n4_ := Aside0.mk (ho60); have n5_ := Aside0.mk (blk_below (g := gb276) (o := .cells #[.int .i64 (-7), .int .i64 (-8)] 56 (0, 0)) (by (with_reducible repeat (first | refine blk_drewN ?_ _ | refine blk_drew ?_ | refine blk_alloc ?_ _)); exact BK276.out) hb); have n6_ := Aside0.mk (Kd.C_below (by repeat (first | (with_reducible exact HR298.out) | (with_reducible refine Kd.C_alloc ?_ _) | (with_reducible refine Kd.C_drewN ?_ _) | (with_reducible refine Kd.C_drew ?_) | exact HR298.out)) hb); have n7_ := Aside0.mk (Kd.C_below (by repeat (first | (with_reducible exact HR302.out) | (with_reducible refine Kd.C_alloc ?_ _) | (with_reducible refine Kd.C_drewN ?_ _) | (with_reducible refine Kd.C_drew ?_) | exact HR302.out)) hb); have n8_ := Aside0.mk (below_step (by repeat (first | (with_reducible first | exact HB.out | apply zD | apply zE | apply zF | refine below_set ?_ GE276.out) | exact HB.out)) hb); clear HO282; clear HO285; clear HO291; clear HO294; clear BK276; clear HR298; clear HR302; clear HB; clear HO307; clear HO310; clear HO313; clear HO316; clear HO319; clear HO322; clear HO325; have HO282 := n0_; have HO285 := n1_; have HO291 := n2_; have HO294 := n3_; have HO328 := n4_; have BK276 := n5_; have HR298 := n6_; have HR302 := n7_; have HB := n8_; clear n0_ n1_ n2_ n3_ n4_ n5_ n6_ n7_ n8_; clear hb ho60; obtain ⟨Ao61, co61, eo61⟩ := Kd.S_slice HO328.out; subst eo61; have p329 : 0 ≤ (1 : Int) := (by omega); have q329 : 1 < (y326.length : Int) := of_decide_eq_true (by first | (with_reducible assumption) | assumption); obtain ⟨ad329, A329_0, c329_0, e329, hx329_0, hl329_0, hi329_0⟩ := at_L4 (Kd.S_reads' HO328.out).2.2 1 p329 q329; cases e329; obtain ⟨ce329, hce329, hMe329, hcc329⟩ := Kd.S_get HO328.out [] 1 p329 (by first | exact q329 | exact of_decide_eq_true (by first | (with_reducible assumption) | assumption) | (have e_ := (Kd.S_reads' HO328.out).1; omega)); obtain ⟨ve329_0, rfl, ge329_0⟩ := hMe329; have hv329_0 := hcc329 0 _ rfl; rw [Nat.add_zero, show ((Kd.slice 56 k56)).sz = 1 from rfl, Nat.mul_one] at hv329_0; replace hv329_0 := Option.some.inj (hv329_0.symm.trans hx329_0); rw [hv329_0] at ge329_0; have HL329_0 := Aside0.mk (show Kd.R k56 56 _ _ _ _ (rd_L4 y326 1) from ge329_0); clear hv329_0 ge329_0; clear hcc329 hce329; (try simp only [show (1 : Int).toNat = 1 from rfl, Nat.reduceMul, Nat.reduceEqDiff, Go.Addr.add, ↓reduceIte] at hx329_0); have qi329 : (1 < y326.length) = True := eq_true (by omega); (try rw [show ((1 : Int)).toNat = 1 from rfl] at hx329_0); have HR329_0 := Aside0.mk hi329_0; have HC329_0 := Aside0.mk hl329_0; clear hi329_0 hl329_0; replace p329 := eq_true p329; replace q329 := eq_true q329) | ((with_reducible refine gate_callee (f := 25) rfl ?_); refine goesL_ (some 67) rfl rfl Try.func25 (by kernel_rfl) rfl #[.slice A329_0 (rd_L4 y326 1).length c329_0] rfl (by (try simp only [List.map_toArray, List.map_cons, List.map_nil]); first | done | rfl | (simp only [List.length_drop, List.length_take]; rfl)) ?_; (with_reducible refine (leadtraillaw04_copied.calls _ _ (rd_L4 y326 1) t330 _ ?side1 ?side2 A21.out).mono ?_); (case side1 => repeat (first | exact (by repeat (first | (with_reducible exact HR329_0.out) | (with_reducible refine Kd.C_alloc ?_ _) | (with_reducible refine Kd.C_drewN ?_ _) | (with_reducible refine Kd.C_drew ?_) | exact HR329_0.out)) | (with_reducible refine Kd.C_alloc ?_ _) | (with_reducible refine Kd.C_drewN ?_ _) | (with_reducible refine Kd.C_drew ?_))); (case side2 => exact HC329_0.out); rintro e w62 ⟨v331, rfl, ho0, hb⟩; refine ⟨_, rfl, ?_⟩; have n0_ := Aside0.mk (Kd.R_elder' (by (with_reducible repeat (first | apply zA | apply zB | apply zC)); exact HO282.out) (Kd.R_base ho0) hb); have n1_ := Aside0.mk (Kd.R_elder' (by (with_reducible repeat (first | apply zA | apply zB | apply zC)); exact HO285.out) (Kd.R_base ho0) hb); have n2_ := Aside0.mk (Kd.R_elder' (by (with_reducible repeat (first | apply zA | apply zB | apply zC)); exact HO291.out) (Kd.R_base ho0) hb); have n3_ := Aside0.mk (Kd.R_elder' (by (with_reducible repeat (first | apply zA | apply zB | apply zC)); exact HO294.out) (Kd.R_base ho0) hb); have n4_ := Aside0.mk (Kd.S_elder' (by (with_reducible repeat (first | apply Kd.S_alloc | apply Kd.S_drewN | apply Kd.S_drew)); exact HO328.out) (Kd.R_base ho0) hb); have n5_ := Aside0.mk (Kd.R_elder' (by (with_reducible repeat (first | apply zA | apply zB | apply zC)); exact HL329_0.out) (Kd.R_base ho0) hb); have n6_ := Aside0.mk (Kd.R_lower (Kd.R_newB (Kd.R_new' (Kd.R_new' (Kd.R_new' (Kd.R_new' (Kd.R_new' ho0 (Kd.R_lt (by (with_reducible repeat (first | apply zA | apply zB | apply zC)); exact HO282.out))) (Kd.R_lt (by (with_reducible repeat (first | apply zA | apply zB | apply zC)); exact HO285.out))) (Kd.R_lt (by (with_reducible repeat (first | apply zA | apply zB | apply zC)); exact HO291.out))) (Kd.R_lt (by (with_reducible repeat (first | apply zA | apply zB | apply zC)); exact HO294.out))) (Kd.R_lt (by (with_reducible repeat (first | apply zA | apply zB | apply zC)); exact HL329_0.out))) (g := gb276) (o := .cells #[.int .i64 (-7), .int .i64 (-8)] 56 (0, 0)) (by (with_reducible repeat (first | refine blk_drewN ?_ _ | refine blk_drew ?_ | refine blk_alloc ?_ _)); exact BK276.out)) (below_size (by repeat (first | (with_reducible first | exact HB.out | apply zD | apply zE | apply zF | refine below_set ?_ GE276.out) | exact HB.out)))); have n7_ := Aside0.mk (blk_below (g := gb276) (o := .cells #[.int .i64 (-7), .int .i64 (-8)] 56 (0, 0)) (by (with_reducible repeat (first | refine blk_drewN ?_ _ | refine blk_drew ?_ | refine blk_alloc ?_ _)); exact BK276.out) hb); have n8_ := Aside0.mk (Kd.C_below (by repeat (first | (with_reducible exact HR298.out) | (with_reducible refine Kd.C_alloc ?_ _) | (with_reducible refine Kd.C_drewN ?_ _) | (with_reducible refine Kd.C_drew ?_) | exact HR298.out)) hb); have n9_ := Aside0.mk (Kd.C_below (by repeat (first | (with_reducible exact HR302.out) | (with_reducible refine Kd.C_alloc ?_ _) | (with_reducible refine Kd.C_drewN ?_ _) | (with_reducible refine Kd.C_drew ?_) | exact HR302.out)) hb); have n10_ := Aside0.mk (Kd.C_below (by repeat (first | (with_reducible exact HR329_0.out) | (with_reducible refine Kd.C_alloc ?_ _) | (with_reducible refine Kd.C_drewN ?_ _) | (with_reducible refine Kd.C_drew ?_) | exact HR329_0.out)) hb); have n11_ := Aside0.mk (below_step (by repeat (first | (with_reducible first | exact HB.out | apply zD | apply zE | apply zF | refine below_set ?_ GE276.out) | exact HB.out)) hb); clear HO282; clear HO285; clear HO291; clear HO294; clear HO328; clear HL329_0; clear BK276; clear HR298; clear HR302; clear HR329_0; clear HB; have HO282 := n0_; have HO285 := n1_; have HO291 := n2_; have HO294 := n3_; have HO328 := n4_; have HL329_0 := n5_; have HO332 := n6_; have BK276 := n7_; have HR298 := n8_; have HR302 := n9_; have HR329_0 := n10_; have HB := n11_; clear n0_ n1_ n2_ n3_ n4_ n5_ n6_ n7_ n8_ n9_ n10_ n11_; (try clear hb); (try clear hb2); (try clear hk); (try clear hi); (try clear ho0)) | ((with_reducible refine gate_callee (f := 66) rfl ?_); refine goesL_ (some 69) rfl rfl Try.func66 (by kernel_rfl) rfl #[.slice (some ad329) y326.length co61] rfl (by (try simp only [List.map_toArray, List.map_cons, List.map_nil]); first | done | rfl | (simp only [List.length_drop, List.length_take]; rfl)) ?_; (with_reducible refine (leadtrailmem_OwnRanges.calls (fun k_ => ((some k_ ≠ (v281 : Value).ownBlock ∧ (some k_ ≠ (.slice Ao42 y283.length co42 : Value).ownBlock ∧ (some k_ ≠ (.slice Ao39 y289.length co39 : Value).ownBlock ∧ (some k_ ≠ (.slice Ao44 y292.length co44 : Value).ownBlock ∧ k_ ≠ gb276)))) ∧ some k_ ≠ (v331 : Value).ownBlock)) (.slice (some ad329) y326.length co61) y326 true w _ ?side1 ?side2 A22.out).mono ?_); (case side1 => repeat (first | (with_reducible first | exact HB.out | apply zD | apply zE | apply zF | refine below_set ?_ GE276.out) | exact HB.out)); (case side2 => exact by (with_reducible repeat (first | apply Kd.S_alloc | apply Kd.S_drewN | apply Kd.S_drew)); exact HO328.out); rintro e w63 ⟨rfl, hb, hkp⟩; refine ⟨_, rfl, ?_⟩; have n0_ := Aside0.mk (blk_kept (by (with_reducible repeat (first | refine blk_drewN ?_ _ | refine blk_drew ?_ | refine blk_alloc ?_ _)); exact BK276.out) hkp (fun hs_ => (fun e_ => (e_.1.2.2.2.2) rfl) hs_)); have n1_ := Aside0.mk (Kd.R_mono (ok' := fun k_ => some k_ ≠ (.slice Ao42 y283.length co42 : Value).ownBlock ∧ some k_ ≠ (.slice Ao39 y289.length co39 : Value).ownBlock ∧ some k_ ≠ (.slice Ao44 y292.length co44 : Value).ownBlock ∧ some k_ ≠ (v331 : Value).ownBlock ∧ k_ ≠ gb276) (Kd.R_keptB ((Kd.R_apS (S := fun k_ => ((some k_ ≠ (v281 : Value).ownBlock ∧ (some k_ ≠ (.slice Ao42 y283.length co42 : Value).ownBlock ∧ (some k_ ≠ (.slice Ao39 y289.length co39 : Value).ownBlock ∧ (some k_ ≠ (.slice Ao44 y292.length co44 : Value).ownBlock ∧ k_ ≠ gb276)))) ∧ some k_ ≠ (v331 : Value).ownBlock)) rfl HO282.out (fun k_ e_ hs_ => (hs_.1.1) e_))) hkp (fun k_ hk_ hs_ => (hk_.2) hs_)) (fun k_ hk_ => ⟨hk_.1.1.1.1.1.1.1.1.1.1.1.1, hk_.1.1.1.1.1.1.1.1.1.1.1.2.1, hk_.1.1.1.1.1.1.1.1.1.1.2, hk_.1.1.2, hk_.1.1.1.1.1.1.1.1.1.1.1.2.2⟩)); have n2_ := Aside0.mk (Kd.R_mono (ok' := fun k_ => some k_ ≠ (v281 : Value).ownBlock ∧ some k_ ≠ (.slice Ao39 y289.length co39 : Value).ownBlock ∧ some k_ ≠ (.slice Ao44 y292.length co44 : Value).ownBlock ∧ some k_ ≠ (v331 : Value).ownBlock ∧ k_ ≠ gb276) (Kd.R_keptB ((Kd.R_apS (S := fun k_ => ((some k_ ≠ (v281 : Value).ownBlock ∧ (some k_ ≠ (.slice Ao42 y283.length co42 : Value).ownBlock ∧ (some k_ ≠ (.slice Ao39 y289.length co39 : Value).ownBlock ∧ (some k_ ≠ (.slice Ao44 y292.length co44 : Value).ownBlock ∧ k_ ≠ gb276)))) ∧ some k_ ≠ (v331 : Value).ownBlock)) rfl HO285.out (fun k_ e_ hs_ => (hs_.1.2.1) e_))) hkp (fun k_ hk_ hs_ => (hk_.2) hs_)) (fun k_ hk_ => ⟨hk_.1.1.1.1.1.1.1.1.1.1.1.1, hk_.1.1.1.1.1.1.1.1.1.1.1.2.1, hk_.1.1.1.1.1.1.1.1.1.1.2, hk_.1.1.2, hk_.1.1.1.1.1.1.1.1.1.1.1.2.2⟩)); have n3_ := Aside0.mk (Kd.R_mono (ok' := fun k_ => some k_ ≠ (v281 : Value).ownBlock ∧ some k_ ≠ (.slice Ao42 y283.length co42 : Value).ownBlock ∧ some k_ ≠ (.slice Ao44 y292.length co44 : Value).ownBlock ∧ some k_ ≠ (v331 : Value).ownBlock ∧ k_ ≠ gb276) (Kd.R_keptB ((Kd.R_apS (S := fun k_ => ((some k_ ≠ (v281 : Value).ownBlock ∧ (some k_ ≠ (.slice Ao42 y283.length co42 : Value).ownBlock ∧ (some k_ ≠ (.slice Ao39 y289.length co39 : Value).ownBlock ∧ (some k_ ≠ (.slice Ao44 y292.length co44 : Value).ownBlock ∧ k_ ≠ gb276)))) ∧ some k_ ≠ (v331 : Value).ownBlock)) rfl HO291.out (fun k_ e_ hs_ => (hs_.1.2.2.1) e_))) hkp (fun k_ hk_ hs_ => (hk_.2) hs_)) (fun k_ hk_ => ⟨hk_.1.1.1.1.1.1.1.1.1.1.1.1, hk_.1.1.1.1.1.1.1.1.1.1.1.2.1, hk_.1.1.1.1.1.1.1.1.1.1.2, hk_.1.1.2, hk_.1.1.1.1.1.1.1.1.1.1.1.2.2⟩)); have n4_ := Aside0.mk (Kd.R_mono (ok' := fun k_ => some k_ ≠ (v281 : Value).ownBlock ∧ some k_ ≠ (.slice Ao42 y283.length co42 : Value).ownBlock ∧ some k_ ≠ (.slice Ao39 y289.length co39 : Value).ownBlock ∧ some k_ ≠ (v331 : Value).ownBlock ∧ k_ ≠ gb276) (Kd.R_keptB ((Kd.R_apS (S := fun k_ => ((some k_ ≠ (v281 : Value).ownBlock ∧ (some k_ ≠ (.slice Ao42 y283.length co42 : Value).ownBlock ∧ (some k_ ≠ (.slice Ao39 y289.length co39 : Value).ownBlock ∧ (some k_ ≠ (.slice Ao44 y292.length co44 : Value).ownBlock ∧ k_ ≠ gb276)))) ∧ some k_ ≠ (v331 : Value).ownBlock)) rfl HO294.out (fun k_ e_ hs_ => (hs_.1.2.2.2.1) e_))) hkp (fun k_ hk_ hs_ => (hk_.2) hs_)) (fun k_ hk_ => ⟨hk_.1.1.1.1.1.1.1.1.1.1.1, hk_.1.1.1.1.1.1.1.1.1.1.2.1, hk_.1.1.1.1.1.1.1.1.1.1.2.2.1, hk_.1.1.2, hk_.1.1.1.1.1.1.1.1.1.1.2.2.2⟩)); have n5_ := Aside0.mk (Kd.R_mono (ok' := fun k_ => some k_ ≠ (v281 : Value).ownBlock ∧ some k_ ≠ (.slice Ao42 y283.length co42 : Value).ownBlock ∧ some k_ ≠ (.slice Ao39 y289.length co39 : Value).ownBlock ∧ some k_ ≠ (.slice Ao44 y292.length co44 : Value).ownBlock ∧ some k_ ≠ (.slice A329_0 (rd_L4 y326 1).length c329_0 : Value).ownBlock ∧ k_ ≠ gb276) (Kd.R_keptB ((Kd.R_apS (S := fun k_ => ((some k_ ≠ (v281 : Value).ownBlock ∧ (some k_ ≠ (.slice Ao42 y283.length co42 : Value).ownBlock ∧ (some k_ ≠ (.slice Ao39 y289.length co39 : Value).ownBlock ∧ (some k_ ≠ (.slice Ao44 y292.length co44 : Value).ownBlock ∧ k_ ≠ gb276)))) ∧ some k_ ≠ (v331 : Value).ownBlock)) rfl HO332.out (fun k_ e_ hs_ => (hs_.2) e_))) hkp (fun k_ hk_ hs_ => (hk_.2) hs_)) (fun k_ hk_ => ⟨hk_.1.1.1.1.1.1.1.2, hk_.1.1.1.1.1.1.2, hk_.1.1.1.1.1.2, hk_.1.1.1.1.2, hk_.1.1.1.2, hk_.1.1.2⟩)); have n6_ := Aside0.mk (hb); clear BK276; clear HO282; clear HO285; clear HO291; clear HO294; clear HO332; clear HB; clear HO328; clear HL329_0; have BK276 := n0_; have HO282 := n1_; have HO285 := n2_; have HO291 := n3_; have HO294 := n4_; have HO332 := n5_; have HB := n6_; clear n0_ n1_ n2_ n3_ n4_ n5_ n6_; (try clear hb); (try clear hkp)))
 go_loopg [73] k (fun kq v73 w' => ∃ (x73_1 : Int), v73 = .int .i64 x73_1 ∧ Aside0 (leadtraillaw04_ScalarsOwns.l0 kq l0 l1 y295 y299 y283 y292 t330 (y283.length : Int) x73_1 (-7) (-8) = some r) ∧ Aside0 (kq ≤ k) ∧ Aside0 (Kd.R k56 56 w' w.heap.size (fun k_ => some k_ ≠ ((.slice Ao44 y292.length co44) : Value).ownBlock ∧ some k_ ≠ (v331 : Value).ownBlock ∧ k_ ≠ gb276) (.slice Ao42 y283.length co42) y283) ∧ Aside0 (Kd.R k56 56 w' w.heap.size (fun k_ => some k_ ≠ ((.slice Ao42 y283.length co42) : Value).ownBlock ∧ some k_ ≠ (v331 : Value).ownBlock ∧ k_ ≠ gb276) (.slice Ao44 y292.length co44) y292) ∧ Aside0 (Kd.R k56 56 w' w.heap.size (fun k_ => some k_ ≠ ((.slice Ao42 y283.length co42) : Value).ownBlock ∧ some k_ ≠ ((.slice Ao44 y292.length co44) : Value).ownBlock ∧ k_ ≠ gb276) v331 t330) ∧ Aside0 (w'.heap[gb276]? = some (.cells #[.int .i64 (-7), .int .i64 (-8)] 56 (0, 0))) ∧ Aside0 (Below w.heap.size w w'))
 case atStart => exact ⟨(0), (by first | rfl | (simp; done) | (simp [*]; done)), H', ⟨Nat.le_refl _⟩, ⟨by (with_reducible repeat (first | apply zA | apply zB | apply zC)); exact Kd.R_mono HO285.out (fun _ hk => ⟨hk.2.2.1, ⟨hk.2.2.2.1, hk.2.2.2.2⟩⟩)⟩, ⟨by (with_reducible repeat (first | apply zA | apply zB | apply zC)); exact Kd.R_mono HO294.out (fun _ hk => ⟨hk.2.1, ⟨hk.2.2.2.1, hk.2.2.2.2⟩⟩)⟩, ⟨by (with_reducible repeat (first | apply zA | apply zB | apply zC)); exact Kd.R_mono HO332.out (fun _ hk => ⟨hk.2.1, ⟨hk.2.2.2.1, hk.2.2.2.2.2⟩⟩)⟩, ⟨by (with_reducible repeat (first | refine blk_drewN ?_ _ | refine blk_drew ?_ | refine blk_alloc ?_ _)); exact BK276.out⟩, ⟨by repeat (first | (with_reducible first | exact HB.out | apply zD | apply zE | apply zF | refine below_set ?_ GE276.out) | exact HB.out)⟩⟩
 case round =>
  clear H'
  try clear c1
  try clear c2
  try clear p2
  try clear c3
  try clear p3
  try clear q3
  try clear hx3
  try clear qi3
  try clear q4
  try clear c5
  try clear c6
  try clear c8
  try clear c24
  try clear c25
  try clear c32
  try clear p32
  try clear q32
  try clear hx32
  try clear qi32
  try clear q41
  try clear q43
  try clear c59
  try clear c61
  try clear c62
  try clear hx329_0
  try clear p329
  try clear q329
  try clear q41
  try clear q43
  obtain ⟨x73_1, rfl, HA, HK1, HO_25, HO_31, HO_67, BK276, HB⟩ := hrel
  cases gk with
  | zero => exact absurd HA.out (by simp [leadtraillaw04_ScalarsOwns.l0])
  | succ k1 =>
   have H := HA.out
   clear HA
   simp only [leadtraillaw04_ScalarsOwns.l0] at H
   by_cases c64 : x73_1 < (y283.length : Int)
   ·rw [if_pos c64] at H
    have c64b0 : decide (x73_1 < (y283.length : Int)) = true := decide_eq_true c64
    clear c64
    by_cases c65 : x73_1 < (l0.length : Int)
    ·rw [if_pos c65] at H
     have c65b0 : decide (x73_1 < (l0.length : Int)) = true := decide_eq_true c65
     clear c65
     by_cases c66 : 0 ≤ x73_1
     ·rw [if_pos c66] at H
      have c66b0 : decide (0 ≤ x73_1) = true := decide_eq_true c66
      clear c66
      by_cases c67 : x73_1 < (y283.length : Int)
      ·rw [if_pos c67] at H
       have c67b0 : decide (x73_1 < (y283.length : Int)) = true := decide_eq_true c67
       clear c67
       by_cases c68 : (!(((rd_T56 y283 x73_1).f0) == ((rd_T56 l0 x73_1).f0)) || (!(((rd_T56 y283 x73_1).f1) == ((rd_T56 l0 x73_1).f1)))) = true
       ·rw [if_pos c68] at H
        have c68b0 : (!(((rd_T56 y283 x73_1).f0) == ((rd_T56 l0 x73_1).f0)) || (!(((rd_T56 y283 x73_1).f1) == ((rd_T56 l0 x73_1).f1)))) = true := c68
        clear c68
        exact absurd H (by simp)
       ·rw [if_neg c68] at H
        have c68b0 : (!(((rd_T56 y283 x73_1).f0) == ((rd_T56 l0 x73_1).f0)) || (!(((rd_T56 y283 x73_1).f1) == ((rd_T56 l0 x73_1).f1)))) = false := by simpa using c68
        clear c68
        by_cases c69 : x73_1 ≥ (l0.length : Int)
        ·rw [if_pos c69] at H
         exact absurd H (by simp)
        ·rw [if_neg c69] at H
         have c69b0 : decide ((l0.length : Int) ≤ x73_1) = false := decide_eq_false c69
         clear c69
         have H' := Aside0.mk H
         clear H
         try go_wp2
         have n0_ := Aside0.mk (Kd.R_drew HO_25.out)
         have n1_ := Aside0.mk (Kd.R_drew HO_31.out)
         have n2_ := Aside0.mk (Kd.R_drew HO_67.out)
         have n3_ := Aside0.mk (blk_drew BK276.out)
         have n4_ := Aside0.mk (below_drew1 HB.out)
         clear HO_25
         clear HO_31
         clear HO_67
         clear BK276
         clear HB
         have HO_25 := n0_
         have HO_31 := n1_
         have HO_67 := n2_
         have BK276 := n3_
         have HB := n4_
         clear n0_ n1_ n2_ n3_ n4_
         have p334 : 0 ≤ (x73_1 : Int) := of_decide_eq_true (by first | (with_reducible assumption) | assumption)
         have q334 : x73_1 < (y283.length : Int) := of_decide_eq_true (by first | (with_reducible assumption) | assumption)
         obtain ⟨ad334, e334, hx334_0, hx334_1⟩ := at_T56 (Kd.R_reads' HO_25.out).2.2 x73_1 p334 q334
         cases e334
         replace p334 := eq_true p334
         replace q334 := eq_true q334
         have p335 : 0 ≤ (x73_1 : Int) := of_decide_eq_true (by first | (with_reducible assumption) | assumption)
         have q335 : x73_1 < (l0.length : Int) := of_decide_eq_true (by first | (with_reducible assumption) | assumption)
         obtain ⟨ad335, e335, hx335_0, hx335_1⟩ := at_T56 HR0.out x73_1 p335 q335
         have hw335_1 := hx335_1
         have hw335_0 := hx335_0
         cases e335
         replace hx335_0 := (HB.out.cell (World.block_lt_of_cell? w _ hx335_0)).trans hx335_0
         replace hx335_1 := (HB.out.cell (World.block_lt_of_cell? w _ hx335_1)).trans hx335_1
         replace p335 := eq_true p335
         replace q335 := eq_true q335
         refine start_ (n := 29) (S := fun w' => w'.cell? (ad334.add ((x73_1).toNat * 2)) = some (.int .i64 ((rd_T56 y283 x73_1).f0)) ∧ w'.cell? ⟨(ad334.add ((x73_1).toNat * 2)).block, (ad334.add ((x73_1).toNat * 2)).off + 1, none⟩ = some (.int .i64 ((rd_T56 y283 x73_1).f1)) ∧ w'.cell? (ad335.add ((x73_1).toNat * 2)) = some (.int .i64 ((rd_T56 l0 x73_1).f0)) ∧ w'.cell? ⟨(ad335.add ((x73_1).toNat * 2)).block, (ad335.add ((x73_1).toNat * 2)).off + 1, none⟩ = some (.int .i64 ((rd_T56 l0 x73_1).f1))) (ds := []) #[false, false, false, false, false, false, false, false, false, false, false, false, false, false, false, false, false, false, false, false, false, false, false, false, false, false, false, false, false] (by kernel_rfl) rfl rfl ⟨hx334_0, hx334_1, ((HB.out.cell (World.block_lt_of_cell? w _ hw335_0)).trans hw335_0), ((HB.out.cell (World.block_lt_of_cell? w _ hw335_1)).trans hw335_1)⟩ (fun hHeld => ?_); refine with_tabW leadtraillaw04_ScalarsOwns.tab14 leadtraillaw04_ScalarsOwns.bits14 (fun HT_ HW_ => ?_)
         generalize wr.drew = w70 at HO_25 HO_31 HO_67 BK276 HB hx334_0 hx334_1 hx335_0 hx335_1 hHeld ⊢
         refine pure_ (i := 0) (N := some 76) (v := ?_) (a' := ?_) #[true, false, false, false, false, false, false, false, false, false, false, false, false, false, false, false, false, false, false, false, false, false, false, false, false, false, false, false, false] rfl rfl (any_of HT_.out (by kernel_rfl)) (fun _ _ _ h => h) (Or.inl ⟨by rfl, ?_⟩) ?_ ?_
         rotate_left
         ·intro w'
          go_simp
          with_reducible rfl
         rotate_left
         ·simp only [Act.put, List.setIfInBounds_toArray, List.set_cons_zero, List.set_cons_succ, i64_w, i32_w]
          rfl
         refine pure_ (i := 1) (N := some 77) (v := ?_) (a' := ?_) #[true, true, false, false, false, false, false, false, false, false, false, false, false, false, false, false, false, false, false, false, false, false, false, false, false, false, false, false, false] rfl rfl (any_of HT_.out (by kernel_rfl)) (fun _ _ _ h => h) (Or.inl ⟨by rfl, ?_⟩) ?_ ?_
         rotate_left
         ·intro w'
          go_simp
          with_reducible rfl
         rotate_left
         ·simp only [Act.put, List.setIfInBounds_toArray, List.set_cons_zero, List.set_cons_succ, i64_w, i32_w]
          rfl
         refine pure_ (i := 2) (N := some 78) (v := ?_) (a' := ?_) #[true, true, true, false, false, false, false, false, false, false, false, false, false, false, false, false, false, false, false, false, false, false, false, false, false, false, false, false, false] rfl rfl (any_of HT_.out (by kernel_rfl)) (fun _ _ _ h => h) (Or.inl ⟨by rfl, ?_⟩) ?_ ?_
         rotate_left
         ·intro w'
          go_simp
          with_reducible rfl
         rotate_left
         ·simp only [Act.put, List.setIfInBounds_toArray, List.set_cons_zero, List.set_cons_succ, i64_w, i32_w]
          rfl
         refine pure_ (i := 3) (N := some 79) (v := ?_) (a' := ?_) #[true, true, true, true, false, false, false, false, false, false, false, false, false, false, false, false, false, false, false, false, false, false, false, false, false, false, false, false, false] rfl rfl (any_of HT_.out (by kernel_rfl)) (fun _ _ _ h => h) (Or.inl ⟨by rfl, ?_⟩) ?_ ?_
         rotate_left
         ·intro w'
          go_simp
          with_reducible rfl
         rotate_left
         ·simp only [Act.put, List.setIfInBounds_toArray, List.set_cons_zero, List.set_cons_succ, i64_w, i32_w]
          rfl
         refine pure_ (i := 4) (N := some 80) (v := ?_) (a' := ?_) #[true, true, true, true, true, false, false, false, false, false, false, false, false, false, false, false, false, false, false, false, false, false, false, false, false, false, false, false, false] rfl rfl (any_of HT_.out (by kernel_rfl)) (fun _ _ _ h => h) (Or.inl ⟨by rfl, ?_⟩) ?_ ?_
         rotate_left
         ·intro w'
          go_simp
          with_reducible rfl
         rotate_left
         ·simp only [Act.put, List.setIfInBounds_toArray, List.set_cons_zero, List.set_cons_succ, i64_w, i32_w]
          rfl
         refine pure_ (i := 5) (N := some 81) (v := ?_) (a' := ?_) #[true, true, true, true, true, true, false, false, false, false, false, false, false, false, false, false, false, false, false, false, false, false, false, false, false, false, false, false, false] rfl rfl (any_of HT_.out (by kernel_rfl)) (fun _ _ _ h => h) (Or.inl ⟨by rfl, ?_⟩) ?_ ?_
         rotate_left
         ·intro w'
          go_simp
          with_reducible rfl
         rotate_left
         ·simp only [Act.put, List.setIfInBounds_toArray, List.set_cons_zero, List.set_cons_succ, i64_w, i32_w]
          rfl
         refine pure_ (i := 6) (N := some 82) (v := ?_) (a' := ?_) #[true, true, true, true, true, true, true, false, false, false, false, false, false, false, false, false, false, false, false, false, false, false, false, false, false, false, false, false, false] rfl rfl (any_of HT_.out (by kernel_rfl)) (fun _ _ _ h => h) (Or.inl ⟨by rfl, ?_⟩) ?_ ?_
         rotate_left
         ·intro w'
          go_simp
          with_reducible rfl
         rotate_left
         ·simp only [Act.put, List.setIfInBounds_toArray, List.set_cons_zero, List.set_cons_succ, i64_w, i32_w]
          rfl
         refine pure_ (i := 7) (N := some 83) (v := ?_) (a' := ?_) #[true, true, true, true, true, true, true, true, false, false, false, false, false, false, false, false, false, false, false, false, false, false, false, false, false, false, false, false, false] rfl rfl (any_of HT_.out (by kernel_rfl)) (fun _ _ _ h => h) (Or.inl ⟨by rfl, ?_⟩) ?_ ?_
         rotate_left
         ·intro w'
          go_simp
          with_reducible rfl
         rotate_left
         ·simp only [Act.put, List.setIfInBounds_toArray, List.set_cons_zero, List.set_cons_succ, i64_w, i32_w]
          rfl
         refine pure_ (i := 9) (N := some 85) (v := ?_) (a' := ?_) #[true, true, true, true, true, true, true, true, false, true, false, false, false, false, false, false, false, false, false, false, false, false, false, false, false, false, false, false, false] rfl rfl (any_of HT_.out (by kernel_rfl)) (fun _ _ _ h => h) (Or.inl ⟨by rfl, ?_⟩) ?_ ?_
         rotate_left
         ·intro w'
          go_simp
          with_reducible rfl
         rotate_left
         ·simp only [Act.put, List.setIfInBounds_toArray, List.set_cons_zero, List.set_cons_succ, i64_w, i32_w]
          rfl
         refine pure_ (i := 10) (N := some 86) (v := ?_) (a' := ?_) #[true, true, true, true, true, true, true, true, false, true, true, false, false, false, false, false, false, false, false, false, false, false, false, false, false, false, false, false, false] rfl rfl (any_of HT_.out (by kernel_rfl)) (fun _ _ _ h => h) (Or.inl ⟨by rfl, ?_⟩) ?_ ?_
         rotate_left
         ·intro w'
          go_simp
          with_reducible rfl
         rotate_left
         ·simp only [Act.put, List.setIfInBounds_toArray, List.set_cons_zero, List.set_cons_succ, i64_w, i32_w]
          rfl
         refine pure_ (i := 11) (N := some 87) (v := ?_) (a' := ?_) #[true, true, true, true, true, true, true, true, false, true, true, true, false, false, false, false, false, false, false, false, false, false, false, false, false, false, false, false, false] rfl rfl (any_of HT_.out (by kernel_rfl)) (fun _ _ _ h => h) (Or.inl ⟨by rfl, ?_⟩) ?_ ?_
         rotate_left
         ·intro w'
          go_simp
          with_reducible rfl
         rotate_left
         ·simp only [Act.put, List.setIfInBounds_toArray, List.set_cons_zero, List.set_cons_succ, i64_w, i32_w]
          rfl
         refine take_ (i := 8) (N := some 84) (v := ?_) (a' := ?_) #[true, true, true, true, true, true, true, true, true, true, true, true, false, false, false, false, false, false, false, false, false, false, false, false, false, false, false, false, false] rfl rfl (take_ofW HT_.out HW_.out (by kernel_rfl)) (fun _ _ _ h => h) (Or.inl ⟨by rfl, ?_⟩) hHeld ?_ ?_
         rotate_left
         ·rintro w' ⟨s0, s1, s2, s3⟩
          go_simp
          with_reducible rfl
         rotate_left
         ·simp only [Act.put, List.setIfInBounds_toArray, List.set_cons_zero, List.set_cons_succ, i64_w, i32_w]
          rfl
         refine take_ (i := 12) (N := some 88) (v := ?_) (a' := ?_) #[true, true, true, true, true, true, true, true, true, true, true, true, true, false, false, false, false, false, false, false, false, false, false, false, false, false, false, false, false] rfl rfl (take_ofW HT_.out HW_.out (by kernel_rfl)) (fun _ _ _ h => h) (Or.inl ⟨by rfl, ?_⟩) hHeld ?_ ?_
         rotate_left
         ·rintro w' ⟨s0, s1, s2, s3⟩
          go_simp
          with_reducible rfl
         rotate_left
         ·simp only [Act.put, List.setIfInBounds_toArray, List.set_cons_zero, List.set_cons_succ, i64_w, i32_w]
          rfl
         refine pure_ (i := 13) (N := some 89) (v := ?_) (a' := ?_) #[true, true, true, true, true, true, true, true, true, true, true, true, true, true, false, false, false, false, false, false, false, false, false, false, false, false, false, false, false] rfl rfl (any_of HT_.out (by kernel_rfl)) (fun _ _ _ h => h) (Or.inl ⟨by rfl, ?_⟩) ?_ ?_
         rotate_left
         ·intro w'
          go_simp
          with_reducible rfl
         rotate_left
         ·simp only [Act.put, List.setIfInBounds_toArray, List.set_cons_zero, List.set_cons_succ, i64_w, i32_w]
          rfl
         refine pure_ (i := 14) (N := some 90) (v := ?_) (a' := ?_) #[true, true, true, true, true, true, true, true, true, true, true, true, true, true, true, false, false, false, false, false, false, false, false, false, false, false, false, false, false] rfl rfl (any_of HT_.out (by kernel_rfl)) (fun _ _ _ h => h) (Or.inl ⟨by rfl, ?_⟩) ?_ ?_
         rotate_left
         ·intro w'
          go_simp
          with_reducible rfl
         rotate_left
         ·simp only [Act.put, List.setIfInBounds_toArray, List.set_cons_zero, List.set_cons_succ, i64_w, i32_w]
          rfl
         refine pure_ (i := 15) (N := some 91) (v := ?_) (a' := ?_) #[true, true, true, true, true, true, true, true, true, true, true, true, true, true, true, true, false, false, false, false, false, false, false, false, false, false, false, false, false] rfl rfl (any_of HT_.out (by kernel_rfl)) (fun _ _ _ h => h) (Or.inl ⟨by rfl, ?_⟩) ?_ ?_
         rotate_left
         ·intro w'
          go_simp
          with_reducible rfl
         rotate_left
         ·simp only [Act.put, List.setIfInBounds_toArray, List.set_cons_zero, List.set_cons_succ, i64_w, i32_w]
          rfl
         refine pure_ (i := 16) (N := some 92) (v := ?_) (a' := ?_) #[true, true, true, true, true, true, true, true, true, true, true, true, true, true, true, true, true, false, false, false, false, false, false, false, false, false, false, false, false] rfl rfl (any_of HT_.out (by kernel_rfl)) (fun _ _ _ h => h) (Or.inl ⟨by rfl, ?_⟩) ?_ ?_
         rotate_left
         ·intro w'
          go_simp
          with_reducible rfl
         rotate_left
         ·simp only [Act.put, List.setIfInBounds_toArray, List.set_cons_zero, List.set_cons_succ, i64_w, i32_w]
          rfl
         refine pure_ (i := 17) (N := some 93) (v := ?_) (a' := ?_) #[true, true, true, true, true, true, true, true, true, true, true, true, true, true, true, true, true, true, false, false, false, false, false, false, false, false, false, false, false] rfl rfl (any_of HT_.out (by kernel_rfl)) (fun _ _ _ h => h) (Or.inl ⟨by rfl, ?_⟩) ?_ ?_
         rotate_left
         ·intro w'
          go_simp
          with_reducible rfl
         rotate_left
         ·simp only [Act.put, List.setIfInBounds_toArray, List.set_cons_zero, List.set_cons_succ, i64_w, i32_w]
          rfl
         refine pure_ (i := 18) (N := some 94) (v := ?_) (a' := ?_) #[true, true, true, true, true, true, true, true, true, true, true, true, true, true, true, true, true, true, true, false, false, false, false, false, false, false, false, false, false] rfl rfl (any_of HT_.out (by kernel_rfl)) (fun _ _ _ h => h) (Or.inl ⟨by rfl, ?_⟩) ?_ ?_
         rotate_left
         ·intro w'
          go_simp
          with_reducible rfl
         rotate_left
         ·simp only [Act.put, List.setIfInBounds_toArray, List.set_cons_zero, List.set_cons_succ, i64_w, i32_w]
          rfl
         refine pure_ (i := 19) (N := some 95) (v := ?_) (a' := ?_) #[true, true, true, true, true, true, true, true, true, true, true, true, true, true, true, true, true, true, true, true, false, false, false, false, false, false, false, false, false] rfl rfl (any_of HT_.out (by kernel_rfl)) (fun _ _ _ h => h) (Or.inl ⟨by rfl, ?_⟩) ?_ ?_
         rotate_left
         ·intro w'
          go_simp
          with_reducible rfl
         rotate_left
         ·simp only [Act.put, List.setIfInBounds_toArray, List.set_cons_zero, List.set_cons_succ, i64_w, i32_w]
          rfl
         refine pure_ (i := 20) (N := some 96) (v := ?_) (a' := ?_) #[true, true, true, true, true, true, true, true, true, true, true, true, true, true, true, true, true, true, true, true, true, false, false, false, false, false, false, false, false] rfl rfl (any_of HT_.out (by kernel_rfl)) (fun _ _ _ h => h) (Or.inl ⟨by rfl, ?_⟩) ?_ ?_
         rotate_left
         ·intro w'
          go_simp
          with_reducible rfl
         rotate_left
         ·simp only [Act.put, List.setIfInBounds_toArray, List.set_cons_zero, List.set_cons_succ, i64_w, i32_w]
          rfl
         refine pure_ (i := 21) (N := some 97) (v := undef) (a' := ?_) #[true, true, true, true, true, true, true, true, true, true, true, true, true, true, true, true, true, true, true, true, true, true, false, false, false, false, false, false, false] rfl rfl (any_of HT_.out (by kernel_rfl)) (fun _ _ _ h => h) (Or.inr ⟨by rfl, rfl⟩) ?_ ?_
         rotate_left
         ·simp only [Act.put, List.setIfInBounds_toArray, List.set_cons_zero, List.set_cons_succ, i64_w, i32_w]
          rfl
         refine pure_ (i := 22) (N := some 98) (v := undef) (a' := ?_) #[true, true, true, true, true, true, true, true, true, true, true, true, true, true, true, true, true, true, true, true, true, true, true, false, false, false, false, false, false] rfl rfl (any_of HT_.out (by kernel_rfl)) (fun _ _ _ h => h) (Or.inr ⟨by rfl, rfl⟩) ?_ ?_
         rotate_left
         ·simp only [Act.put, List.setIfInBounds_toArray, List.set_cons_zero, List.set_cons_succ, i64_w, i32_w]
          rfl
         refine pure_ (i := 23) (N := some 99) (v := undef) (a' := ?_) #[true, true, true, true, true, true, true, true, true, true, true, true, true, true, true, true, true, true, true, true, true, true, true, true, false, false, false, false, false] rfl rfl (any_of HT_.out (by kernel_rfl)) (fun _ _ _ h => h) (Or.inr ⟨by rfl, rfl⟩) ?_ ?_
         rotate_left
         ·simp only [Act.put, List.setIfInBounds_toArray, List.set_cons_zero, List.set_cons_succ, i64_w, i32_w]
          rfl
         refine pure_ (i := 24) (N := some 100) (v := undef) (a' := ?_) #[true, true, true, true, true, true, true, true, true, true, true, true, true, true, true, true, true, true, true, true, true, true, true, true, true, false, false, false, false] rfl rfl (any_of HT_.out (by kernel_rfl)) (fun _ _ _ h => h) (Or.inr ⟨by rfl, rfl⟩) ?_ ?_
         rotate_left
         ·simp only [Act.put, List.setIfInBounds_toArray, List.set_cons_zero, List.set_cons_succ, i64_w, i32_w]
          rfl
         refine pure_ (i := 25) (N := some 101) (v := undef) (a' := ?_) #[true, true, true, true, true, true, true, true, true, true, true, true, true, true, true, true, true, true, true, true, true, true, true, true, true, true, false, false, false] rfl rfl (any_of HT_.out (by kernel_rfl)) (fun _ _ _ h => h) (Or.inr ⟨by rfl, rfl⟩) ?_ ?_
         rotate_left
         ·simp only [Act.put, List.setIfInBounds_toArray, List.set_cons_zero, List.set_cons_succ, i64_w, i32_w]
          rfl
         refine pure_ (i := 26) (N := some 102) (v := undef) (a' := ?_) #[true, true, true, true, true, true, true, true, true, true, true, true, true, true, true, true, true, true, true, true, true, true, true, true, true, true, true, false, false] rfl rfl (any_of HT_.out (by kernel_rfl)) (fun _ _ _ h => h) (Or.inr ⟨by rfl, rfl⟩) ?_ ?_
         rotate_left
         ·simp only [Act.put, List.setIfInBounds_toArray, List.set_cons_zero, List.set_cons_succ, i64_w, i32_w]
          rfl
         refine pure_ (i := 27) (N := some 103) (v := ?_) (a' := ?_) #[true, true, true, true, true, true, true, true, true, true, true, true, true, true, true, true, true, true, true, true, true, true, true, true, true, true, true, true, false] rfl rfl (any_of HT_.out (by kernel_rfl)) (fun _ _ _ h => h) (Or.inl ⟨by rfl, ?_⟩) ?_ ?_
         rotate_left
         ·intro w'
          go_simp
          with_reducible rfl
         rotate_left
         ·simp only [Act.put, List.setIfInBounds_toArray, List.set_cons_zero, List.set_cons_succ, i64_w, i32_w]
          rfl
         refine pure_ (i := 28) (N := some 104) (v := ?_) (a' := ?_) #[true, true, true, true, true, true, true, true, true, true, true, true, true, true, true, true, true, true, true, true, true, true, true, true, true, true, true, true, true] rfl rfl (any_of HT_.out (by kernel_rfl)) (fun _ _ _ h => h) (Or.inl ⟨by rfl, ?_⟩) ?_ ?_
         rotate_left
         ·intro w'
          go_simp
          with_reducible rfl
         rotate_left
         ·simp only [Act.put, List.setIfInBounds_toArray, List.set_cons_zero, List.set_cons_succ, i64_w, i32_w]
          rfl
         refine done_ (done_of HT_.out (by kernel_rfl)) ?_
         try go_wp2
         go_roundg k1
         case measure => have := HK1.out; omega
         case rel => exact ⟨(wrap64 (x73_1 + 1)), (by first | rfl | (simp; done) | (simp [*]; done)), H', ⟨by have := HK1.out; omega⟩, ⟨by (with_reducible repeat (first | apply zA | apply zB | apply zC)); exact HO_25.out⟩, ⟨by (with_reducible repeat (first | apply zA | apply zB | apply zC)); exact HO_31.out⟩, ⟨by (with_reducible repeat (first | apply zA | apply zB | apply zC)); exact HO_67.out⟩, ⟨by (with_reducible repeat (first | refine blk_drewN ?_ _ | refine blk_drew ?_ | refine blk_alloc ?_ _)); exact BK276.out⟩, ⟨by repeat (first | (with_reducible first | exact HB.out | apply zD | apply zE | apply zF | refine below_set ?_ GE276.out) | exact HB.out)⟩⟩
      ·rw [if_neg c67] at H
       exact absurd H (by simp)
     ·rw [if_neg c66] at H
      exact absurd H (by simp)
    ·rw [if_neg c65] at H
     have c65b0 : decide (x73_1 < (l0.length : Int)) = false := decide_eq_false c65
     clear c65
     by_cases c71 : x73_1 ≥ (l0.length : Int)
     ·rw [if_pos c71] at H
      have c71b0 : decide ((l0.length : Int) ≤ x73_1) = true := decide_eq_true c71
      clear c71
      by_cases c72 : 0 ≤ x73_1
      ·rw [if_pos c72] at H
       have c72b0 : decide (0 ≤ x73_1) = true := decide_eq_true c72
       clear c72
       by_cases c73 : x73_1 < (y283.length : Int)
       ·rw [if_pos c73] at H
        have c73b0 : decide (x73_1 < (y283.length : Int)) = true := decide_eq_true c73
        clear c73
        by_cases c74 : (!(((rd_T56 y283 x73_1).f0) == (-7)) || (!(((rd_T56 y283 x73_1).f1) == (-8)))) = true
        ·rw [if_pos c74] at H
         exact absurd H (by simp)
        ·rw [if_neg c74] at H
         have c74b0 : (!(((rd_T56 y283 x73_1).f0) == (-7)) || (!(((rd_T56 y283 x73_1).f1) == (-8)))) = false := by simpa using c74
         clear c74
         have H' := Aside0.mk H
         clear H
         try go_wp2
         have n0_ := Aside0.mk (Kd.R_drew HO_25.out)
         have n1_ := Aside0.mk (Kd.R_drew HO_31.out)
         have n2_ := Aside0.mk (Kd.R_drew HO_67.out)
         have n3_ := Aside0.mk (blk_drew BK276.out)
         have n4_ := Aside0.mk (below_drew1 HB.out)
         clear HO_25
         clear HO_31
         clear HO_67
         clear BK276
         clear HB
         have HO_25 := n0_
         have HO_31 := n1_
         have HO_67 := n2_
         have BK276 := n3_
         have HB := n4_
         clear n0_ n1_ n2_ n3_ n4_
         have p336 : 0 ≤ (x73_1 : Int) := of_decide_eq_true (by first | (with_reducible assumption) | assumption)
         have q336 : x73_1 < (y283.length : Int) := of_decide_eq_true (by first | (with_reducible assumption) | assumption)
         obtain ⟨ad336, e336, hx336_0, hx336_1⟩ := at_T56 (Kd.R_reads' HO_25.out).2.2 x73_1 p336 q336
         cases e336
         replace p336 := eq_true p336
         replace q336 := eq_true q336
         refine start_ (n := 29) (S := fun w' => w'.cell? ⟨gb276, 0, none⟩ = some (.int .i64 (-7)) ∧ w'.cell? ⟨gb276, 1, none⟩ = some (.int .i64 (-8)) ∧ w'.cell? (ad336.add ((x73_1).toNat * 2)) = some (.int .i64 ((rd_T56 y283 x73_1).f0)) ∧ w'.cell? ⟨(ad336.add ((x73_1).toNat * 2)).block, (ad336.add ((x73_1).toNat * 2)).off + 1, none⟩ = some (.int .i64 ((rd_T56 y283 x73_1).f1))) (ds := []) #[false, false, false, false, false, false, false, false, false, false, false, false, false, false, false, false, false, false, false, false, false, false, false, false, false, false, false, false, false] (by kernel_rfl) rfl rfl ⟨(blk_cell BK276.out 0).trans rfl, (blk_cell BK276.out 1).trans rfl, hx336_0, hx336_1⟩ (fun hHeld => ?_); refine with_tabW leadtraillaw04_ScalarsOwns.tab14 leadtraillaw04_ScalarsOwns.bits14 (fun HT_ HW_ => ?_)
         generalize wr.drew = w75 at HO_25 HO_31 HO_67 BK276 HB hx336_0 hx336_1 hHeld ⊢
         refine pure_ (i := 0) (N := some 76) (v := ?_) (a' := ?_) #[true, false, false, false, false, false, false, false, false, false, false, false, false, false, false, false, false, false, false, false, false, false, false, false, false, false, false, false, false] rfl rfl (any_of HT_.out (by kernel_rfl)) (fun _ _ _ h => h) (Or.inl ⟨by rfl, ?_⟩) ?_ ?_
         rotate_left
         ·intro w'
          go_simp
          with_reducible rfl
         rotate_left
         ·simp only [Act.put, List.setIfInBounds_toArray, List.set_cons_zero, List.set_cons_succ, i64_w, i32_w]
          rfl
         refine pure_ (i := 1) (N := some 77) (v := ?_) (a' := ?_) #[true, true, false, false, false, false, false, false, false, false, false, false, false, false, false, false, false, false, false, false, false, false, false, false, false, false, false, false, false] rfl rfl (any_of HT_.out (by kernel_rfl)) (fun _ _ _ h => h) (Or.inl ⟨by rfl, ?_⟩) ?_ ?_
         rotate_left
         ·intro w'
          go_simp
          with_reducible rfl
         rotate_left
         ·simp only [Act.put, List.setIfInBounds_toArray, List.set_cons_zero, List.set_cons_succ, i64_w, i32_w]
          rfl
         refine pure_ (i := 2) (N := some 78) (v := ?_) (a' := ?_) #[true, true, true, false, false, false, false, false, false, false, false, false, false, false, false, false, false, false, false, false, false, false, false, false, false, false, false, false, false] rfl rfl (any_of HT_.out (by kernel_rfl)) (fun _ _ _ h => h) (Or.inl ⟨by rfl, ?_⟩) ?_ ?_
         rotate_left
         ·intro w'
          go_simp
          with_reducible rfl
         rotate_left
         ·simp only [Act.put, List.setIfInBounds_toArray, List.set_cons_zero, List.set_cons_succ, i64_w, i32_w]
          rfl
         refine pure_ (i := 3) (N := some 79) (v := ?_) (a' := ?_) #[true, true, true, true, false, false, false, false, false, false, false, false, false, false, false, false, false, false, false, false, false, false, false, false, false, false, false, false, false] rfl rfl (any_of HT_.out (by kernel_rfl)) (fun _ _ _ h => h) (Or.inl ⟨by rfl, ?_⟩) ?_ ?_
         rotate_left
         ·intro w'
          go_simp
          with_reducible rfl
         rotate_left
         ·simp only [Act.put, List.setIfInBounds_toArray, List.set_cons_zero, List.set_cons_succ, i64_w, i32_w]
          rfl
         refine pure_ (i := 4) (N := some 80) (v := ?_) (a' := ?_) #[true, true, true, true, true, false, false, false, false, false, false, false, false, false, false, false, false, false, false, false, false, false, false, false, false, false, false, false, false] rfl rfl (any_of HT_.out (by kernel_rfl)) (fun _ _ _ h => h) (Or.inl ⟨by rfl, ?_⟩) ?_ ?_
         rotate_left
         ·intro w'
          go_simp
          with_reducible rfl
         rotate_left
         ·simp only [Act.put, List.setIfInBounds_toArray, List.set_cons_zero, List.set_cons_succ, i64_w, i32_w]
          rfl
         refine pure_ (i := 5) (N := some 81) (v := undef) (a' := ?_) #[true, true, true, true, true, true, false, false, false, false, false, false, false, false, false, false, false, false, false, false, false, false, false, false, false, false, false, false, false] rfl rfl (any_of HT_.out (by kernel_rfl)) (fun _ _ _ h => h) (Or.inr ⟨by rfl, rfl⟩) ?_ ?_
         rotate_left
         ·simp only [Act.put, List.setIfInBounds_toArray, List.set_cons_zero, List.set_cons_succ, i64_w, i32_w]
          rfl
         refine pure_ (i := 6) (N := some 82) (v := undef) (a' := ?_) #[true, true, true, true, true, true, true, false, false, false, false, false, false, false, false, false, false, false, false, false, false, false, false, false, false, false, false, false, false] rfl rfl (any_of HT_.out (by kernel_rfl)) (fun _ _ _ h => h) (Or.inr ⟨by rfl, rfl⟩) ?_ ?_
         rotate_left
         ·simp only [Act.put, List.setIfInBounds_toArray, List.set_cons_zero, List.set_cons_succ, i64_w, i32_w]
          rfl
         refine pure_ (i := 7) (N := some 83) (v := undef) (a' := ?_) #[true, true, true, true, true, true, true, true, false, false, false, false, false, false, false, false, false, false, false, false, false, false, false, false, false, false, false, false, false] rfl rfl (any_of HT_.out (by kernel_rfl)) (fun _ _ _ h => h) (Or.inr ⟨by rfl, rfl⟩) ?_ ?_
         rotate_left
         ·simp only [Act.put, List.setIfInBounds_toArray, List.set_cons_zero, List.set_cons_succ, i64_w, i32_w]
          rfl
         refine pure_ (i := 8) (N := some 84) (v := undef) (a' := ?_) #[true, true, true, true, true, true, true, true, true, false, false, false, false, false, false, false, false, false, false, false, false, false, false, false, false, false, false, false, false] rfl rfl (any_of HT_.out (by kernel_rfl)) (fun _ _ _ h => h) (Or.inr ⟨by rfl, rfl⟩) ?_ ?_
         rotate_left
         ·simp only [Act.put, List.setIfInBounds_toArray, List.set_cons_zero, List.set_cons_succ, i64_w, i32_w]
          rfl
         refine pure_ (i := 9) (N := some 85) (v := undef) (a' := ?_) #[true, true, true, true, true, true, true, true, true, true, false, false, false, false, false, false, false, false, false, false, false, false, false, false, false, false, false, false, false] rfl rfl (any_of HT_.out (by kernel_rfl)) (fun _ _ _ h => h) (Or.inr ⟨by rfl, rfl⟩) ?_ ?_
         rotate_left
         ·simp only [Act.put, List.setIfInBounds_toArray, List.set_cons_zero, List.set_cons_succ, i64_w, i32_w]
          rfl
         refine pure_ (i := 10) (N := some 86) (v := undef) (a' := ?_) #[true, true, true, true, true, true, true, true, true, true, true, false, false, false, false, false, false, false, false, false, false, false, false, false, false, false, false, false, false] rfl rfl (any_of HT_.out (by kernel_rfl)) (fun _ _ _ h => h) (Or.inr ⟨by rfl, rfl⟩) ?_ ?_
         rotate_left
         ·simp only [Act.put, List.setIfInBounds_toArray, List.set_cons_zero, List.set_cons_succ, i64_w, i32_w]
          rfl
         refine pure_ (i := 11) (N := some 87) (v := undef) (a' := ?_) #[true, true, true, true, true, true, true, true, true, true, true, true, false, false, false, false, false, false, false, false, false, false, false, false, false, false, false, false, false] rfl rfl (any_of HT_.out (by kernel_rfl)) (fun _ _ _ h => h) (Or.inr ⟨by rfl, rfl⟩) ?_ ?_
         rotate_left
         ·simp only [Act.put, List.setIfInBounds_toArray, List.set_cons_zero, List.set_cons_succ, i64_w, i32_w]
          rfl
         refine pure_ (i := 12) (N := some 88) (v := undef) (a' := ?_) #[true, true, true, true, true, true, true, true, true, true, true, true, true, false, false, false, false, false, false, false, false, false, false, false, false, false, false, false, false] rfl rfl (any_of HT_.out (by kernel_rfl)) (fun _ _ _ h => h) (Or.inr ⟨by rfl, rfl⟩) ?_ ?_
         rotate_left
         ·simp only [Act.put, List.setIfInBounds_toArray, List.set_cons_zero, List.set_cons_succ, i64_w, i32_w]
          rfl
         refine pure_ (i := 13) (N := some 89) (v := undef) (a' := ?_) #[true, true, true, true, true, true, true, true, true, true, true, true, true, true, false, false, false, false, false, false, false, false, false, false, false, false, false, false, false] rfl rfl (any_of HT_.out (by kernel_rfl)) (fun _ _ _ h => h) (Or.inr ⟨by rfl, rfl⟩) ?_ ?_
         rotate_left
         ·simp only [Act.put, List.setIfInBounds_toArray, List.set_cons_zero, List.set_cons_succ, i64_w, i32_w]
          rfl
         refine pure_ (i := 14) (N := some 90) (v := ?_) (a' := ?_) #[true, true, true, true, true, true, true, true, true, true, true, true, true, true, true, false, false, false, false, false, false, false, false, false, false, false, false, false, false] rfl rfl (any_of HT_.out (by kernel_rfl)) (fun _ _ _ h => h) (Or.inl ⟨by rfl, ?_⟩) ?_ ?_
         rotate_left
         ·intro w'
          go_simp
          with_reducible rfl
         rotate_left
         ·simp only [Act.put, List.setIfInBounds_toArray, List.set_cons_zero, List.set_cons_succ, i64_w, i32_w]
          rfl
         refine pure_ (i := 15) (N := some 91) (v := ?_) (a' := ?_) #[true, true, true, true, true, true, true, true, true, true, true, true, true, true, true, true, false, false, false, false, false, false, false, false, false, false, false, false, false] rfl rfl (any_of HT_.out (by kernel_rfl)) (fun _ _ _ h => h) (Or.inl ⟨by rfl, ?_⟩) ?_ ?_
         rotate_left
         ·intro w'
          go_simp
          with_reducible rfl
         rotate_left
         ·simp only [Act.put, List.setIfInBounds_toArray, List.set_cons_zero, List.set_cons_succ, i64_w, i32_w]
          rfl
         refine pure_ (i := 16) (N := some 92) (v := ?_) (a' := ?_) #[true, true, true, true, true, true, true, true, true, true, true, true, true, true, true, true, true, false, false, false, false, false, false, false, false, false, false, false, false] rfl rfl (any_of HT_.out (by kernel_rfl)) (fun _ _ _ h => h) (Or.inl ⟨by rfl, ?_⟩) ?_ ?_
         rotate_left
         ·intro w'
          go_simp
          with_reducible rfl
         rotate_left
         ·simp only [Act.put, List.setIfInBounds_toArray, List.set_cons_zero, List.set_cons_succ, i64_w, i32_w]
          rfl
         refine pure_ (i := 17) (N := some 93) (v := ?_) (a' := ?_) #[true, true, true, true, true, true, true, true, true, true, true, true, true, true, true, true, true, true, false, false, false, false, false, false, false, false, false, false, false] rfl rfl (any_of HT_.out (by kernel_rfl)) (fun _ _ _ h => h) (Or.inl ⟨by rfl, ?_⟩) ?_ ?_
         rotate_left
         ·intro w'
          go_simp
          with_reducible rfl
         rotate_left
         ·simp only [Act.put, List.setIfInBounds_toArray, List.set_cons_zero, List.set_cons_succ, i64_w, i32_w]
          rfl
         refine pure_ (i := 18) (N := some 94) (v := ?_) (a' := ?_) #[true, true, true, true, true, true, true, true, true, true, true, true, true, true, true, true, true, true, true, false, false, false, false, false, false, false, false, false, false] rfl rfl (any_of HT_.out (by kernel_rfl)) (fun _ _ _ h => h) (Or.inl ⟨by rfl, ?_⟩) ?_ ?_
         rotate_left
         ·intro w'
          go_simp
          with_reducible rfl
         rotate_left
         ·simp only [Act.put, List.setIfInBounds_toArray, List.set_cons_zero, List.set_cons_succ, i64_w, i32_w]
          rfl
         refine pure_ (i := 19) (N := some 95) (v := ?_) (a' := ?_) #[true, true, true, true, true, true, true, true, true, true, true, true, true, true, true, true, true, true, true, true, false, false, false, false, false, false, false, false, false] rfl rfl (any_of HT_.out (by kernel_rfl)) (fun _ _ _ h => h) (Or.inl ⟨by rfl, ?_⟩) ?_ ?_
         rotate_left
         ·intro w'
          go_simp
          with_reducible rfl
         rotate_left
         ·simp only [Act.put, List.setIfInBounds_toArray, List.set_cons_zero, List.set_cons_succ, i64_w, i32_w]
          rfl
         refine pure_ (i := 20) (N := some 96) (v := ?_) (a' := ?_) #[true, true, true, true, true, true, true, true, true, true, true, true, true, true, true, true, true, true, true, true, true, false, false, false, false, false, false, false, false] rfl rfl (any_of HT_.out (by kernel_rfl)) (fun _ _ _ h => h) (Or.inl ⟨by rfl, ?_⟩) ?_ ?_
         rotate_left
         ·intro w'
          go_simp
          with_reducible rfl
         rotate_left
         ·simp only [Act.put, List.setIfInBounds_toArray, List.set_cons_zero, List.set_cons_succ, i64_w, i32_w]
          rfl
         refine pure_ (i := 21) (N := some 97) (v := ?_) (a' := ?_) #[true, true, true, true, true, true, true, true, true, true, true, true, true, true, true, true, true, true, true, true, true, true, false, false, false, false, false, false, false] rfl rfl (any_of HT_.out (by kernel_rfl)) (fun _ _ _ h => h) (Or.inl ⟨by rfl, ?_⟩) ?_ ?_
         rotate_left
         ·intro w'
          go_simp
          with_reducible rfl
         rotate_left
         ·simp only [Act.put, List.setIfInBounds_toArray, List.set_cons_zero, List.set_cons_succ, i64_w, i32_w]
          rfl
         refine pure_ (i := 22) (N := some 98) (v := ?_) (a' := ?_) #[true, true, true, true, true, true, true, true, true, true, true, true, true, true, true, true, true, true, true, true, true, true, true, false, false, false, false, false, false] rfl rfl (any_of HT_.out (by kernel_rfl)) (fun _ _ _ h => h) (Or.inl ⟨by rfl, ?_⟩) ?_ ?_
         rotate_left
         ·intro w'
          go_simp
          with_reducible rfl
         rotate_left
         ·simp only [Act.put, List.setIfInBounds_toArray, List.set_cons_zero, List.set_cons_succ, i64_w, i32_w]
          rfl
         refine pure_ (i := 23) (N := some 99) (v := ?_) (a' := ?_) #[true, true, true, true, true, true, true, true, true, true, true, true, true, true, true, true, true, true, true, true, true, true, true, true, false, false, false, false, false] rfl rfl (any_of HT_.out (by kernel_rfl)) (fun _ _ _ h => h) (Or.inl ⟨by rfl, ?_⟩) ?_ ?_
         rotate_left
         ·intro w'
          go_simp
          with_reducible rfl
         rotate_left
         ·simp only [Act.put, List.setIfInBounds_toArray, List.set_cons_zero, List.set_cons_succ, i64_w, i32_w]
          rfl
         refine take_ (i := 24) (N := some 100) (v := ?_) (a' := ?_) #[true, true, true, true, true, true, true, true, true, true, true, true, true, true, true, true, true, true, true, true, true, true, true, true, true, false, false, false, false] rfl rfl (take_ofW HT_.out HW_.out (by kernel_rfl)) (fun _ _ _ h => h) (Or.inl ⟨by rfl, ?_⟩) hHeld ?_ ?_
         rotate_left
         ·rintro w' ⟨s0, s1, s2, s3⟩
          go_simp
          with_reducible rfl
         rotate_left
         ·simp only [Act.put, List.setIfInBounds_toArray, List.set_cons_zero, List.set_cons_succ, i64_w, i32_w]
          rfl
         refine take_ (i := 25) (N := some 101) (v := ?_) (a' := ?_) #[true, true, true, true, true, true, true, true, true, true, true, true, true, true, true, true, true, true, true, true, true, true, true, true, true, true, false, false, false] rfl rfl (take_ofW HT_.out HW_.out (by kernel_rfl)) (fun _ _ _ h => h) (Or.inl ⟨by rfl, ?_⟩) hHeld ?_ ?_
         rotate_left
         ·rintro w' ⟨s0, s1, s2, s3⟩
          go_simp
          with_reducible rfl
         rotate_left
         ·simp only [Act.put, List.setIfInBounds_toArray, List.set_cons_zero, List.set_cons_succ, i64_w, i32_w]
          rfl
         refine pure_ (i := 26) (N := some 102) (v := ?_) (a' := ?_) #[true, true, true, true, true, true, true, true, true, true, true, true, true, true, true, true, true, true, true, true, true, true, true, true, true, true, true, false, false] rfl rfl (any_of HT_.out (by kernel_rfl)) (fun _ _ _ h => h) (Or.inl ⟨by rfl, ?_⟩) ?_ ?_
         rotate_left
         ·intro w'
          go_simp
          with_reducible rfl
         rotate_left
         ·simp only [Act.put, List.setIfInBounds_toArray, List.set_cons_zero, List.set_cons_succ, i64_w, i32_w]
          rfl
         refine pure_ (i := 27) (N := some 103) (v := ?_) (a' := ?_) #[true, true, true, true, true, true, true, true, true, true, true, true, true, true, true, true, true, true, true, true, true, true, true, true, true, true, true, true, false] rfl rfl (any_of HT_.out (by kernel_rfl)) (fun _ _ _ h => h) (Or.inl ⟨by rfl, ?_⟩) ?_ ?_
         rotate_left
         ·intro w'
          go_simp
          with_reducible rfl
         rotate_left
         ·simp only [Act.put, List.setIfInBounds_toArray, List.set_cons_zero, List.set_cons_succ, i64_w, i32_w]
          rfl
         refine pure_ (i := 28) (N := some 104) (v := ?_) (a' := ?_) #[true, true, true, true, true, true, true, true, true, true, true, true, true, true, true, true, true, true, true, true, true, true, true, true, true, true, true, true, true] rfl rfl (any_of HT_.out (by kernel_rfl)) (fun _ _ _ h => h) (Or.inl ⟨by rfl, ?_⟩) ?_ ?_
         rotate_left
         ·intro w'
          go_simp
          with_reducible rfl
         rotate_left
         ·simp only [Act.put, List.setIfInBounds_toArray, List.set_cons_zero, List.set_cons_succ, i64_w, i32_w]
          rfl
         refine done_ (done_of HT_.out (by kernel_rfl)) ?_
         try go_wp2
         go_roundg k1
         case measure => have := HK1.out; omega
         case rel => exact ⟨(wrap64 (x73_1 + 1)), (by first | rfl | (simp; done) | (simp [*]; done)), H', ⟨by have := HK1.out; omega⟩, ⟨by (with_reducible repeat (first | apply zA | apply zB | apply zC)); exact HO_25.out⟩, ⟨by (with_reducible repeat (first | apply zA | apply zB | apply zC)); exact HO_31.out⟩, ⟨by (with_reducible repeat (first | apply zA | apply zB | apply zC)); exact HO_67.out⟩, ⟨by (with_reducible repeat (first | refine blk_drewN ?_ _ | refine blk_drew ?_ | refine blk_alloc ?_ _)); exact BK276.out⟩, ⟨by repeat (first | (with_reducible first | exact HB.out | apply zD | apply zE | apply zF | refine below_set ?_ GE276.out) | exact HB.out)⟩⟩
       ·rw [if_neg c73] at H
        exact absurd H (by simp)
      ·rw [if_neg c72] at H
       exact absurd H (by simp)
     ·rw [if_neg c71] at H
      exact absurd H (by simp)
   ·rw [if_neg c64] at H
    have c64b0 : decide (x73_1 < (y283.length : Int)) = false := decide_eq_false c64
    clear c64
    have H' := Aside0.mk H
    clear H
    go_wp2
    go_loopg [108] k1 (fun kq v108 w' => ∃ (x108_2 : Int), v108 = .int .i64 x108_2 ∧ Aside0 (leadtraillaw04_ScalarsOwns.l1 kq l1 y295 y299 y292 t330 (y292.length : Int) x108_2 (-7) (-8) = some r) ∧ Aside0 (kq ≤ k1) ∧ Aside0 (Kd.R k56 56 w' w.heap.size (fun k_ => some k_ ≠ (v331 : Value).ownBlock ∧ k_ ≠ gb276) (.slice Ao44 y292.length co44) y292) ∧ Aside0 (Kd.R k56 56 w' w.heap.size (fun k_ => some k_ ≠ ((.slice Ao44 y292.length co44) : Value).ownBlock ∧ k_ ≠ gb276) v331 t330) ∧ Aside0 (Kd.R k56 56 w' w.heap.size (fun _ => True) (.slice Ao42 y283.length co42) y283) ∧ Aside0 (w'.heap[gb276]? = some (.cells #[.int .i64 (-7), .int .i64 (-8)] 56 (0, 0))) ∧ Aside0 (Below w.heap.size w w'))
    case atStart => exact ⟨(0), (by first | rfl | (simp; done) | (simp [*]; done)), H', ⟨Nat.le_refl _⟩, ⟨by (with_reducible repeat (first | apply zA | apply zB | apply zC)); exact Kd.R_mono HO_31.out (fun _ hk => ⟨hk.2.1, hk.2.2⟩)⟩, ⟨by (with_reducible repeat (first | apply zA | apply zB | apply zC)); exact Kd.R_mono HO_67.out (fun _ hk => ⟨hk.2.1, hk.2.2⟩)⟩, ⟨by (with_reducible repeat (first | apply zA | apply zB | apply zC)); exact Kd.R_mono HO_25.out (fun _ _ => trivial)⟩, ⟨by (with_reducible repeat (first | refine blk_drewN ?_ _ | refine blk_drew ?_ | refine blk_alloc ?_ _)); exact BK276.out⟩, ⟨by repeat (first | (with_reducible first | exact HB.out | apply zD | apply zE | apply zF | refine below_set ?_ GE276.out) | exact HB.out)⟩⟩
    case round =>
     clear H'
     try clear c1
     try clear c2
     try clear p2
     try clear c3
     try clear p3
     try clear q3
     try clear hx3
     try clear qi3
     try clear q4
     try clear c5
     try clear c6
     try clear p6
     try clear c7
     try clear c8
     try clear c24
     try clear c25
     try clear c32
     try clear p32
     try clear q32
     try clear hx32
     try clear qi32
     try clear p33
     try clear q33
     try clear hx33
     try clear q41
     try clear q43
     try clear c59
     try clear c61
     try clear c62
     try clear c64
     try clear c64b0
     try clear p64
     try clear c65
     try clear c65b0
     try clear c66
     try clear c66b0
     try clear c67
     try clear c67b0
     try clear c68
     try clear c68b0
     try clear c69
     try clear c69b0
     try clear c71
     try clear c71b0
     try clear c72
     try clear c72b0
     try clear c73
     try clear c73b0
     try clear c74
     try clear c74b0
     try clear hx329_0
     try clear hx334_0
     try clear hx334_1
     try clear hx335_0
     try clear hx335_1
     try clear hx336_0
     try clear hx336_1
     try clear p2
     try clear p3
     try clear p32
     try clear p329
     try clear p334
     try clear p335
     try clear p336
     try clear q3
     try clear q32
     try clear q329
     try clear q334
     try clear q335
     try clear q336
     try clear q4
     try clear q41
     try clear q43
     obtain ⟨x108_2, rfl, HA, HK2, HO_31, HO_67, HOX9, BK276, HB⟩ := hrel
     cases gk with
     | zero => exact absurd HA.out (by simp [leadtraillaw04_ScalarsOwns.l1])
     | succ k2 =>
      have H := HA.out
      clear HA
      simp only [leadtraillaw04_ScalarsOwns.l1] at H
      by_cases c76 : x108_2 < (y292.length : Int)
      ·rw [if_pos c76] at H
       have c76b0 : decide (x108_2 < (y292.length : Int)) = true := decide_eq_true c76
       clear c76
       by_cases c77 : x108_2 < (l1.length : Int)
       ·rw [if_pos c77] at H
        have c77b0 : decide (x108_2 < (l1.length : Int)) = true := decide_eq_true c77
        clear c77
        by_cases c78 : 0 ≤ x108_2
        ·rw [if_pos c78] at H
         have c78b0 : decide (0 ≤ x108_2) = true := decide_eq_true c78
         clear c78
         by_cases c79 : x108_2 < (y292.length : Int)
         ·rw [if_pos c79] at H
          have c79b0 : decide (x108_2 < (y292.length : Int)) = true := decide_eq_true c79
          clear c79
          by_cases c80 : (!(((rd_T56 y292 x108_2).f0) == ((rd_T56 l1 x108_2).f0)) || (!(((rd_T56 y292 x108_2).f1) == ((rd_T56 l1 x108_2).f1)))) = true
          ·rw [if_pos c80] at H
           have c80b0 : (!(((rd_T56 y292 x108_2).f0) == ((rd_T56 l1 x108_2).f0)) || (!(((rd_T56 y292 x108_2).f1) == ((rd_T56 l1 x108_2).f1)))) = true := c80
           clear c80
           exact absurd H (by simp)
          ·rw [if_neg c80] at H
           have c80b0 : (!(((rd_T56 y292 x108_2).f0) == ((rd_T56 l1 x108_2).f0)) || (!(((rd_T56 y292 x108_2).f1) == ((rd_T56 l1 x108_2).f1)))) = false := by simpa using c80
           clear c80
           by_cases c81 : x108_2 ≥ (l1.length : Int)
           ·rw [if_pos c81] at H
            exact absurd H (by simp)
           ·rw [if_neg c81] at H
            have c81b0 : decide ((l1.length : Int) ≤ x108_2) = false := decide_eq_false c81
            clear c81
            have H' := Aside0.mk H
            clear H
            try go_wp2
            have n0_ := Aside0.mk (Kd.R_drew HO_31.out)
            have n1_ := Aside0.mk (Kd.R_drew HO_67.out)
            have n2_ := Aside0.mk (blk_drew BK276.out)
            have n3_ := Aside0.mk (below_drew1 HB.out)
            clear HO_31
            clear HO_67
            clear BK276
            clear HB
            have HO_31 := n0_
            have HO_67 := n1_
            have BK276 := n2_
            have HB := n3_
            clear n0_ n1_ n2_ n3_
            have p337 : 0 ≤ (x108_2 : Int) := of_decide_eq_true (by first | (with_reducible assumption) | assumption)
            have q337 : x108_2 < (y292.length : Int) := of_decide_eq_true (by first | (with_reducible assumption) | assumption)
            obtain ⟨ad337, e337, hx337_0, hx337_1⟩ := at_T56 (Kd.R_reads' HO_31.out).2.2 x108_2 p337 q337
            cases e337
            replace p337 := eq_true p337
            replace q337 := eq_true q337
            have p338 : 0 ≤ (x108_2 : Int) := of_decide_eq_true (by first | (with_reducible assumption) | assumption)
            have q338 : x108_2 < (l1.length : Int) := of_decide_eq_true (by first | (with_reducible assumption) | assumption)
            obtain ⟨ad338, e338, hx338_0, hx338_1⟩ := at_T56 HR1.out x108_2 p338 q338
            have hw338_1 := hx338_1
            have hw338_0 := hx338_0
            cases e338
            replace hx338_0 := (HB.out.cell (World.block_lt_of_cell? w _ hx338_0)).trans hx338_0
            replace hx338_1 := (HB.out.cell (World.block_lt_of_cell? w _ hx338_1)).trans hx338_1
            replace p338 := eq_true p338
            replace q338 := eq_true q338
            refine start_ (n := 29) (S := fun w' => w'.cell? (ad337.add ((x108_2).toNat * 2)) = some (.int .i64 ((rd_T56 y292 x108_2).f0)) ∧ w'.cell? ⟨(ad337.add ((x108_2).toNat * 2)).block, (ad337.add ((x108_2).toNat * 2)).off + 1, none⟩ = some (.int .i64 ((rd_T56 y292 x108_2).f1)) ∧ w'.cell? (ad338.add ((x108_2).toNat * 2)) = some (.int .i64 ((rd_T56 l1 x108_2).f0)) ∧ w'.cell? ⟨(ad338.add ((x108_2).toNat * 2)).block, (ad338.add ((x108_2).toNat * 2)).off + 1, none⟩ = some (.int .i64 ((rd_T56 l1 x108_2).f1))) (ds := []) #[false, false, false, false, false, false, false, false, false, false, false, false, false, false, false, false, false, false, false, false, false, false, false, false, false, false, false, false, false] (by kernel_rfl) rfl rfl ⟨hx337_0, hx337_1, ((HB.out.cell (World.block_lt_of_cell? w _ hw338_0)).trans hw338_0), ((HB.out.cell (World.block_lt_of_cell? w _ hw338_1)).trans hw338_1)⟩ (fun hHeld => ?_); refine with_tabW leadtraillaw04_ScalarsOwns.tab20 leadtraillaw04_ScalarsOwns.bits20 (fun HT_ HW_ => ?_)
            have HOX9' := Aside0.mk (Kd.R_drew HOX9.out)
            clear HOX9
            have HOX9 := HOX9'
            clear HOX9'
            generalize wr.drew = w82 at HO_31 HO_67 HOX9 BK276 HB hx337_0 hx337_1 hx338_0 hx338_1 hHeld ⊢
            refine pure_ (i := 0) (N := some 111) (v := ?_) (a' := ?_) #[true, false, false, false, false, false, false, false, false, false, false, false, false, false, false, false, false, false, false, false, false, false, false, false, false, false, false, false, false] rfl rfl (any_of HT_.out (by kernel_rfl)) (fun _ _ _ h => h) (Or.inl ⟨by rfl, ?_⟩) ?_ ?_
            rotate_left
            ·intro w'
             go_simp
             with_reducible rfl
            rotate_left
            ·simp only [Act.put, List.setIfInBounds_toArray, List.set_cons_zero, List.set_cons_succ, i64_w, i32_w]
             rfl
            refine pure_ (i := 1) (N := some 112) (v := ?_) (a' := ?_) #[true, true, false, false, false, false, false, false, false, false, false, false, false, false, false, false, false, false, false, false, false, false, false, false, false, false, false, false, false] rfl rfl (any_of HT_.out (by kernel_rfl)) (fun _ _ _ h => h) (Or.inl ⟨by rfl, ?_⟩) ?_ ?_
            rotate_left
            ·intro w'
             go_simp
             with_reducible rfl
            rotate_left
            ·simp only [Act.put, List.setIfInBounds_toArray, List.set_cons_zero, List.set_cons_succ, i64_w, i32_w]
             rfl
            refine pure_ (i := 2) (N := some 113) (v := ?_) (a' := ?_) #[true, true, true, false, false, false, false, false, false, false, false, false, false, false, false, false, false, false, false, false, false, false, false, false, false, false, false, false, false] rfl rfl (any_of HT_.out (by kernel_rfl)) (fun _ _ _ h => h) (Or.inl ⟨by rfl, ?_⟩) ?_ ?_
            rotate_left
            ·intro w'
             go_simp
             with_reducible rfl
            rotate_left
            ·simp only [Act.put, List.setIfInBounds_toArray, List.set_cons_zero, List.set_cons_succ, i64_w, i32_w]
             rfl
            refine pure_ (i := 3) (N := some 114) (v := ?_) (a' := ?_) #[true, true, true, true, false, false, false, false, false, false, false, false, false, false, false, false, false, false, false, false, false, false, false, false, false, false, false, false, false] rfl rfl (any_of HT_.out (by kernel_rfl)) (fun _ _ _ h => h) (Or.inl ⟨by rfl, ?_⟩) ?_ ?_
            rotate_left
            ·intro w'
             go_simp
             with_reducible rfl
            rotate_left
            ·simp only [Act.put, List.setIfInBounds_toArray, List.set_cons_zero, List.set_cons_succ, i64_w, i32_w]
             rfl
            refine pure_ (i := 4) (N := some 115) (v := ?_) (a' := ?_) #[true, true, true, true, true, false, false, false, false, false, false, false, false, false, false, false, false, false, false, false, false, false, false, false, false, false, false, false, false] rfl rfl (any_of HT_.out (by kernel_rfl)) (fun _ _ _ h => h) (Or.inl ⟨by rfl, ?_⟩) ?_ ?_
            rotate_left
            ·intro w'
             go_simp
             with_reducible rfl
            rotate_left
            ·simp only [Act.put, List.setIfInBounds_toArray, List.set_cons_zero, List.set_cons_succ, i64_w, i32_w]
             rfl
            refine pure_ (i := 5) (N := some 116) (v := ?_) (a' := ?_) #[true, true, true, true, true, true, false, false, false, false, false, false, false, false, false, false, false, false, false, false, false, false, false, false, false, false, false, false, false] rfl rfl (any_of HT_.out (by kernel_rfl)) (fun _ _ _ h => h) (Or.inl ⟨by rfl, ?_⟩) ?_ ?_
            rotate_left
            ·intro w'
             go_simp
             with_reducible rfl
            rotate_left
            ·simp only [Act.put, List.setIfInBounds_toArray, List.set_cons_zero, List.set_cons_succ, i64_w, i32_w]
             rfl
            refine pure_ (i := 6) (N := some 117) (v := ?_) (a' := ?_) #[true, true, true, true, true, true, true, false, false, false, false, false, false, false, false, false, false, false, false, false, false, false, false, false, false, false, false, false, false] rfl rfl (any_of HT_.out (by kernel_rfl)) (fun _ _ _ h => h) (Or.inl ⟨by rfl, ?_⟩) ?_ ?_
            rotate_left
            ·intro w'
             go_simp
             with_reducible rfl
            rotate_left
            ·simp only [Act.put, List.setIfInBounds_toArray, List.set_cons_zero, List.set_cons_succ, i64_w, i32_w]
             rfl
            refine pure_ (i := 7) (N := some 118) (v := ?_) (a' := ?_) #[true, true, true, true, true, true, true, true, false, false, false, false, false, false, false, false, false, false, false, false, false, false, false, false, false, false, false, false, false] rfl rfl (any_of HT_.out (by kernel_rfl)) (fun _ _ _ h => h) (Or.inl ⟨by rfl, ?_⟩) ?_ ?_
            rotate_left
            ·intro w'
             go_simp
             with_reducible rfl
            rotate_left
            ·simp only [Act.put, List.setIfInBounds_toArray, List.set_cons_zero, List.set_cons_succ, i64_w, i32_w]
             rfl
            refine pure_ (i := 9) (N := some 120) (v := ?_) (a' := ?_) #[true, true, true, true, true, true, true, true, false, true, false, false, false, false, false, false, false, false, false, false, false, false, false, false, false, false, false, false, false] rfl rfl (any_of HT_.out (by kernel_rfl)) (fun _ _ _ h => h) (Or.inl ⟨by rfl, ?_⟩) ?_ ?_
            rotate_left
            ·intro w'
             go_simp
             with_reducible rfl
            rotate_left
            ·simp only [Act.put, List.setIfInBounds_toArray, List.set_cons_zero, List.set_cons_succ, i64_w, i32_w]
             rfl
            refine pure_ (i := 10) (N := some 121) (v := ?_) (a' := ?_) #[true, true, true, true, true, true, true, true, false, true, true, false, false, false, false, false, false, false, false, false, false, false, false, false, false, false, false, false, false] rfl rfl (any_of HT_.out (by kernel_rfl)) (fun _ _ _ h => h) (Or.inl ⟨by rfl, ?_⟩) ?_ ?_
            rotate_left
            ·intro w'
             go_simp
             with_reducible rfl
            rotate_left
            ·simp only [Act.put, List.setIfInBounds_toArray, List.set_cons_zero, List.set_cons_succ, i64_w, i32_w]
             rfl
            refine pure_ (i := 11) (N := some 122) (v := ?_) (a' := ?_) #[true, true, true, true, true, true, true, true, false, true, true, true, false, false, false, false, false, false, false, false, false, false, false, false, false, false, false, false, false] rfl rfl (any_of HT_.out (by kernel_rfl)) (fun _ _ _ h => h) (Or.inl ⟨by rfl, ?_⟩) ?_ ?_
            rotate_left
            ·intro w'
             go_simp
             with_reducible rfl
            rotate_left
            ·simp only [Act.put, List.setIfInBounds_toArray, List.set_cons_zero, List.set_cons_succ, i64_w, i32_w]
             rfl
            refine take_ (i := 8) (N := some 119) (v := ?_) (a' := ?_) #[true, true, true, true, true, true, true, true, true, true, true, true, false, false, false, false, false, false, false, false, false, false, false, false, false, false, false, false, false] rfl rfl (take_ofW HT_.out HW_.out (by kernel_rfl)) (fun _ _ _ h => h) (Or.inl ⟨by rfl, ?_⟩) hHeld ?_ ?_
            rotate_left
            ·rintro w' ⟨s0, s1, s2, s3⟩
             go_simp
             with_reducible rfl
            rotate_left
            ·simp only [Act.put, List.setIfInBounds_toArray, List.set_cons_zero, List.set_cons_succ, i64_w, i32_w]
             rfl
            refine take_ (i := 12) (N := some 123) (v := ?_) (a' := ?_) #[true, true, true, true, true, true, true, true, true, true, true, true, true, false, false, false, false, false, false, false, false, false, false, false, false, false, false, false, false] rfl rfl (take_ofW HT_.out HW_.out (by kernel_rfl)) (fun _ _ _ h => h) (Or.inl ⟨by rfl, ?_⟩) hHeld ?_ ?_
            rotate_left
            ·rintro w' ⟨s0, s1, s2, s3⟩
             go_simp
             with_reducible rfl
            rotate_left
            ·simp only [Act.put, List.setIfInBounds_toArray, List.set_cons_zero, List.set_cons_succ, i64_w, i32_w]
             rfl
            refine pure_ (i := 13) (N := some 124) (v := ?_) (a' := ?_) #[true, true, true, true, true, true, true, true, true, true, true, true, true, true, false, false, false, false, false, false, false, false, false, false, false, false, false, false, false] rfl rfl (any_of HT_.out (by kernel_rfl)) (fun _ _ _ h => h) (Or.inl ⟨by rfl, ?_⟩) ?_ ?_
            rotate_left
            ·intro w'
             go_simp
             with_reducible rfl
            rotate_left
            ·simp only [Act.put, List.setIfInBounds_toArray, List.set_cons_zero, List.set_cons_succ, i64_w, i32_w]
             rfl
            refine pure_ (i := 14) (N := some 125) (v := ?_) (a' := ?_) #[true, true, true, true, true, true, true, true, true, true, true, true, true, true, true, false, false, false, false, false, false, false, false, false, false, false, false, false, false] rfl rfl (any_of HT_.out (by kernel_rfl)) (fun _ _ _ h => h) (Or.inl ⟨by rfl, ?_⟩) ?_ ?_
            rotate_left
            ·intro w'
             go_simp
             with_reducible rfl
            rotate_left
            ·simp only [Act.put, List.setIfInBounds_toArray, List.set_cons_zero, List.set_cons_succ, i64_w, i32_w]
             rfl
            refine pure_ (i := 15) (N := some 126) (v := ?_) (a' := ?_) #[true, true, true, true, true, true, true, true, true, true, true, true, true, true, true, true, false, false, false, false, false, false, false, false, false, false, false, false, false] rfl rfl (any_of HT_.out (by kernel_rfl)) (fun _ _ _ h => h) (Or.inl ⟨by rfl, ?_⟩) ?_ ?_
            rotate_left
            ·intro w'
             go_simp
             with_reducible rfl
            rotate_left
            ·simp only [Act.put, List.setIfInBounds_toArray, List.set_cons_zero, List.set_cons_succ, i64_w, i32_w]
             rfl
            refine pure_ (i := 16) (N := some 127) (v := ?_) (a' := ?_) #[true, true, true, true, true, true, true, true, true, true, true, true, true, true, true, true, true, false, false, false, false, false, false, false, false, false, false, false, false] rfl rfl (any_of HT_.out (by kernel_rfl)) (fun _ _ _ h => h) (Or.inl ⟨by rfl, ?_⟩) ?_ ?_
            rotate_left
            ·intro w'
             go_simp
             with_reducible rfl
            rotate_left
            ·simp only [Act.put, List.setIfInBounds_toArray, List.set_cons_zero, List.set_cons_succ, i64_w, i32_w]
             rfl
            refine pure_ (i := 17) (N := some 128) (v := ?_) (a' := ?_) #[true, true, true, true, true, true, true, true, true, true, true, true, true, true, true, true, true, true, false, false, false, false, false, false, false, false, false, false, false] rfl rfl (any_of HT_.out (by kernel_rfl)) (fun _ _ _ h => h) (Or.inl ⟨by rfl, ?_⟩) ?_ ?_
            rotate_left
            ·intro w'
             go_simp
             with_reducible rfl
            rotate_left
            ·simp only [Act.put, List.setIfInBounds_toArray, List.set_cons_zero, List.set_cons_succ, i64_w, i32_w]
             rfl
            refine pure_ (i := 18) (N := some 129) (v := ?_) (a' := ?_) #[true, true, true, true, true, true, true, true, true, true, true, true, true, true, true, true, true, true, true, false, false, false, false, false, false, false, false, false, false] rfl rfl (any_of HT_.out (by kernel_rfl)) (fun _ _ _ h => h) (Or.inl ⟨by rfl, ?_⟩) ?_ ?_
            rotate_left
            ·intro w'
             go_simp
             with_reducible rfl
            rotate_left
            ·simp only [Act.put, List.setIfInBounds_toArray, List.set_cons_zero, List.set_cons_succ, i64_w, i32_w]
             rfl
            refine pure_ (i := 19) (N := some 130) (v := ?_) (a' := ?_) #[true, true, true, true, true, true, true, true, true, true, true, true, true, true, true, true, true, true, true, true, false, false, false, false, false, false, false, false, false] rfl rfl (any_of HT_.out (by kernel_rfl)) (fun _ _ _ h => h) (Or.inl ⟨by rfl, ?_⟩) ?_ ?_
            rotate_left
            ·intro w'
             go_simp
             with_reducible rfl
            rotate_left
            ·simp only [Act.put, List.setIfInBounds_toArray, List.set_cons_zero, List.set_cons_succ, i64_w, i32_w]
             rfl
            refine pure_ (i := 20) (N := some 131) (v := ?_) (a' := ?_) #[true, true, true, true, true, true, true, true, true, true, true, true, true, true, true, true, true, true, true, true, true, false, false, false, false, false, false, false, false] rfl rfl (any_of HT_.out (by kernel_rfl)) (fun _ _ _ h => h) (Or.inl ⟨by rfl, ?_⟩) ?_ ?_
            rotate_left
            ·intro w'
             go_simp
             with_reducible rfl
            rotate_left
            ·simp only [Act.put, List.setIfInBounds_toArray, List.set_cons_zero, List.set_cons_succ, i64_w, i32_w]
             rfl
            refine pure_ (i := 21) (N := some 132) (v := undef) (a' := ?_) #[true, true, true, true, true, true, true, true, true, true, true, true, true, true, true, true, true, true, true, true, true, true, false, false, false, false, false, false, false] rfl rfl (any_of HT_.out (by kernel_rfl)) (fun _ _ _ h => h) (Or.inr ⟨by rfl, rfl⟩) ?_ ?_
            rotate_left
            ·simp only [Act.put, List.setIfInBounds_toArray, List.set_cons_zero, List.set_cons_succ, i64_w, i32_w]
             rfl
            refine pure_ (i := 22) (N := some 133) (v := undef) (a' := ?_) #[true, true, true, true, true, true, true, true, true, true, true, true, true, true, true, true, true, true, true, true, true, true, true, false, false, false, false, false, false] rfl rfl (any_of HT_.out (by kernel_rfl)) (fun _ _ _ h => h) (Or.inr ⟨by rfl, rfl⟩) ?_ ?_
            rotate_left
            ·simp only [Act.put, List.setIfInBounds_toArray, List.set_cons_zero, List.set_cons_succ, i64_w, i32_w]
             rfl
            refine pure_ (i := 23) (N := some 134) (v := undef) (a' := ?_) #[true, true, true, true, true, true, true, true, true, true, true, true, true, true, true, true, true, true, true, true, true, true, true, true, false, false, false, false, false] rfl rfl (any_of HT_.out (by kernel_rfl)) (fun _ _ _ h => h) (Or.inr ⟨by rfl, rfl⟩) ?_ ?_
            rotate_left
            ·simp only [Act.put, List.setIfInBounds_toArray, List.set_cons_zero, List.set_cons_succ, i64_w, i32_w]
             rfl
            refine pure_ (i := 24) (N := some 135) (v := undef) (a' := ?_) #[true, true, true, true, true, true, true, true, true, true, true, true, true, true, true, true, true, true, true, true, true, true, true, true, true, false, false, false, false] rfl rfl (any_of HT_.out (by kernel_rfl)) (fun _ _ _ h => h) (Or.inr ⟨by rfl, rfl⟩) ?_ ?_
            rotate_left
            ·simp only [Act.put, List.setIfInBounds_toArray, List.set_cons_zero, List.set_cons_succ, i64_w, i32_w]
             rfl
            refine pure_ (i := 25) (N := some 136) (v := undef) (a' := ?_) #[true, true, true, true, true, true, true, true, true, true, true, true, true, true, true, true, true, true, true, true, true, true, true, true, true, true, false, false, false] rfl rfl (any_of HT_.out (by kernel_rfl)) (fun _ _ _ h => h) (Or.inr ⟨by rfl, rfl⟩) ?_ ?_
            rotate_left
            ·simp only [Act.put, List.setIfInBounds_toArray, List.set_cons_zero, List.set_cons_succ, i64_w, i32_w]
             rfl
            refine pure_ (i := 26) (N := some 137) (v := undef) (a' := ?_) #[true, true, true, true, true, true, true, true, true, true, true, true, true, true, true, true, true, true, true, true, true, true, true, true, true, true, true, false, false] rfl rfl (any_of HT_.out (by kernel_rfl)) (fun _ _ _ h => h) (Or.inr ⟨by rfl, rfl⟩) ?_ ?_
            rotate_left
            ·simp only [Act.put, List.setIfInBounds_toArray, List.set_cons_zero, List.set_cons_succ, i64_w, i32_w]
             rfl
            refine pure_ (i := 27) (N := some 138) (v := ?_) (a' := ?_) #[true, true, true, true, true, true, true, true, true, true, true, true, true, true, true, true, true, true, true, true, true, true, true, true, true, true, true, true, false] rfl rfl (any_of HT_.out (by kernel_rfl)) (fun _ _ _ h => h) (Or.inl ⟨by rfl, ?_⟩) ?_ ?_
            rotate_left
            ·intro w'
             go_simp
             with_reducible rfl
            rotate_left
            ·simp only [Act.put, List.setIfInBounds_toArray, List.set_cons_zero, List.set_cons_succ, i64_w, i32_w]
             rfl
            refine pure_ (i := 28) (N := some 139) (v := ?_) (a' := ?_) #[true, true, true, true, true, true, true, true, true, true, true, true, true, true, true, true, true, true, true, true, true, true, true, true, true, true, true, true, true] rfl rfl (any_of HT_.out (by kernel_rfl)) (fun _ _ _ h => h) (Or.inl ⟨by rfl, ?_⟩) ?_ ?_
            rotate_left
            ·intro w'
             go_simp
             with_reducible rfl
            rotate_left
            ·simp only [Act.put, List.setIfInBounds_toArray, List.set_cons_zero, List.set_cons_succ, i64_w, i32_w]
             rfl
            refine done_ (done_of HT_.out (by kernel_rfl)) ?_
            try go_wp2
            go_roundg k2
            case measure => have := HK1.out; have := HK2.out; omega
            case rel => exact ⟨(wrap64 (x108_2 + 1)), (by first | rfl | (simp; done) | (simp [*]; done)), H', ⟨by have := HK1.out; have := HK2.out; omega⟩, ⟨by (with_reducible repeat (first | apply zA | apply zB | apply zC)); exact HO_31.out⟩, ⟨by (with_reducible repeat (first | apply zA | apply zB | apply zC)); exact HO_67.out⟩, ⟨by (with_reducible repeat (first | apply zA | apply zB | apply zC)); exact HOX9.out⟩, ⟨by (with_reducible repeat (first | refine blk_drewN ?_ _ | refine blk_drew ?_ | refine blk_alloc ?_ _)); exact BK276.out⟩, ⟨by repeat (first | (with_reducible first | exact HB.out | apply zD | apply zE | apply zF | refine below_set ?_ GE276.out) | exact HB.out)⟩⟩
         ·rw [if_neg c79] at H
          exact absurd H (by simp)
        ·rw [if_neg c78] at H
         exact absurd H (by simp)
       ·rw [if_neg c77] at H
        have c77b0 : decide (x108_2 < (l1.length : Int)) = false := decide_eq_false c77
        clear c77
        by_cases c83 : x108_2 ≥ (l1.length : Int)
        ·rw [if_pos c83] at H
         have c83b0 : decide ((l1.length : Int) ≤ x108_2) = true := decide_eq_true c83
         clear c83
         by_cases c84 : 0 ≤ x108_2
         ·rw [if_pos c84] at H
          have c84b0 : decide (0 ≤ x108_2) = true := decide_eq_true c84
          clear c84
          by_cases c85 : x108_2 < (y292.length : Int)
          ·rw [if_pos c85] at H
           have c85b0 : decide (x108_2 < (y292.length : Int)) = true := decide_eq_true c85
           clear c85
           by_cases c86 : (!(((rd_T56 y292 x108_2).f0) == (-7)) || (!(((rd_T56 y292 x108_2).f1) == (-8)))) = true
           ·rw [if_pos c86] at H
            exact absurd H (by simp)
           ·rw [if_neg c86] at H
            have c86b0 : (!(((rd_T56 y292 x108_2).f0) == (-7)) || (!(((rd_T56 y292 x108_2).f1) == (-8)))) = false := by simpa using c86
            clear c86
            have H' := Aside0.mk H
            clear H
            try go_wp2
            have n0_ := Aside0.mk (Kd.R_drew HO_31.out)
            have n1_ := Aside0.mk (Kd.R_drew HO_67.out)
            have n2_ := Aside0.mk (blk_drew BK276.out)
            have n3_ := Aside0.mk (below_drew1 HB.out)
            clear HO_31
            clear HO_67
            clear BK276
            clear HB
            have HO_31 := n0_
            have HO_67 := n1_
            have BK276 := n2_
            have HB := n3_
            clear n0_ n1_ n2_ n3_
            have p339 : 0 ≤ (x108_2 : Int) := of_decide_eq_true (by first | (with_reducible assumption) | assumption)
            have q339 : x108_2 < (y292.length : Int) := of_decide_eq_true (by first | (with_reducible assumption) | assumption)
            obtain ⟨ad339, e339, hx339_0, hx339_1⟩ := at_T56 (Kd.R_reads' HO_31.out).2.2 x108_2 p339 q339
            cases e339
            replace p339 := eq_true p339
            replace q339 := eq_true q339
            refine start_ (n := 29) (S := fun w' => w'.cell? ⟨gb276, 0, none⟩ = some (.int .i64 (-7)) ∧ w'.cell? ⟨gb276, 1, none⟩ = some (.int .i64 (-8)) ∧ w'.cell? (ad339.add ((x108_2).toNat * 2)) = some (.int .i64 ((rd_T56 y292 x108_2).f0)) ∧ w'.cell? ⟨(ad339.add ((x108_2).toNat * 2)).block, (ad339.add ((x108_2).toNat * 2)).off + 1, none⟩ = some (.int .i64 ((rd_T56 y292 x108_2).f1))) (ds := []) #[false, false, false, false, false, false, false, false, false, false, false, false, false, false, false, false, false, false, false, false, false, false, false, false, false, false, false, false, false] (by kernel_rfl) rfl rfl ⟨(blk_cell BK276.out 0).trans rfl, (blk_cell BK276.out 1).trans rfl, hx339_0, hx339_1⟩ (fun hHeld => ?_); refine with_tabW leadtraillaw04_ScalarsOwns.tab20 leadtraillaw04_ScalarsOwns.bits20 (fun HT_ HW_ => ?_)
            have HOX9' := Aside0.mk (Kd.R_drew HOX9.out)
            clear HOX9
            have HOX9 := HOX9'
            clear HOX9'
            generalize wr.drew = w87 at HO_31 HO_67 HOX9 BK276 HB hx339_0 hx339_1 hHeld ⊢
            refine pure_ (i := 0) (N := some 111) (v := ?_) (a' := ?_) #[true, false, false, false, false, false, false, false, false, false, false, false, false, false, false, false, false, false, false, false, false, false, false, false, false, false, false, false, false] rfl rfl (any_of HT_.out (by kernel_rfl)) (fun _ _ _ h => h) (Or.inl ⟨by rfl, ?_⟩) ?_ ?_
            rotate_left
            ·intro w'
             go_simp
             with_reducible rfl
            rotate_left
            ·simp only [Act.put, List.setIfInBounds_toArray, List.set_cons_zero, List.set_cons_succ, i64_w, i32_w]
             rfl
            refine pure_ (i := 1) (N := some 112) (v := ?_) (a' := ?_) #[true, true, false, false, false, false, false, false, false, false, false, false, false, false, false, false, false, false, false, false, false, false, false, false, false, false, false, false, false] rfl rfl (any_of HT_.out (by kernel_rfl)) (fun _ _ _ h => h) (Or.inl ⟨by rfl, ?_⟩) ?_ ?_
            rotate_left
            ·intro w'
             go_simp
             with_reducible rfl
            rotate_left
            ·simp only [Act.put, List.setIfInBounds_toArray, List.set_cons_zero, List.set_cons_succ, i64_w, i32_w]
             rfl
            refine pure_ (i := 2) (N := some 113) (v := ?_) (a' := ?_) #[true, true, true, false, false, false, false, false, false, false, false, false, false, false, false, false, false, false, false, false, false, false, false, false, false, false, false, false, false] rfl rfl (any_of HT_.out (by kernel_rfl)) (fun _ _ _ h => h) (Or.inl ⟨by rfl, ?_⟩) ?_ ?_
            rotate_left
            ·intro w'
             go_simp
             with_reducible rfl
            rotate_left
            ·simp only [Act.put, List.setIfInBounds_toArray, List.set_cons_zero, List.set_cons_succ, i64_w, i32_w]
             rfl
            refine pure_ (i := 3) (N := some 114) (v := ?_) (a' := ?_) #[true, true, true, true, false, false, false, false, false, false, false, false, false, false, false, false, false, false, false, false, false, false, false, false, false, false, false, false, false] rfl rfl (any_of HT_.out (by kernel_rfl)) (fun _ _ _ h => h) (Or.inl ⟨by rfl, ?_⟩) ?_ ?_
            rotate_left
            ·intro w'
             go_simp
             with_reducible rfl
            rotate_left
            ·simp only [Act.put, List.setIfInBounds_toArray, List.set_cons_zero, List.set_cons_succ, i64_w, i32_w]
             rfl
            refine pure_ (i := 4) (N := some 115) (v := ?_) (a' := ?_) #[true, true, true, true, true, false, false, false, false, false, false, false, false, false, false, false, false, false, false, false, false, false, false, false, false, false, false, false, false] rfl rfl (any_of HT_.out (by kernel_rfl)) (fun _ _ _ h => h) (Or.inl ⟨by rfl, ?_⟩) ?_ ?_
            rotate_left
            ·intro w'
             go_simp
             with_reducible rfl
            rotate_left
            ·simp only [Act.put, List.setIfInBounds_toArray, List.set_cons_zero, List.set_cons_succ, i64_w, i32_w]
             rfl
            refine pure_ (i := 5) (N := some 116) (v := undef) (a' := ?_) #[true, true, true, true, true, true, false, false, false, false, false, false, false, false, false, false, false, false, false, false, false, false, false, false, false, false, false, false, false] rfl rfl (any_of HT_.out (by kernel_rfl)) (fun _ _ _ h => h) (Or.inr ⟨by rfl, rfl⟩) ?_ ?_
            rotate_left
            ·simp only [Act.put, List.setIfInBounds_toArray, List.set_cons_zero, List.set_cons_succ, i64_w, i32_w]
             rfl
            refine pure_ (i := 6) (N := some 117) (v := undef) (a' := ?_) #[true, true, true, true, true, true, true, false, false, false, false, false, false, false, false, false, false, false, false, false, false, false, false, false, false, false, false, false, false] rfl rfl (any_of HT_.out (by kernel_rfl)) (fun _ _ _ h => h) (Or.inr ⟨by rfl, rfl⟩) ?_ ?_
            rotate_left
            ·simp only [Act.put, List.setIfInBounds_toArray, List.set_cons_zero, List.set_cons_succ, i64_w, i32_w]
             rfl
            refine pure_ (i := 7) (N := some 118) (v := undef) (a' := ?_) #[true, true, true, true, true, true, true, true, false, false, false, false, false, false, false, false, false, false, false, false, false, false, false, false, false, false, false, false, false] rfl rfl (any_of HT_.out (by kernel_rfl)) (fun _ _ _ h => h) (Or.inr ⟨by rfl, rfl⟩) ?_ ?_
            rotate_left
            ·simp only [Act.put, List.setIfInBounds_toArray, List.set_cons_zero, List.set_cons_succ, i64_w, i32_w]
             rfl
            refine pure_ (i := 8) (N := some 119) (v := undef) (a' := ?_) #[true, true, true, true, true, true, true, true, true, false, false, false, false, false, false, false, false, false, false, false, false, false, false, false, false, false, false, false, false] rfl rfl (any_of HT_.out (by kernel_rfl)) (fun _ _ _ h => h) (Or.inr ⟨by rfl, rfl⟩) ?_ ?_
            rotate_left
            ·simp only [Act.put, List.setIfInBounds_toArray, List.set_cons_zero, List.set_cons_succ, i64_w, i32_w]
             rfl
            refine pure_ (i := 9) (N := some 120) (v := undef) (a' := ?_) #[true, true, true, true, true, true, true, true, true, true, false, false, false, false, false, false, false, false, false, false, false, false, false, false, false, false, false, false, false] rfl rfl (any_of HT_.out (by kernel_rfl)) (fun _ _ _ h => h) (Or.inr ⟨by rfl, rfl⟩) ?_ ?_
            rotate_left
            ·simp only [Act.put, List.setIfInBounds_toArray, List.set_cons_zero, List.set_cons_succ, i64_w, i32_w]
             rfl
            refine pure_ (i := 10) (N := some 121) (v := undef) (a' := ?_) #[true, true, true, true, true, true, true, true, true, true, true, false, false, false, false, false, false, false, false, false, false, false, false, false, false, false, false, false, false] rfl rfl (any_of HT_.out (by kernel_rfl)) (fun _ _ _ h => h) (Or.inr ⟨by rfl, rfl⟩) ?_ ?_
            rotate_left
            ·simp only [Act.put, List.setIfInBounds_toArray, List.set_cons_zero, List.set_cons_succ, i64_w, i32_w]
             rfl
            refine pure_ (i := 11) (N := some 122) (v := undef) (a' := ?_) #[true, true, true, true, true, true, true, true, true, true, true, true, false, false, false, false, false, false, false, false, false, false, false, false, false, false, false, false, false] rfl rfl (any_of HT_.out (by kernel_rfl)) (fun _ _ _ h => h) (Or.inr ⟨by rfl, rfl⟩) ?_ ?_
            rotate_left
            ·simp only [Act.put, List.setIfInBounds_toArray, List.set_cons_zero, List.set_cons_succ, i64_w, i32_w]
             rfl
            refine pure_ (i := 12) (N := some 123) (v := undef) (a' := ?_) #[true, true, true, true, true, true, true, true, true, true, true, true, true, false, false, false, false, false, false, false, false, false, false, false, false, false, false, false, false] rfl rfl (any_of HT_.out (by kernel_rfl)) (fun _ _ _ h => h) (Or.inr ⟨by rfl, rfl⟩) ?_ ?_
            rotate_left
            ·simp only [Act.put, List.setIfInBounds_toArray, List.set_cons_zero, List.set_cons_succ, i64_w, i32_w]
             rfl
            refine pure_ (i := 13) (N := some 124) (v := undef) (a' := ?_) #[true, true, true, true, true, true, true, true, true, true, true, true, true, true, false, false, false, false, false, false, false, false, false, false, false, false, false, false, false] rfl rfl (any_of HT_.out (by kernel_rfl)) (fun _ _ _ h => h) (Or.inr ⟨by rfl, rfl⟩) ?_ ?_
            rotate_left
            ·simp only [Act.put, List.setIfInBounds_toArray, List.set_cons_zero, List.set_cons_succ, i64_w, i32_w]
             rfl
            refine pure_ (i := 14) (N := some 125) (v := ?_) (a' := ?_) #[true, true, true, true, true, true, true, true, true, true, true, true, true, true, true, false, false, false, false, false, false, false, false, false, false, false, false, false, false] rfl rfl (any_of HT_.out (by kernel_rfl)) (fun _ _ _ h => h) (Or.inl ⟨by rfl, ?_⟩) ?_ ?_
            rotate_left
            ·intro w'
             go_simp
             with_reducible rfl
            rotate_left
            ·simp only [Act.put, List.setIfInBounds_toArray, List.set_cons_zero, List.set_cons_succ, i64_w, i32_w]
             rfl
            refine pure_ (i := 15) (N := some 126) (v := ?_) (a' := ?_) #[true, true, true, true, true, true, true, true, true, true, true, true, true, true, true, true, false, false, false, false, false, false, false, false, false, false, false, false, false] rfl rfl (any_of HT_.out (by kernel_rfl)) (fun _ _ _ h => h) (Or.inl ⟨by rfl, ?_⟩) ?_ ?_
            rotate_left
            ·intro w'
             go_simp
             with_reducible rfl
            rotate_left
            ·simp only [Act.put, List.setIfInBounds_toArray, List.set_cons_zero, List.set_cons_succ, i64_w, i32_w]
             rfl
            refine pure_ (i := 16) (N := some 127) (v := ?_) (a' := ?_) #[true, true, true, true, true, true, true, true, true, true, true, true, true, true, true, true, true, false, false, false, false, false, false, false, false, false, false, false, false] rfl rfl (any_of HT_.out (by kernel_rfl)) (fun _ _ _ h => h) (Or.inl ⟨by rfl, ?_⟩) ?_ ?_
            rotate_left
            ·intro w'
             go_simp
             with_reducible rfl
            rotate_left
            ·simp only [Act.put, List.setIfInBounds_toArray, List.set_cons_zero, List.set_cons_succ, i64_w, i32_w]
             rfl
            refine pure_ (i := 17) (N := some 128) (v := ?_) (a' := ?_) #[true, true, true, true, true, true, true, true, true, true, true, true, true, true, true, true, true, true, false, false, false, false, false, false, false, false, false, false, false] rfl rfl (any_of HT_.out (by kernel_rfl)) (fun _ _ _ h => h) (Or.inl ⟨by rfl, ?_⟩) ?_ ?_
            rotate_left
            ·intro w'
             go_simp
             with_reducible rfl
            rotate_left
            ·simp only [Act.put, List.setIfInBounds_toArray, List.set_cons_zero, List.set_cons_succ, i64_w, i32_w]
             rfl
            refine pure_ (i := 18) (N := some 129) (v := ?_) (a' := ?_) #[true, true, true, true, true, true, true, true, true, true, true, true, true, true, true, true, true, true, true, false, false, false, false, false, false, false, false, false, false] rfl rfl (any_of HT_.out (by kernel_rfl)) (fun _ _ _ h => h) (Or.inl ⟨by rfl, ?_⟩) ?_ ?_
            rotate_left
            ·intro w'
             go_simp
             with_reducible rfl
            rotate_left
            ·simp only [Act.put, List.setIfInBounds_toArray, List.set_cons_zero, List.set_cons_succ, i64_w, i32_w]
             rfl
            refine pure_ (i := 19) (N := some 130) (v := ?_) (a' := ?_) #[true, true, true, true, true, true, true, true, true, true, true, true, true, true, true, true, true, true, true, true, false, false, false, false, false, false, false, false, false] rfl rfl (any_of HT_.out (by kernel_rfl)) (fun _ _ _ h => h) (Or.inl ⟨by rfl, ?_⟩) ?_ ?_
            rotate_left
            ·intro w'
             go_simp
             with_reducible rfl
            rotate_left
            ·simp only [Act.put, List.setIfInBounds_toArray, List.set_cons_zero, List.set_cons_succ, i64_w, i32_w]
             rfl
            refine pure_ (i := 20) (N := some 131) (v := ?_) (a' := ?_) #[true, true, true, true, true, true, true, true, true, true, true, true, true, true, true, true, true, true, true, true, true, false, false, false, false, false, false, false, false] rfl rfl (any_of HT_.out (by kernel_rfl)) (fun _ _ _ h => h) (Or.inl ⟨by rfl, ?_⟩) ?_ ?_
            rotate_left
            ·intro w'
             go_simp
             with_reducible rfl
            rotate_left
            ·simp only [Act.put, List.setIfInBounds_toArray, List.set_cons_zero, List.set_cons_succ, i64_w, i32_w]
             rfl
            refine pure_ (i := 21) (N := some 132) (v := ?_) (a' := ?_) #[true, true, true, true, true, true, true, true, true, true, true, true, true, true, true, true, true, true, true, true, true, true, false, false, false, false, false, false, false] rfl rfl (any_of HT_.out (by kernel_rfl)) (fun _ _ _ h => h) (Or.inl ⟨by rfl, ?_⟩) ?_ ?_
            rotate_left
            ·intro w'
             go_simp
             with_reducible rfl
            rotate_left
            ·simp only [Act.put, List.setIfInBounds_toArray, List.set_cons_zero, List.set_cons_succ, i64_w, i32_w]
             rfl
            refine pure_ (i := 22) (N := some 133) (v := ?_) (a' := ?_) #[true, true, true, true, true, true, true, true, true, true, true, true, true, true, true, true, true, true, true, true, true, true, true, false, false, false, false, false, false] rfl rfl (any_of HT_.out (by kernel_rfl)) (fun _ _ _ h => h) (Or.inl ⟨by rfl, ?_⟩) ?_ ?_
            rotate_left
            ·intro w'
             go_simp
             with_reducible rfl
            rotate_left
            ·simp only [Act.put, List.setIfInBounds_toArray, List.set_cons_zero, List.set_cons_succ, i64_w, i32_w]
             rfl
            refine pure_ (i := 23) (N := some 134) (v := ?_) (a' := ?_) #[true, true, true, true, true, true, true, true, true, true, true, true, true, true, true, true, true, true, true, true, true, true, true, true, false, false, false, false, false] rfl rfl (any_of HT_.out (by kernel_rfl)) (fun _ _ _ h => h) (Or.inl ⟨by rfl, ?_⟩) ?_ ?_
            rotate_left
            ·intro w'
             go_simp
             with_reducible rfl
            rotate_left
            ·simp only [Act.put, List.setIfInBounds_toArray, List.set_cons_zero, List.set_cons_succ, i64_w, i32_w]
             rfl
            refine take_ (i := 24) (N := some 135) (v := ?_) (a' := ?_) #[true, true, true, true, true, true, true, true, true, true, true, true, true, true, true, true, true, true, true, true, true, true, true, true, true, false, false, false, false] rfl rfl (take_ofW HT_.out HW_.out (by kernel_rfl)) (fun _ _ _ h => h) (Or.inl ⟨by rfl, ?_⟩) hHeld ?_ ?_
            rotate_left
            ·rintro w' ⟨s0, s1, s2, s3⟩
             go_simp
             with_reducible rfl
            rotate_left
            ·simp only [Act.put, List.setIfInBounds_toArray, List.set_cons_zero, List.set_cons_succ, i64_w, i32_w]
             rfl
            refine take_ (i := 25) (N := some 136) (v := ?_) (a' := ?_) #[true, true, true, true, true, true, true, true, true, true, true, true, true, true, true, true, true, true, true, true, true, true, true, true, true, true, false, false, false] rfl rfl (take_ofW HT_.out HW_.out (by kernel_rfl)) (fun _ _ _ h => h) (Or.inl ⟨by rfl, ?_⟩) hHeld ?_ ?_
            rotate_left
            ·rintro w' ⟨s0, s1, s2, s3⟩
             go_simp
             with_reducible rfl
            rotate_left
            ·simp only [Act.put, List.setIfInBounds_toArray, List.set_cons_zero, List.set_cons_succ, i64_w, i32_w]
             rfl
            refine pure_ (i := 26) (N := some 137) (v := ?_) (a' := ?_) #[true, true, true, true, true, true, true, true, true, true, true, true, true, true, true, true, true, true, true, true, true, true, true, true, true, true, true, false, false] rfl rfl (any_of HT_.out (by kernel_rfl)) (fun _ _ _ h => h) (Or.inl ⟨by rfl, ?_⟩) ?_ ?_
            rotate_left
            ·intro w'
             go_simp
             with_reducible rfl
            rotate_left
            ·simp only [Act.put, List.setIfInBounds_toArray, List.set_cons_zero, List.set_cons_succ, i64_w, i32_w]
             rfl
            refine pure_ (i := 27) (N := some 138) (v := ?_) (a' := ?_) #[true, true, true, true, true, true, true, true, true, true, true, true, true, true, true, true, true, true, true, true, true, true, true, true, true, true, true, true, false] rfl rfl (any_of HT_.out (by kernel_rfl)) (fun _ _ _ h => h) (Or.inl ⟨by rfl, ?_⟩) ?_ ?_
            rotate_left
            ·intro w'
             go_simp
             with_reducible rfl
            rotate_left
            ·simp only [Act.put, List.setIfInBounds_toArray, List.set_cons_zero, List.set_cons_succ, i64_w, i32_w]
             rfl
            refine pure_ (i := 28) (N := some 139) (v := ?_) (a' := ?_) #[true, true, true, true, true, true, true, true, true, true, true, true, true, true, true, true, true, true, true, true, true, true, true, true, true, true, true, true, true] rfl rfl (any_of HT_.out (by kernel_rfl)) (fun _ _ _ h => h) (Or.inl ⟨by rfl, ?_⟩) ?_ ?_
            rotate_left
            ·intro w'
             go_simp
             with_reducible rfl
            rotate_left
            ·simp only [Act.put, List.setIfInBounds_toArray, List.set_cons_zero, List.set_cons_succ, i64_w, i32_w]
             rfl
            refine done_ (done_of HT_.out (by kernel_rfl)) ?_
            try go_wp2
            go_roundg k2
            case measure => have := HK1.out; have := HK2.out; omega
            case rel => exact ⟨(wrap64 (x108_2 + 1)), (by first | rfl | (simp; done) | (simp [*]; done)), H', ⟨by have := HK1.out; have := HK2.out; omega⟩, ⟨by (with_reducible repeat (first | apply zA | apply zB | apply zC)); exact HO_31.out⟩, ⟨by (with_reducible repeat (first | apply zA | apply zB | apply zC)); exact HO_67.out⟩, ⟨by (with_reducible repeat (first | apply zA | apply zB | apply zC)); exact HOX9.out⟩, ⟨by (with_reducible repeat (first | refine blk_drewN ?_ _ | refine blk_drew ?_ | refine blk_alloc ?_ _)); exact BK276.out⟩, ⟨by repeat (first | (with_reducible first | exact HB.out | apply zD | apply zE | apply zF | refine below_set ?_ GE276.out) | exact HB.out)⟩⟩
          ·rw [if_neg c85] at H
           exact absurd H (by simp)
         ·rw [if_neg c84] at H
          exact absurd H (by simp)
        ·rw [if_neg c83] at H
         exact absurd H (by simp)
      ·rw [if_neg c76] at H
       have c76b0 : decide (x108_2 < (y292.length : Int)) = false := decide_eq_false c76
       clear c76
       replace H := Option.bind_eq_some_iff.mp H
       obtain ⟨t340, A880, H⟩ := H
       replace H : ((leadtrailref04_Same.f k2 t340 t330).bind fun t343 => (some t343)) = some r := H
       have A88 := Aside0.mk A880
       clear A880
       replace H := Option.bind_eq_some_iff.mp H
       obtain ⟨t343, A890, H⟩ := H
       replace H : (some t343) = some r := H
       have A89 := Aside0.mk A890
       clear A890
       obtain rfl := Option.some.inj H
       go_wp2_with (first | ((with_reducible refine gate_callee (f := 59) rfl ?_); refine goesL_ (some 143) rfl rfl Try.func59 (by kernel_rfl) rfl #[.slice Ao42 y295.length co42, .slice Ao44 y299.length co44] rfl (by (try simp only [List.map_toArray, List.map_cons, List.map_nil]); first | done | rfl | (simp only [List.length_drop, List.length_take]; rfl)) ?_; (with_reducible refine (scalars_Union.calls k2 _ _ y295 _ _ y299 t340 _ ?side1 ?side2 ?side3 ?side4 A88.out).mono ?_); (case side1 => repeat (first | exact Kd.C_view HOX9.out Ny295.out | (with_reducible refine Kd.C_alloc ?_ _) | (with_reducible refine Kd.C_drewN ?_ _) | (with_reducible refine Kd.C_drew ?_))); (case side2 => exact HC298.out); (case side3 => repeat (first | exact Kd.C_view HO_31.out Ny299.out | (with_reducible refine Kd.C_alloc ?_ _) | (with_reducible refine Kd.C_drewN ?_ _) | (with_reducible refine Kd.C_drew ?_))); (case side4 => exact HC302.out); rintro e w90 ⟨v341, rfl, ho0, hb⟩; refine ⟨_, rfl, ?_⟩; have n0_ := Aside0.mk (Kd.R_elder' (by (with_reducible repeat (first | apply zA | apply zB | apply zC)); exact HO_31.out) (Kd.R_base ho0) hb); have n1_ := Aside0.mk (Kd.R_elder' (by (with_reducible repeat (first | apply zA | apply zB | apply zC)); exact HO_67.out) (Kd.R_base ho0) hb); have n2_ := Aside0.mk (Kd.R_lower (Kd.R_newB (Kd.R_new' (Kd.R_new' ho0 (Kd.R_lt (by (with_reducible repeat (first | apply zA | apply zB | apply zC)); exact HO_31.out))) (Kd.R_lt (by (with_reducible repeat (first | apply zA | apply zB | apply zC)); exact HO_67.out))) (g := gb276) (o := .cells #[.int .i64 (-7), .int .i64 (-8)] 56 (0, 0)) (by (with_reducible repeat (first | refine blk_drewN ?_ _ | refine blk_drew ?_ | refine blk_alloc ?_ _)); exact BK276.out)) (below_size (by repeat (first | (with_reducible first | exact HB.out | apply zD | apply zE | apply zF | refine below_set ?_ GE276.out) | exact HB.out)))); have n3_ := Aside0.mk (blk_below (g := gb276) (o := .cells #[.int .i64 (-7), .int .i64 (-8)] 56 (0, 0)) (by (with_reducible repeat (first | refine blk_drewN ?_ _ | refine blk_drew ?_ | refine blk_alloc ?_ _)); exact BK276.out) hb); have n4_ := Aside0.mk (below_step (by repeat (first | (with_reducible first | exact HB.out | apply zD | apply zE | apply zF | refine below_set ?_ GE276.out) | exact HB.out)) hb); clear HO_31; clear HO_67; clear BK276; clear HB; have HO_31 := n0_; have HO_67 := n1_; have HO342 := n2_; have BK276 := n3_; have HB := n4_; clear n0_ n1_ n2_ n3_ n4_; (try clear hb); (try clear hb2); (try clear hk); (try clear hi); (try clear ho0); obtain ⟨Ao91, co91, eo91⟩ := Kd.R_slice HO342.out; subst eo91; obtain ⟨Ao92, co92, eo92⟩ := Kd.R_slice HO_67.out; subst eo92) | ((with_reducible refine gate_callee (f := 27) rfl ?_); refine goesL_ (some 145) rfl rfl Try.func27 (by kernel_rfl) rfl #[.slice Ao91 t340.length co91, .slice Ao92 t330.length co92] rfl (by (try simp only [List.map_toArray, List.map_cons, List.map_nil]); first | done | rfl | (simp only [List.length_drop, List.length_take]; rfl)) ?_; (with_reducible refine (leadtrailref04_Same.calls k2 _ _ t340 _ _ t330 t343 _ ?side1 ?side2 ?side3 ?side4 A89.out).mono ?_); (case side1 => repeat (first | exact (Kd.R_reads' HO342.out).2.2 | (with_reducible refine Kd.C_alloc ?_ _) | (with_reducible refine Kd.C_drewN ?_ _) | (with_reducible refine Kd.C_drew ?_))); (case side2 => exact (Kd.R_reads' HO342.out).2.1); (case side3 => repeat (first | exact (Kd.R_reads' HO_67.out).2.2 | (with_reducible refine Kd.C_alloc ?_ _) | (with_reducible refine Kd.C_drewN ?_ _) | (with_reducible refine Kd.C_drew ?_))); (case side4 => exact (Kd.R_reads' HO_67.out).2.1); rintro e w' ⟨rfl, ⟨nd, rfl⟩⟩; refine ⟨_, rfl, ?_⟩))
       go_ret
       exact ⟨by first | rfl | (simp [errW_none, errW_some] <;> rfl) | (simp [*, errW_none, errW_some] <;> rfl), by repeat (first | (with_reducible first | exact HB.out | apply zD | apply zE | apply zF | refine below_set ?_ GE276.out) | exact HB.out)⟩end Go.Proofs.Ytddffjhodiengaa.Q
