/- Words and walks of this claim, of the text Bx17. -/
import Derived.Test.YtkcklnmbeinfkaaKdZq
import Derived.Test.YtkcklnmbeinfkaaKdBx0
import Derived.Test.YtkcklnmbeinfkaaKdBx7
import Derived.Test.YtkcklnmbeinfkaaKdBx8
import Derived.Test.YtkcklnmbeinfkaaKdBx9
import Derived.Test.YtkcklnmbeinfkaaKdBx10
import Derived.Test.YtkcklnmbeinfkaaKdBx12
import Derived.Test.YtkcklnmbeinfkaaKdBx13
import Derived.Test.YtkcklnmbeinfkaaKdBx14
import Derived.Test.YtkcklnmbeinfkaaKdBx15
import Derived.Test.YtkcklnmbeinfkaaKdBx16
namespace Go.Proofs.Ytkcklnmbeinfkaa.B
open Go.RowKit Go.Proofs.YtkcklnmbeinfkaaW.PrintWords Go.Proofs.YtkcklnmbeinfkaaW.PrintLast Go.Proofs.YtkcklnmbeinfkaaW.PrintMore
attribute [local go_sem] max2_int min2_int max_two min_two max_three min_three max_four min_four
set_option linter.unusedVariables false
set_option linter.unusedSimpArgs false
def leadtraillaw09_ShapeAnswers.f (k : Nat) (l0_0 : List (List (S113))) (a0_1 : Int) (l1 : List Int) (a2 : Int) : Option (Bool) := (leadtraillaw09_fixed.f k).bind fun t413 => (if t413 = true then ((leadtrailref08_CopyShape.f k l0_0 a0_1).bind fun bt414 => ((shape_Rank.f k bt414.1 bt414.2 l1).bind fun bt419 => ((leadtrailref09_Rank.f k l0_0 a0_1 l1).bind fun bt421 => ((shape_Unrank.f k bt414.1 bt414.2 a2).bind fun bt423 => ((leadtrailref09_Unrank.f k l0_0 a0_1 a2).bind fun bt427 => ((shape_Valid.f k bt414.1 bt414.2).bind fun t431 => ((leadtrailref08_ValidShape.f k l0_0 a0_1).bind fun t432 => (if (t431 == t432) = true then ((shape_Count.f k bt414.1 bt414.2).bind fun t433 => ((leadtrailref09_Count.f k l0_0 a0_1).bind fun t434 => (if t433 = t434 then (if bt419.1 = bt421.1 then (if (bt419.2 == bt421.2) = true then (if (strOfNums bt423.1).toList = (strOfNums bt427.1).toList then (if (bt423.2 == bt427.2) = true then ((shape_Begins.f k bt414.1 bt414.2 l1).bind fun t435 => ((leadtrailref09_Begins.f k l0_0 a0_1 l1).bind fun t436 => (if (t435 == t436) = true then ((leadtrailref08_SameShape.f k bt414.1 bt414.2 l0_0 a0_1).bind fun t437 => (some t437)) else (none)))) else (none)) else (none)) else (none)) else (none)) else (none)))) else (none))))))))) else (none))
def leadtraillaw09_ShapeAnswers.T8 : Bool × List (List Nat × List Nat) := (true, [([], []), ([0], [0]), ([], []), ([2, 1], [2]), ([1, 3], [1, 3]), ([4, 3], [4]), ([5], [5]), ([6, 5, 5], [5, 6]), ([5], [5]), ([8, 7, 5], [5, 8]), ([7, 9, 5], [5, 7, 9]), ([5, 10], [5, 10]), ([11, 9], [11]), ([12], [12]), ([12], [12]), ([13, 14, 12], [12, 13, 14]), ([12, 15], [12, 15]), ([16, 12], [16]), ([17], [17]), ([17], [17]), ([18, 19, 17], [17, 18, 19]), ([17, 20], [17, 20]), ([21, 17], [21]), ([22], [22]), ([23, 22], [22, 23]), ([22], [22]), ([25, 22], [22, 25]), ([24, 26, 22], [22, 24, 26]), ([22, 27], [22, 27]), ([28, 22], [28]), ([29], [29]), ([29], [29]), ([30, 31, 29], [29, 30, 31]), ([29, 32], [29, 32]), ([33, 29], [33]), ([34], [34]), ([34], [34]), ([35, 36, 34, 34], [34, 35, 36]), ([34], [34]), ([34], [34]), ([38, 39, 37, 34], [34, 38, 39]), ([37, 40, 34], [34, 37, 40]), ([34, 41], [34, 41]), ([42, 40], [42]), ([43], [43]), ([43], [43]), ([44, 45, 43, 43], [43, 44, 45]), ([43, 46], [43, 46]), ([47, 46, 0, 1, 2, 3, 4, 5, 6, 7, 8, 9, 10, 11, 12, 13, 14, 15, 16, 17, 18, 19, 20, 21, 22, 23, 24, 25, 26, 27, 28, 29, 30, 31, 32, 33, 34, 35, 36, 37, 38, 39, 40, 41, 42, 43, 44, 45, 46, 47], [47])])
def leadtraillaw09_ShapeAnswers.B8 : List Nat := [0, 1, 0, 7, 15, 31, 63, 127, 63, 511, 1023, 2047, 4095, 8191, 8191, 32767, 65535, 131071, 262143, 262143, 1048575, 2097151, 4194303, 8388607, 16777215, 8388607, 41943039, 134217727, 268435455, 536870911, 1073741823, 1073741823, 4294967295, 8589934591, 17179869183, 34359738367, 34359738367, 137438953471, 34359738367, 34359738367, 1099511627775, 2199023255551, 4398046511103, 8796093022207, 17592186044415, 17592186044415, 70368744177663, 140737488355327, 281474976710655]
theorem leadtraillaw09_ShapeAnswers.tab8 : rtab .any (opsOf Try.f8 8) = leadtraillaw09_ShapeAnswers.T8 := by kernel_rfl
theorem leadtraillaw09_ShapeAnswers.bits8 : waitsOk leadtraillaw09_ShapeAnswers.T8.2 leadtraillaw09_ShapeAnswers.B8 = true := by kernel_rfl
set_option maxHeartbeats 8000000 in
set_option maxRecDepth 100000 in
theorem leadtraillaw09_ShapeAnswers.calls (k : Nat) (A0_0 : Option Addr) (c0_0 : Nat) (l0_0 : List (List (S113))) (a0_1 : Int) (A1 : Option Addr) (c1 : Nat) (l1 : List Int) (a2 : Int) (r : Bool) (w : World) (hr0_0 : Kd.C (Kd.slice 113 k113) w A0_0 l0_0.length l0_0) (hc0_0 : l0_0.length ≤ c0_0) (hr1 : Kd.C (Kd.int .u8) w A1 l1.length l1) (hc1 : l1.length ≤ c1) (h : leadtraillaw09_ShapeAnswers.f k l0_0 a0_1 l1 a2 = some r) :
  Calls Try.prog 8 #[.agg #[.slice A0_0 l0_0.length c0_0, .int .i64 a0_1], .slice A1 l1.length c1, .int .i64 a2] w fun e w' => e = .returned (.bool r) ∧ Below w.heap.size w w' := by
 have hu50 := Try.underlying50
 have HR0_0 := Aside0.mk hr0_0
 have HC0_0 := Aside0.mk hc0_0
 clear hr0_0 hc0_0
 have HR1 := Aside0.mk hr1
 have HC1 := Aside0.mk hc1
 clear hr1 hc1
 have HB := Aside0.mk (Below.refl w.heap.size w)
 have H : ((leadtraillaw09_fixed.f k).bind fun t413 => (if t413 = true then ((leadtrailref08_CopyShape.f k l0_0 a0_1).bind fun bt414 => ((shape_Rank.f k bt414.1 bt414.2 l1).bind fun bt419 => ((leadtrailref09_Rank.f k l0_0 a0_1 l1).bind fun bt421 => ((shape_Unrank.f k bt414.1 bt414.2 a2).bind fun bt423 => ((leadtrailref09_Unrank.f k l0_0 a0_1 a2).bind fun bt427 => ((shape_Valid.f k bt414.1 bt414.2).bind fun t431 => ((leadtrailref08_ValidShape.f k l0_0 a0_1).bind fun t432 => (if (t431 == t432) = true then ((shape_Count.f k bt414.1 bt414.2).bind fun t433 => ((leadtrailref09_Count.f k l0_0 a0_1).bind fun t434 => (if t433 = t434 then (if bt419.1 = bt421.1 then (if (bt419.2 == bt421.2) = true then (if (strOfNums bt423.1).toList = (strOfNums bt427.1).toList then (if (bt423.2 == bt427.2) = true then ((shape_Begins.f k bt414.1 bt414.2 l1).bind fun t435 => ((leadtrailref09_Begins.f k l0_0 a0_1 l1).bind fun t436 => (if (t435 == t436) = true then ((leadtrailref08_SameShape.f k bt414.1 bt414.2 l0_0 a0_1).bind fun t437 => (some t437)) else (none)))) else (none)) else (none)) else (none)) else (none)) else (none)))) else (none))))))))) else (none))) = some r := h
 clear h
 replace H := Option.bind_eq_some_iff.mp H
 obtain ⟨t413, A40, H⟩ := H
 replace H : (if t413 = true then ((leadtrailref08_CopyShape.f k l0_0 a0_1).bind fun bt414 => ((shape_Rank.f k bt414.1 bt414.2 l1).bind fun bt419 => ((leadtrailref09_Rank.f k l0_0 a0_1 l1).bind fun bt421 => ((shape_Unrank.f k bt414.1 bt414.2 a2).bind fun bt423 => ((leadtrailref09_Unrank.f k l0_0 a0_1 a2).bind fun bt427 => ((shape_Valid.f k bt414.1 bt414.2).bind fun t431 => ((leadtrailref08_ValidShape.f k l0_0 a0_1).bind fun t432 => (if (t431 == t432) = true then ((shape_Count.f k bt414.1 bt414.2).bind fun t433 => ((leadtrailref09_Count.f k l0_0 a0_1).bind fun t434 => (if t433 = t434 then (if bt419.1 = bt421.1 then (if (bt419.2 == bt421.2) = true then (if (strOfNums bt423.1).toList = (strOfNums bt427.1).toList then (if (bt423.2 == bt427.2) = true then ((shape_Begins.f k bt414.1 bt414.2 l1).bind fun t435 => ((leadtrailref09_Begins.f k l0_0 a0_1 l1).bind fun t436 => (if (t435 == t436) = true then ((leadtrailref08_SameShape.f k bt414.1 bt414.2 l0_0 a0_1).bind fun t437 => (some t437)) else (none)))) else (none)) else (none)) else (none)) else (none)) else (none)))) else (none))))))))) else (none)) = some r := H
 have A4 := Aside0.mk A40
 clear A40
 by_cases c5 : t413 = true
 ·subst c5
  have H1 : ((leadtrailref08_CopyShape.f k l0_0 a0_1).bind fun bt414 => ((shape_Rank.f k bt414.1 bt414.2 l1).bind fun bt419 => ((leadtrailref09_Rank.f k l0_0 a0_1 l1).bind fun bt421 => ((shape_Unrank.f k bt414.1 bt414.2 a2).bind fun bt423 => ((leadtrailref09_Unrank.f k l0_0 a0_1 a2).bind fun bt427 => ((shape_Valid.f k bt414.1 bt414.2).bind fun t431 => ((leadtrailref08_ValidShape.f k l0_0 a0_1).bind fun t432 => (if (t431 == t432) = true then ((shape_Count.f k bt414.1 bt414.2).bind fun t433 => ((leadtrailref09_Count.f k l0_0 a0_1).bind fun t434 => (if t433 = t434 then (if bt419.1 = bt421.1 then (if (bt419.2 == bt421.2) = true then (if (strOfNums bt423.1).toList = (strOfNums bt427.1).toList then (if (bt423.2 == bt427.2) = true then ((shape_Begins.f k bt414.1 bt414.2 l1).bind fun t435 => ((leadtrailref09_Begins.f k l0_0 a0_1 l1).bind fun t436 => (if (t435 == t436) = true then ((leadtrailref08_SameShape.f k bt414.1 bt414.2 l0_0 a0_1).bind fun t437 => (some t437)) else (none)))) else (none)) else (none)) else (none)) else (none)) else (none)))) else (none))))))))) = some r := by rw [if_pos rfl] at H; exact H
  clear H
  have H := H1
  clear H1
  replace H := Option.bind_eq_some_iff.mp H
  obtain ⟨⟨t414, t417⟩, A60, H⟩ := H
  replace H : ((shape_Rank.f k t414 t417 l1).bind fun bt419 => ((leadtrailref09_Rank.f k l0_0 a0_1 l1).bind fun bt421 => ((shape_Unrank.f k t414 t417 a2).bind fun bt423 => ((leadtrailref09_Unrank.f k l0_0 a0_1 a2).bind fun bt427 => ((shape_Valid.f k t414 t417).bind fun t431 => ((leadtrailref08_ValidShape.f k l0_0 a0_1).bind fun t432 => (if (t431 == t432) = true then ((shape_Count.f k t414 t417).bind fun t433 => ((leadtrailref09_Count.f k l0_0 a0_1).bind fun t434 => (if t433 = t434 then (if bt419.1 = bt421.1 then (if (bt419.2 == bt421.2) = true then (if (strOfNums bt423.1).toList = (strOfNums bt427.1).toList then (if (bt423.2 == bt427.2) = true then ((shape_Begins.f k t414 t417 l1).bind fun t435 => ((leadtrailref09_Begins.f k l0_0 a0_1 l1).bind fun t436 => (if (t435 == t436) = true then ((leadtrailref08_SameShape.f k t414 t417 l0_0 a0_1).bind fun t437 => (some t437)) else (none)))) else (none)) else (none)) else (none)) else (none)) else (none)))) else (none)))))))) = some r := H
  have A6 := Aside0.mk A60
  clear A60
  replace H := Option.bind_eq_some_iff.mp H
  obtain ⟨⟨t419, t420⟩, A70, H⟩ := H
  replace H : ((leadtrailref09_Rank.f k l0_0 a0_1 l1).bind fun bt421 => ((shape_Unrank.f k t414 t417 a2).bind fun bt423 => ((leadtrailref09_Unrank.f k l0_0 a0_1 a2).bind fun bt427 => ((shape_Valid.f k t414 t417).bind fun t431 => ((leadtrailref08_ValidShape.f k l0_0 a0_1).bind fun t432 => (if (t431 == t432) = true then ((shape_Count.f k t414 t417).bind fun t433 => ((leadtrailref09_Count.f k l0_0 a0_1).bind fun t434 => (if t433 = t434 then (if t419 = bt421.1 then (if (t420 == bt421.2) = true then (if (strOfNums bt423.1).toList = (strOfNums bt427.1).toList then (if (bt423.2 == bt427.2) = true then ((shape_Begins.f k t414 t417 l1).bind fun t435 => ((leadtrailref09_Begins.f k l0_0 a0_1 l1).bind fun t436 => (if (t435 == t436) = true then ((leadtrailref08_SameShape.f k t414 t417 l0_0 a0_1).bind fun t437 => (some t437)) else (none)))) else (none)) else (none)) else (none)) else (none)) else (none)))) else (none))))))) = some r := H
  have A7 := Aside0.mk A70
  clear A70
  replace H := Option.bind_eq_some_iff.mp H
  obtain ⟨⟨t421, t422⟩, A80, H⟩ := H
  replace H : ((shape_Unrank.f k t414 t417 a2).bind fun bt423 => ((leadtrailref09_Unrank.f k l0_0 a0_1 a2).bind fun bt427 => ((shape_Valid.f k t414 t417).bind fun t431 => ((leadtrailref08_ValidShape.f k l0_0 a0_1).bind fun t432 => (if (t431 == t432) = true then ((shape_Count.f k t414 t417).bind fun t433 => ((leadtrailref09_Count.f k l0_0 a0_1).bind fun t434 => (if t433 = t434 then (if t419 = t421 then (if (t420 == t422) = true then (if (strOfNums bt423.1).toList = (strOfNums bt427.1).toList then (if (bt423.2 == bt427.2) = true then ((shape_Begins.f k t414 t417 l1).bind fun t435 => ((leadtrailref09_Begins.f k l0_0 a0_1 l1).bind fun t436 => (if (t435 == t436) = true then ((leadtrailref08_SameShape.f k t414 t417 l0_0 a0_1).bind fun t437 => (some t437)) else (none)))) else (none)) else (none)) else (none)) else (none)) else (none)))) else (none)))))) = some r := H
  have A8 := Aside0.mk A80
  clear A80
  replace H := Option.bind_eq_some_iff.mp H
  obtain ⟨⟨t423, t426⟩, A90, H⟩ := H
  replace H : ((leadtrailref09_Unrank.f k l0_0 a0_1 a2).bind fun bt427 => ((shape_Valid.f k t414 t417).bind fun t431 => ((leadtrailref08_ValidShape.f k l0_0 a0_1).bind fun t432 => (if (t431 == t432) = true then ((shape_Count.f k t414 t417).bind fun t433 => ((leadtrailref09_Count.f k l0_0 a0_1).bind fun t434 => (if t433 = t434 then (if t419 = t421 then (if (t420 == t422) = true then (if (strOfNums t423).toList = (strOfNums bt427.1).toList then (if (t426 == bt427.2) = true then ((shape_Begins.f k t414 t417 l1).bind fun t435 => ((leadtrailref09_Begins.f k l0_0 a0_1 l1).bind fun t436 => (if (t435 == t436) = true then ((leadtrailref08_SameShape.f k t414 t417 l0_0 a0_1).bind fun t437 => (some t437)) else (none)))) else (none)) else (none)) else (none)) else (none)) else (none)))) else (none))))) = some r := H
  have A9 := Aside0.mk A90
  clear A90
  replace H := Option.bind_eq_some_iff.mp H
  obtain ⟨⟨t427, t430⟩, A100, H⟩ := H
  replace H : ((shape_Valid.f k t414 t417).bind fun t431 => ((leadtrailref08_ValidShape.f k l0_0 a0_1).bind fun t432 => (if (t431 == t432) = true then ((shape_Count.f k t414 t417).bind fun t433 => ((leadtrailref09_Count.f k l0_0 a0_1).bind fun t434 => (if t433 = t434 then (if t419 = t421 then (if (t420 == t422) = true then (if (strOfNums t423).toList = (strOfNums t427).toList then (if (t426 == t430) = true then ((shape_Begins.f k t414 t417 l1).bind fun t435 => ((leadtrailref09_Begins.f k l0_0 a0_1 l1).bind fun t436 => (if (t435 == t436) = true then ((leadtrailref08_SameShape.f k t414 t417 l0_0 a0_1).bind fun t437 => (some t437)) else (none)))) else (none)) else (none)) else (none)) else (none)) else (none)))) else (none)))) = some r := H
  have A10 := Aside0.mk A100
  clear A100
  replace H := Option.bind_eq_some_iff.mp H
  obtain ⟨t431, A110, H⟩ := H
  replace H : ((leadtrailref08_ValidShape.f k l0_0 a0_1).bind fun t432 => (if (t431 == t432) = true then ((shape_Count.f k t414 t417).bind fun t433 => ((leadtrailref09_Count.f k l0_0 a0_1).bind fun t434 => (if t433 = t434 then (if t419 = t421 then (if (t420 == t422) = true then (if (strOfNums t423).toList = (strOfNums t427).toList then (if (t426 == t430) = true then ((shape_Begins.f k t414 t417 l1).bind fun t435 => ((leadtrailref09_Begins.f k l0_0 a0_1 l1).bind fun t436 => (if (t435 == t436) = true then ((leadtrailref08_SameShape.f k t414 t417 l0_0 a0_1).bind fun t437 => (some t437)) else (none)))) else (none)) else (none)) else (none)) else (none)) else (none)))) else (none))) = some r := H
  have A11 := Aside0.mk A110
  clear A110
  replace H := Option.bind_eq_some_iff.mp H
  obtain ⟨t432, A120, H⟩ := H
  replace H : (if (t431 == t432) = true then ((shape_Count.f k t414 t417).bind fun t433 => ((leadtrailref09_Count.f k l0_0 a0_1).bind fun t434 => (if t433 = t434 then (if t419 = t421 then (if (t420 == t422) = true then (if (strOfNums t423).toList = (strOfNums t427).toList then (if (t426 == t430) = true then ((shape_Begins.f k t414 t417 l1).bind fun t435 => ((leadtrailref09_Begins.f k l0_0 a0_1 l1).bind fun t436 => (if (t435 == t436) = true then ((leadtrailref08_SameShape.f k t414 t417 l0_0 a0_1).bind fun t437 => (some t437)) else (none)))) else (none)) else (none)) else (none)) else (none)) else (none)))) else (none)) = some r := H
  have A12 := Aside0.mk A120
  clear A120
  by_cases c13 : (t431 == t432) = true
  ·rw [if_pos c13] at H
   have c13b0 : (t431 == t432) = true := c13
   (try (have c13b1 : decide (t431 = t432) = true := by simpa using c13))
   (try (have c13b2 : (t431 == t432) = true := by simpa using c13))
   clear c13
   replace H := Option.bind_eq_some_iff.mp H
   obtain ⟨t433, A140, H⟩ := H
   replace H : ((leadtrailref09_Count.f k l0_0 a0_1).bind fun t434 => (if t433 = t434 then (if t419 = t421 then (if (t420 == t422) = true then (if (strOfNums t423).toList = (strOfNums t427).toList then (if (t426 == t430) = true then ((shape_Begins.f k t414 t417 l1).bind fun t435 => ((leadtrailref09_Begins.f k l0_0 a0_1 l1).bind fun t436 => (if (t435 == t436) = true then ((leadtrailref08_SameShape.f k t414 t417 l0_0 a0_1).bind fun t437 => (some t437)) else (none)))) else (none)) else (none)) else (none)) else (none)) else (none))) = some r := H
   have A14 := Aside0.mk A140
   clear A140
   replace H := Option.bind_eq_some_iff.mp H
   obtain ⟨t434, A150, H⟩ := H
   replace H : (if t433 = t434 then (if t419 = t421 then (if (t420 == t422) = true then (if (strOfNums t423).toList = (strOfNums t427).toList then (if (t426 == t430) = true then ((shape_Begins.f k t414 t417 l1).bind fun t435 => ((leadtrailref09_Begins.f k l0_0 a0_1 l1).bind fun t436 => (if (t435 == t436) = true then ((leadtrailref08_SameShape.f k t414 t417 l0_0 a0_1).bind fun t437 => (some t437)) else (none)))) else (none)) else (none)) else (none)) else (none)) else (none)) = some r := H
   have A15 := Aside0.mk A150
   clear A150
   by_cases c16 : t433 = t434
   ·rw [if_pos c16] at H
    have c16b0 : (t433 == t434) = true := beq_iff_eq.mpr c16
    have c16b1 : (t433 != t434) = false := bne_eq_false_iff_eq.mpr c16
    clear c16
    by_cases c17 : t419 = t421
    ·rw [if_pos c17] at H
     have c17b0 : (t419 == t421) = true := beq_iff_eq.mpr c17
     have c17b1 : (t419 != t421) = false := bne_eq_false_iff_eq.mpr c17
     clear c17
     by_cases c18 : (t420 == t422) = true
     ·rw [if_pos c18] at H
      have c18b0 : (t420 == t422) = true := c18
      (try (have c18b1 : decide (t420 = t422) = true := by simpa using c18))
      (try (have c18b2 : (t420 == t422) = true := by simpa using c18))
      clear c18
      by_cases c19 : (strOfNums t423).toList = (strOfNums t427).toList
      ·rw [if_pos c19] at H
       have c19b0 : ((strOfNums t423).toList == (strOfNums t427).toList) = true := beq_iff_eq.mpr c19
       have c19b1 : ((strOfNums t423).toList != (strOfNums t427).toList) = false := bne_eq_false_iff_eq.mpr c19
       clear c19
       by_cases c20 : (t426 == t430) = true
       ·rw [if_pos c20] at H
        have c20b0 : (t426 == t430) = true := c20
        (try (have c20b1 : decide (t426 = t430) = true := by simpa using c20))
        (try (have c20b2 : (t426 == t430) = true := by simpa using c20))
        clear c20
        replace H := Option.bind_eq_some_iff.mp H
        obtain ⟨t435, A210, H⟩ := H
        replace H : ((leadtrailref09_Begins.f k l0_0 a0_1 l1).bind fun t436 => (if (t435 == t436) = true then ((leadtrailref08_SameShape.f k t414 t417 l0_0 a0_1).bind fun t437 => (some t437)) else (none))) = some r := H
        have A21 := Aside0.mk A210
        clear A210
        replace H := Option.bind_eq_some_iff.mp H
        obtain ⟨t436, A220, H⟩ := H
        replace H : (if (t435 == t436) = true then ((leadtrailref08_SameShape.f k t414 t417 l0_0 a0_1).bind fun t437 => (some t437)) else (none)) = some r := H
        have A22 := Aside0.mk A220
        clear A220
        by_cases c23 : (t435 == t436) = true
        ·rw [if_pos c23] at H
         have c23b0 : (t435 == t436) = true := c23
         (try (have c23b1 : decide (t435 = t436) = true := by simpa using c23))
         (try (have c23b2 : (t435 == t436) = true := by simpa using c23))
         clear c23
         replace H := Option.bind_eq_some_iff.mp H
         obtain ⟨t437, A240, H⟩ := H
         replace H : (some t437) = some r := H
         have A24 := Aside0.mk A240
         clear A240
         obtain rfl := Option.some.inj H
         go_enter Try.func8, Try.ntmps8
         try go_wp2_with (first | ((with_reducible refine gate_dst (N := 3) rfl ?_); refine box_event ?hg (N := 3) ?hd (cs := #[.slice A0_0 l0_0.length c0_0, .int .i64 a0_1]) (t := 50) ?hr ?_; (case hd => rfl); (case hg => rfl); (case hr => first | (go_simp; done) | (go_simp; rfl)); intro gb412 hg w25 hbox hb; have n0_ := Aside0.mk (below_step (by repeat (first | (with_reducible first | exact HB.out | apply zD | apply zE | apply zF) | exact HB.out)) hb); have n1_ := Aside0.mk (hbox); have n2_ := Aside0.mk ((by rw [hg]; exact (below_size (by repeat (first | (with_reducible first | exact HB.out | apply zD | apply zE | apply zF) | exact HB.out))) : w.heap.size ≤ gb412)); have n3_ := Aside0.mk ((by rw [hg]; exact (below_size (by repeat (first | (with_reducible first | exact HB.out | apply zD | apply zE | apply zF) | exact HB.out))) : w.heap.size ≤ gb412)); clear HB; have HB := n0_; have BK412 := n1_; have GW412 := n2_; have GE412 := n3_; clear n0_ n1_ n2_ n3_; clear hb hbox hg) | ((with_reducible refine gate_callee (f := 32) rfl ?_); refine goesL_ (some 16) rfl rfl Try.func32 (by kernel_rfl) rfl #[] rfl zM ?_; (with_reducible refine (leadtraillaw09_fixed.calls k  true _ A4.out).mono ?_); rintro e w26 ⟨rfl, hb⟩; refine ⟨_, rfl, ?_⟩; have n0_ := Aside0.mk (blk_below (g := gb412) (o := .cells #[.slice A0_0 l0_0.length c0_0, .int .i64 a0_1] 50 (0, 0)) (by (with_reducible repeat (first | refine blk_drewN ?_ _ | refine blk_drew ?_ | refine blk_alloc ?_ _)); exact BK412.out) hb); have n1_ := Aside0.mk (below_step (by repeat (first | (with_reducible first | exact HB.out | apply zD | apply zE | apply zF | refine below_set ?_ GE412.out) | exact HB.out)) hb); clear BK412; clear HB; have BK412 := n0_; have HB := n1_; clear n0_ n1_; (try clear hb); (try clear hb2); (try clear hk); (try clear hi); have hcz27_0 : w26.cell? ⟨gb412, 0, none⟩ = some (.slice A0_0 l0_0.length c0_0) := (blk_cell BK412.out 0).trans rfl; have hcz27_1 : w26.cell? ⟨gb412, 1, none⟩ = some (.int .i64 a0_1) := (blk_cell BK412.out 1).trans rfl; have hfz27_0 := blk_frozen BK412.out 0; have hfz27_1 := blk_frozen BK412.out 1) | ((with_reducible refine gate_callee (f := 48) rfl ?_); refine goesL_ (some 19) rfl rfl Try.func48 (by kernel_rfl) rfl #[.agg #[.slice A0_0 l0_0.length c0_0, .int .i64 a0_1]] rfl zM ?_; (with_reducible refine (leadtrailref08_CopyShape.calls k _ _ l0_0 a0_1 t414 t417 _ ?side1 ?side2 A6.out).mono ?_); (case side1 => repeat (first | exact (Kd.C_below HR0_0.out HB.out) | (with_reducible refine Kd.C_alloc ?_ _) | (with_reducible refine Kd.C_drewN ?_ _) | (with_reducible refine Kd.C_drew ?_))); (case side2 => exact HC0_0.out); rintro e w28 ⟨v415, rfl, ho0, hb⟩; refine ⟨_, rfl, ?_⟩; have n0_ := Aside0.mk (Kd.S_lower ho0 (below_size (by repeat (first | (with_reducible first | exact HB.out | apply zD | apply zE | apply zF | refine below_set ?_ GE412.out) | exact HB.out)))); have n1_ := Aside0.mk (blk_below (g := gb412) (o := .cells #[.slice A0_0 l0_0.length c0_0, .int .i64 a0_1] 50 (0, 0)) (by (with_reducible repeat (first | refine blk_drewN ?_ _ | refine blk_drew ?_ | refine blk_alloc ?_ _)); exact BK412.out) hb); have n2_ := Aside0.mk (below_step (by repeat (first | (with_reducible first | exact HB.out | apply zD | apply zE | apply zF | refine below_set ?_ GE412.out) | exact HB.out)) hb); clear BK412; clear HB; have HO416 := n0_; have BK412 := n1_; have HB := n2_; clear n0_ n1_ n2_; (try clear hb); (try clear hb2); (try clear hk); (try clear hi); (try clear ho0)) | ((with_reducible refine gate_dst (N := 7) rfl ?_); refine box_event ?hg (N := 7) ?hd (cs := #[.slice none 0 0, .int .i64 0]) (t := 50) ?hr ?_; (case hd => rfl); (case hg => rfl); (case hr => first | (go_simp; done) | (go_simp; rfl)); intro gb418 hg w29 hbox hb; have n0_ := Aside0.mk (Kd.S_below (by (with_reducible repeat (first | apply Kd.S_alloc | apply Kd.S_drewN | apply Kd.S_drew)); exact HO416.out) hb); have n1_ := Aside0.mk (blk_below (g := gb412) (o := .cells #[.slice A0_0 l0_0.length c0_0, .int .i64 a0_1] 50 (0, 0)) (by (with_reducible repeat (first | refine blk_drewN ?_ _ | refine blk_drew ?_ | refine blk_alloc ?_ _)); exact BK412.out) hb); have n2_ := Aside0.mk (below_step (by repeat (first | (with_reducible first | exact HB.out | apply zD | apply zE | apply zF | refine below_set ?_ GE412.out) | exact HB.out)) hb); have n3_ := Aside0.mk (hbox); have n4_ := Aside0.mk ((by rw [hg]; exact (below_size (by repeat (first | (with_reducible first | exact HB.out | apply zD | apply zE | apply zF | refine below_set ?_ GE412.out) | exact HB.out))) : w.heap.size ≤ gb418)); have n5_ := Aside0.mk ((by rw [hg]; exact (below_size (by repeat (first | (with_reducible first | exact HB.out | apply zD | apply zE | apply zF | refine below_set ?_ GE412.out) | exact HB.out))) : w.heap.size ≤ gb418)); have n6_ := Aside0.mk ((by rw [hg]; exact Nat.ne_of_lt (blk_lt (g := gb412) (o := .cells #[.slice A0_0 l0_0.length c0_0, .int .i64 a0_1] 50 (0, 0)) (by (with_reducible repeat (first | refine blk_drewN ?_ _ | refine blk_drew ?_ | refine blk_alloc ?_ _)); exact BK412.out)) : gb412 ≠ gb418)); have n7_ := Aside0.mk ((by rw [hg]; exact Nat.ne_of_gt (blk_lt (g := gb412) (o := .cells #[.slice A0_0 l0_0.length c0_0, .int .i64 a0_1] 50 (0, 0)) (by (with_reducible repeat (first | refine blk_drewN ?_ _ | refine blk_drew ?_ | refine blk_alloc ?_ _)); exact BK412.out)) : gb418 ≠ gb412)); clear HO416; clear BK412; clear HB; have HO416 := n0_; have BK412 := n1_; have HB := n2_; have BK418 := n3_; have GW418 := n4_; have GE418 := n5_; have NB412_418 := n6_; have NB418_412 := n7_; clear n0_ n1_ n2_ n3_ n4_ n5_ n6_ n7_; clear hb hbox hg; obtain ⟨Ao30, co30, eo30⟩ := Kd.S_slice HO416.out; subst eo30; have hnb31 := NB418_412.out; have hnc31 := NB412_418.out; have hcz32_0 : w29.cell? ⟨gb418, 0, none⟩ = some (.slice none 0 0) := (blk_cell BK418.out 0).trans rfl; have hcz32_1 : w29.cell? ⟨gb418, 1, none⟩ = some (.int .i64 0) := (blk_cell BK418.out 1).trans rfl; have hfz32_0 := blk_frozen BK418.out 0; have hfz32_1 := blk_frozen BK418.out 1) | ((with_reducible refine gate_callee (f := 35) rfl ?_); refine goesL_ (some 23) rfl rfl Try.func35 (by kernel_rfl) rfl #[.agg #[.slice Ao30 t414.length co30, .int .i64 t417], .slice A1 l1.length c1] rfl zM ?_; (with_reducible refine (shape_Rank.calls k _ _ t414 t417 _ _ l1 t419 t420 _ ?side1 ?side2 ?side3 ?side4 A7.out).mono ?_); (case side1 => refine (Kd.S_reads' (e := 34) (base := w.heap.size) (ok := fun k_ => True) (n := t414.length) (c := co30) ?_).2.2; exact (by (with_reducible repeat (first | apply Kd.S_alloc | apply Kd.S_drewN | apply Kd.S_drew)); exact (Kd.S_mono (Kd.S_far (p := ⟨gb418, 1, none⟩) (Kd.S_far (p := ⟨gb418, 0, none⟩) (Kd.S_types HO416.out BK418.out (by decide)) (fun _ hk => hk.2) (.slice Ao30 t414.length co30)) (fun _ hk => hk.2) (.int .i64 t417)) (fun _ h_ => h_.1)))); (case side2 => exact (Kd.S_reads' HO416.out).2.1); (case side3 => exact Kd.C_below HR1.out (by repeat (first | (with_reducible first | exact HB.out | apply zD | apply zE | apply zF | refine below_set ?_ GE412.out | refine below_set ?_ GE418.out) | exact HB.out))); (case side4 => exact HC1.out); rintro e w33 ⟨rfl, hb⟩; refine ⟨_, rfl, ?_⟩; have n0_ := Aside0.mk (Kd.S_below (by (with_reducible repeat (first | apply Kd.S_alloc | apply Kd.S_drewN | apply Kd.S_drew)); exact (Kd.S_mono (Kd.S_far (p := ⟨gb418, 1, none⟩) (Kd.S_far (p := ⟨gb418, 0, none⟩) (Kd.S_types HO416.out BK418.out (by decide)) (fun _ hk => hk.2) (.slice Ao30 t414.length co30)) (fun _ hk => hk.2) (.int .i64 t417)) (fun _ h_ => h_.1))) hb); have n1_ := Aside0.mk (blk_below (g := gb412) (o := .cells #[.slice A0_0 l0_0.length c0_0, .int .i64 a0_1] 50 (0, 0)) (by (with_reducible repeat (first | refine blk_drewN ?_ _ | refine blk_drew ?_ | refine blk_alloc ?_ _)); refine blk_far ?_ NB412_418.out _; (with_reducible repeat (first | refine blk_drewN ?_ _ | refine blk_drew ?_ | refine blk_alloc ?_ _)); refine blk_far ?_ NB412_418.out _; (with_reducible repeat (first | refine blk_drewN ?_ _ | refine blk_drew ?_ | refine blk_alloc ?_ _)); exact BK412.out) hb); have n2_ := Aside0.mk (blk_below (g := gb418) (o := .cells #[.slice Ao30 t414.length co30, .int .i64 t417] 50 (0, 0)) (by (with_reducible repeat (first | refine blk_drewN ?_ _ | refine blk_drew ?_ | refine blk_alloc ?_ _)); refine blk_put (cs := #[.slice Ao30 t414.length co30, .int .i64 0]) ?_ 1 _ rfl; (with_reducible repeat (first | refine blk_drewN ?_ _ | refine blk_drew ?_ | refine blk_alloc ?_ _)); refine blk_put (cs := #[.slice none 0 0, .int .i64 0]) ?_ 0 _ rfl; (with_reducible repeat (first | refine blk_drewN ?_ _ | refine blk_drew ?_ | refine blk_alloc ?_ _)); exact BK418.out) hb); have n3_ := Aside0.mk (below_step (by repeat (first | (with_reducible first | exact HB.out | apply zD | apply zE | apply zF | refine below_set ?_ GE412.out | refine below_set ?_ GE418.out) | exact HB.out)) hb); clear HO416; clear BK412; clear BK418; clear HB; have HO416 := n0_; have BK412 := n1_; have BK418 := n2_; have HB := n3_; clear n0_ n1_ n2_ n3_; (try clear hb); (try clear hb2); (try clear hk); (try clear hi); have hcz34_0 : w33.cell? ⟨gb412, 0, none⟩ = some (.slice A0_0 l0_0.length c0_0) := (blk_cell BK412.out 0).trans rfl; have hcz34_1 : w33.cell? ⟨gb412, 1, none⟩ = some (.int .i64 a0_1) := (blk_cell BK412.out 1).trans rfl; have hfz34_0 := blk_frozen BK412.out 0; have hfz34_1 := blk_frozen BK412.out 1) | ((with_reducible refine gate_callee (f := 49) rfl ?_); refine goesL_ (some 29) rfl rfl Try.func49 (by kernel_rfl) rfl #[.agg #[.slice A0_0 l0_0.length c0_0, .int .i64 a0_1], .slice A1 l1.length c1] rfl zM ?_; (with_reducible refine (leadtrailref09_Rank.calls k _ _ l0_0 a0_1 _ _ l1 t421 t422 _ ?side1 ?side2 ?side3 ?side4 A8.out).mono ?_); (case side1 => repeat (first | exact (Kd.C_below HR0_0.out HB.out) | (with_reducible refine Kd.C_alloc ?_ _) | (with_reducible refine Kd.C_drewN ?_ _) | (with_reducible refine Kd.C_drew ?_))); (case side2 => exact HC0_0.out); (case side3 => repeat (first | exact (Kd.C_below HR1.out HB.out) | (with_reducible refine Kd.C_alloc ?_ _) | (with_reducible refine Kd.C_drewN ?_ _) | (with_reducible refine Kd.C_drew ?_))); (case side4 => exact HC1.out); rintro e w35 ⟨rfl, hb⟩; refine ⟨_, rfl, ?_⟩; have n0_ := Aside0.mk (Kd.S_below (by (with_reducible repeat (first | apply Kd.S_alloc | apply Kd.S_drewN | apply Kd.S_drew)); exact HO416.out) hb); have n1_ := Aside0.mk (blk_below (g := gb412) (o := .cells #[.slice A0_0 l0_0.length c0_0, .int .i64 a0_1] 50 (0, 0)) (by (with_reducible repeat (first | refine blk_drewN ?_ _ | refine blk_drew ?_ | refine blk_alloc ?_ _)); exact BK412.out) hb); have n2_ := Aside0.mk (blk_below (g := gb418) (o := .cells #[.slice Ao30 t414.length co30, .int .i64 t417] 50 (0, 0)) (by (with_reducible repeat (first | refine blk_drewN ?_ _ | refine blk_drew ?_ | refine blk_alloc ?_ _)); exact BK418.out) hb); have n3_ := Aside0.mk (below_step (by repeat (first | (with_reducible first | exact HB.out | apply zD | apply zE | apply zF | refine below_set ?_ GE412.out | refine below_set ?_ GE418.out) | exact HB.out)) hb); clear HO416; clear BK412; clear BK418; clear HB; have HO416 := n0_; have BK412 := n1_; have BK418 := n2_; have HB := n3_; clear n0_ n1_ n2_ n3_; (try clear hb); (try clear hb2); (try clear hk); (try clear hi); have hcz36_0 : w35.cell? ⟨gb418, 0, none⟩ = some (.slice Ao30 t414.length co30) := (blk_cell BK418.out 0).trans rfl; have hcz36_1 : w35.cell? ⟨gb418, 1, none⟩ = some (.int .i64 t417) := (blk_cell BK418.out 1).trans rfl; have hfz36_0 := blk_frozen BK418.out 0; have hfz36_1 := blk_frozen BK418.out 1) | ((with_reducible refine gate_callee (f := 34) rfl ?_); refine goesL_ (some 35) rfl rfl Try.func34 (by kernel_rfl) rfl #[.agg #[.slice Ao30 t414.length co30, .int .i64 t417], .int .i64 a2] rfl zM ?_; (with_reducible refine (shape_Unrank.calls k _ _ t414 t417 a2 t423 t426 _ ?side1 ?side2 A9.out).mono ?_); (case side1 => repeat (first | exact (Kd.S_reads' HO416.out).2.2 | (with_reducible refine Kd.C_alloc ?_ _) | (with_reducible refine Kd.C_drewN ?_ _) | (with_reducible refine Kd.C_drew ?_))); (case side2 => exact (Kd.S_reads' HO416.out).2.1); rintro e w37 ⟨v424, rfl, ho0, hb⟩; refine ⟨_, rfl, ?_⟩; have n0_ := Aside0.mk (Kd.S_below (by (with_reducible repeat (first | apply Kd.S_alloc | apply Kd.S_drewN | apply Kd.S_drew)); exact HO416.out) hb); have n1_ := Aside0.mk (Kd.R_lower ho0 (below_size (by repeat (first | (with_reducible first | exact HB.out | apply zD | apply zE | apply zF | refine below_set ?_ GE412.out | refine below_set ?_ GE418.out) | exact HB.out)))); have n2_ := Aside0.mk (blk_below (g := gb412) (o := .cells #[.slice A0_0 l0_0.length c0_0, .int .i64 a0_1] 50 (0, 0)) (by (with_reducible repeat (first | refine blk_drewN ?_ _ | refine blk_drew ?_ | refine blk_alloc ?_ _)); exact BK412.out) hb); have n3_ := Aside0.mk (blk_below (g := gb418) (o := .cells #[.slice Ao30 t414.length co30, .int .i64 t417] 50 (0, 0)) (by (with_reducible repeat (first | refine blk_drewN ?_ _ | refine blk_drew ?_ | refine blk_alloc ?_ _)); exact BK418.out) hb); have n4_ := Aside0.mk (below_step (by repeat (first | (with_reducible first | exact HB.out | apply zD | apply zE | apply zF | refine below_set ?_ GE412.out | refine below_set ?_ GE418.out) | exact HB.out)) hb); clear HO416; clear BK412; clear BK418; clear HB; have HO416 := n0_; have HO425 := n1_; have BK412 := n2_; have BK418 := n3_; have HB := n4_; clear n0_ n1_ n2_ n3_ n4_; (try clear hb); (try clear hb2); (try clear hk); (try clear hi); (try clear ho0); have hcz38_0 : w37.cell? ⟨gb412, 0, none⟩ = some (.slice A0_0 l0_0.length c0_0) := (blk_cell BK412.out 0).trans rfl; have hcz38_1 : w37.cell? ⟨gb412, 1, none⟩ = some (.int .i64 a0_1) := (blk_cell BK412.out 1).trans rfl; have hfz38_0 := blk_frozen BK412.out 0; have hfz38_1 := blk_frozen BK412.out 1) | ((with_reducible refine gate_callee (f := 50) rfl ?_); refine goesL_ (some 41) rfl rfl Try.func50 (by kernel_rfl) rfl #[.agg #[.slice A0_0 l0_0.length c0_0, .int .i64 a0_1], .int .i64 a2] rfl zM ?_; (with_reducible refine (leadtrailref09_Unrank.calls k _ _ l0_0 a0_1 a2 t427 t430 _ ?side1 ?side2 A10.out).mono ?_); (case side1 => repeat (first | exact (Kd.C_below HR0_0.out HB.out) | (with_reducible refine Kd.C_alloc ?_ _) | (with_reducible refine Kd.C_drewN ?_ _) | (with_reducible refine Kd.C_drew ?_))); (case side2 => exact HC0_0.out); rintro e w39 ⟨v428, rfl, ho0, hb⟩; refine ⟨_, rfl, ?_⟩; have n0_ := Aside0.mk (Kd.S_below (by (with_reducible repeat (first | apply Kd.S_alloc | apply Kd.S_drewN | apply Kd.S_drew)); exact HO416.out) hb); have n1_ := Aside0.mk (Kd.R_elder' (by (with_reducible repeat (first | apply zA | apply zB | apply zC)); exact HO425.out) (Kd.R_base ho0) hb); have n2_ := Aside0.mk (Kd.R_lower (Kd.R_new' ho0 (Kd.R_lt (by (with_reducible repeat (first | apply zA | apply zB | apply zC)); exact HO425.out))) (below_size (by repeat (first | (with_reducible first | exact HB.out | apply zD | apply zE | apply zF | refine below_set ?_ GE412.out | refine below_set ?_ GE418.out) | exact HB.out)))); have n3_ := Aside0.mk (blk_below (g := gb412) (o := .cells #[.slice A0_0 l0_0.length c0_0, .int .i64 a0_1] 50 (0, 0)) (by (with_reducible repeat (first | refine blk_drewN ?_ _ | refine blk_drew ?_ | refine blk_alloc ?_ _)); exact BK412.out) hb); have n4_ := Aside0.mk (blk_below (g := gb418) (o := .cells #[.slice Ao30 t414.length co30, .int .i64 t417] 50 (0, 0)) (by (with_reducible repeat (first | refine blk_drewN ?_ _ | refine blk_drew ?_ | refine blk_alloc ?_ _)); exact BK418.out) hb); have n5_ := Aside0.mk (below_step (by repeat (first | (with_reducible first | exact HB.out | apply zD | apply zE | apply zF | refine below_set ?_ GE412.out | refine below_set ?_ GE418.out) | exact HB.out)) hb); clear HO416; clear HO425; clear BK412; clear BK418; clear HB; have HO416 := n0_; have HO425 := n1_; have HO429 := n2_; have BK412 := n3_; have BK418 := n4_; have HB := n5_; clear n0_ n1_ n2_ n3_ n4_ n5_; (try clear hb); (try clear hb2); (try clear hk); (try clear hi); (try clear ho0)))
         have n0_ := Aside0.mk (Kd.S_drew HO416.out)
         have n1_ := Aside0.mk (Kd.R_drew HO425.out)
         have n2_ := Aside0.mk (Kd.R_drew HO429.out)
         have n3_ := Aside0.mk (blk_drew BK412.out)
         have n4_ := Aside0.mk (blk_drew BK418.out)
         have n5_ := Aside0.mk (below_drew1 HB.out)
         clear HO416
         clear HO425
         clear HO429
         clear BK412
         clear BK418
         clear HB
         have HO416 := n0_
         have HO425 := n1_
         have HO429 := n2_
         have BK412 := n3_
         have BK418 := n4_
         have HB := n5_
         clear n0_ n1_ n2_ n3_ n4_ n5_
         refine start_ (n := 49) (S := fun w' => w'.cell? ⟨gb418, 0, none⟩ = some (.slice Ao30 t414.length co30) ∧ w'.cell? ⟨gb418, 1, none⟩ = some (.int .i64 t417) ∧ w'.cell? ⟨gb412, 0, none⟩ = some (.slice A0_0 l0_0.length c0_0) ∧ w'.cell? ⟨gb412, 1, none⟩ = some (.int .i64 a0_1) ∧ Sem.run Try.prog (convert 52 9 v424) w' = .ok (.string (strOfNums t423)) w' ∧ Sem.run Try.prog (convert 52 9 v428) w' = .ok (.string (strOfNums t427)) w') (ds := []) #[false, false, false, false, false, false, false, false, false, false, false, false, false, false, false, false, false, false, false, false, false, false, false, false, false, false, false, false, false, false, false, false, false, false, false, false, false, false, false, false, false, false, false, false, false, false, false, false, false] (by kernel_rfl) rfl rfl ⟨(blk_cell BK418.out 0).trans rfl, (blk_cell BK418.out 1).trans rfl, (blk_cell BK412.out 0).trans rfl, (blk_cell BK412.out 1).trans rfl, (own_string (P := Try.prog) Try.underlying52 Try.underlying5 Try.underlying9 (Kd.own_of_R HO425.out)), (own_string (P := Try.prog) Try.underlying52 Try.underlying5 Try.underlying9 (Kd.own_of_R HO429.out))⟩ (fun hHeld => ?_); refine with_tabW leadtraillaw09_ShapeAnswers.tab8 leadtraillaw09_ShapeAnswers.bits8 (fun HT_ HW_ => ?_)
         generalize w39.drew = w40 at HO416 HO425 HO429 BK412 BK418 HB hHeld ⊢
         refine take_ (i := 0) (N := some 44) (v := ?_) (a' := ?_) (bz 49 1) rfl rfl (take_ofW HT_.out HW_.out (by kernel_rfl)) zQ (Or.inl ⟨by rfl, ?_⟩) hHeld ?_ ?_
         rotate_left
         ·rintro w' ⟨s0, s1, s2, s3, s4, s5⟩
          go_simp
          with_reducible rfl
         rotate_left
         ·simp only [Act.put, List.setIfInBounds_toArray, List.set_cons_zero, List.set_cons_succ, i64_w, i32_w]
          rfl
         refine take_ (i := 2) (N := some 46) (v := ?_) (a' := ?_) (bz 49 5) rfl rfl (take_ofW HT_.out HW_.out (by kernel_rfl)) zQ (Or.inl ⟨by rfl, ?_⟩) hHeld ?_ ?_
         rotate_left
         ·rintro w' ⟨s0, s1, s2, s3, s4, s5⟩
          go_simp
          with_reducible rfl
         rotate_left
         ·simp only [Act.put, List.setIfInBounds_toArray, List.set_cons_zero, List.set_cons_succ, i64_w, i32_w]
          rfl
         refine one_ (i := 1) (N := some 45) (bz 49 7) rfl rfl (one_of HT_.out (by kernel_rfl)) (by decide) (fun K hK => ?_)
         refine goes_ Try.func51 (by kernel_rfl) rfl #[.agg #[.slice Ao30 t414.length co30, .int .i64 t417]] (by rfl) rfl rfl zM ?_
         with_reducible refine (shape_Valid.calls k (fun k_ => ((((True ∧ some k_ ≠ (v424 : Value).ownBlock) ∧ some k_ ≠ (v428 : Value).ownBlock) ∧ k_ ≠ gb412) ∧ k_ ≠ gb418)) _ _ t414 t417 t431 _ ?side1 A11.out).mono ?_
         (case side1 => exact Kd.S_V (Kd.S_types (Kd.S_types (Kd.S_apart' (Kd.S_apart' (HO416.out) (Kd.R_typed HO425.out) (by decide)) (Kd.R_typed HO429.out) (by decide)) BK412.out (by decide)) BK418.out (by decide)))
         rintro e w41 ⟨rfl, hb⟩
         refine ⟨_, rfl, ?_⟩
         have n0_ := Aside0.mk (Kd.S_below (by (with_reducible repeat (first | apply Kd.S_alloc | apply Kd.S_drewN | apply Kd.S_drew)); exact HO416.out) hb)
         have n1_ := Aside0.mk (Kd.R_below (by (with_reducible repeat (first | apply zA | apply zB | apply zC)); exact HO425.out) hb)
         have n2_ := Aside0.mk (Kd.R_below (by (with_reducible repeat (first | apply zA | apply zB | apply zC)); exact HO429.out) hb)
         have n3_ := Aside0.mk (blk_below (g := gb412) (o := .cells #[.slice A0_0 l0_0.length c0_0, .int .i64 a0_1] 50 (0, 0)) (by (with_reducible repeat (first | refine blk_drewN ?_ _ | refine blk_drew ?_ | refine blk_alloc ?_ _)); exact BK412.out) hb)
         have n4_ := Aside0.mk (blk_below (g := gb418) (o := .cells #[.slice Ao30 t414.length co30, .int .i64 t417] 50 (0, 0)) (by (with_reducible repeat (first | refine blk_drewN ?_ _ | refine blk_drew ?_ | refine blk_alloc ?_ _)); exact BK418.out) hb)
         have n5_ := Aside0.mk (below_step (by repeat (first | (with_reducible first | exact HB.out | apply zD | apply zE | apply zF | refine below_set ?_ GE412.out | refine below_set ?_ GE418.out) | exact HB.out)) hb)
         clear HO416
         clear HO425
         clear HO429
         clear BK412
         clear BK418
         clear HB
         have HO416 := n0_
         have HO425 := n1_
         have HO429 := n2_
         have BK412 := n3_
         have BK418 := n4_
         have HB := n5_
         clear n0_ n1_ n2_ n3_ n4_ n5_
         (try clear hb)
         (try clear hb2)
         (try clear hk)
         (try clear hi)
         refine hK.out _ _ ⟨(blk_cell BK418.out 0).trans rfl, (blk_cell BK418.out 1).trans rfl, (blk_cell BK412.out 0).trans rfl, (blk_cell BK412.out 1).trans rfl, (own_string (P := Try.prog) Try.underlying52 Try.underlying5 Try.underlying9 (Kd.own_of_R HO425.out)), (own_string (P := Try.prog) Try.underlying52 Try.underlying5 Try.underlying9 (Kd.own_of_R HO429.out))⟩ (fun hHeld => ?_)
         clear hK K
         refine norm_ (a' := ?_) ?_ ?_
         rotate_left
         ·show Act.put _ (some 45) _ = _
          simp only [Act.put, List.setIfInBounds_toArray, List.set_cons_zero, List.set_cons_succ, i64_w, i32_w]
          rfl
         refine one_ (i := 3) (N := some 47) (bz 49 15) rfl rfl (one_of HT_.out (by kernel_rfl)) (by decide) (fun K hK => ?_)
         refine goes_ Try.func52 (by kernel_rfl) rfl #[.agg #[.slice A0_0 l0_0.length c0_0, .int .i64 a0_1]] (by rfl) rfl rfl zM ?_
         with_reducible refine (leadtrailref08_ValidShape.calls k _ _ l0_0 a0_1 t432 _ ?side1 ?side2 A12.out).mono ?_
         (case side1 => repeat (first | exact (Kd.C_below HR0_0.out HB.out) | (with_reducible refine Kd.C_alloc ?_ _) | (with_reducible refine Kd.C_drewN ?_ _) | (with_reducible refine Kd.C_drew ?_)))
         (case side2 => exact HC0_0.out)
         rintro e w42 ⟨rfl, hb⟩
         refine ⟨_, rfl, ?_⟩
         have n0_ := Aside0.mk (Kd.S_below (by (with_reducible repeat (first | apply Kd.S_alloc | apply Kd.S_drewN | apply Kd.S_drew)); exact HO416.out) hb)
         have n1_ := Aside0.mk (Kd.R_below (by (with_reducible repeat (first | apply zA | apply zB | apply zC)); exact HO425.out) hb)
         have n2_ := Aside0.mk (Kd.R_below (by (with_reducible repeat (first | apply zA | apply zB | apply zC)); exact HO429.out) hb)
         have n3_ := Aside0.mk (blk_below (g := gb412) (o := .cells #[.slice A0_0 l0_0.length c0_0, .int .i64 a0_1] 50 (0, 0)) (by (with_reducible repeat (first | refine blk_drewN ?_ _ | refine blk_drew ?_ | refine blk_alloc ?_ _)); exact BK412.out) hb)
         have n4_ := Aside0.mk (blk_below (g := gb418) (o := .cells #[.slice Ao30 t414.length co30, .int .i64 t417] 50 (0, 0)) (by (with_reducible repeat (first | refine blk_drewN ?_ _ | refine blk_drew ?_ | refine blk_alloc ?_ _)); exact BK418.out) hb)
         have n5_ := Aside0.mk (below_step (by repeat (first | (with_reducible first | exact HB.out | apply zD | apply zE | apply zF | refine below_set ?_ GE412.out | refine below_set ?_ GE418.out) | exact HB.out)) hb)
         clear HO416
         clear HO425
         clear HO429
         clear BK412
         clear BK418
         clear HB
         have HO416 := n0_
         have HO425 := n1_
         have HO429 := n2_
         have BK412 := n3_
         have BK418 := n4_
         have HB := n5_
         clear n0_ n1_ n2_ n3_ n4_ n5_
         (try clear hb)
         (try clear hb2)
         (try clear hk)
         (try clear hi)
         refine hK.out _ _ ⟨(blk_cell BK418.out 0).trans rfl, (blk_cell BK418.out 1).trans rfl, (blk_cell BK412.out 0).trans rfl, (blk_cell BK412.out 1).trans rfl, (own_string (P := Try.prog) Try.underlying52 Try.underlying5 Try.underlying9 (Kd.own_of_R HO425.out)), (own_string (P := Try.prog) Try.underlying52 Try.underlying5 Try.underlying9 (Kd.own_of_R HO429.out))⟩ (fun hHeld => ?_)
         clear hK K
         refine norm_ (a' := ?_) ?_ ?_
         rotate_left
         ·show Act.put _ (some 47) _ = _
          simp only [Act.put, List.setIfInBounds_toArray, List.set_cons_zero, List.set_cons_succ, i64_w, i32_w]
          rfl
         refine pure_ (i := 4) (N := some 48) (v := ?_) (a' := ?_) (bz 49 31) rfl rfl (any_of HT_.out (by kernel_rfl)) zQ (Or.inl ⟨by rfl, ?_⟩) ?_ ?_
         rotate_left
         ·intro w'
          go_simp
          with_reducible rfl
         rotate_left
         ·simp only [Act.put, List.setIfInBounds_toArray, List.set_cons_zero, List.set_cons_succ, i64_w, i32_w]
          rfl
         refine pure_ (i := 5) (N := some 49) (v := ?_) (a' := ?_) (bz 49 63) rfl rfl (any_of HT_.out (by kernel_rfl)) zQ (Or.inl ⟨by rfl, ?_⟩) ?_ ?_
         rotate_left
         ·intro w'
          go_simp
          with_reducible rfl
         rotate_left
         ·simp only [Act.put, List.setIfInBounds_toArray, List.set_cons_zero, List.set_cons_succ, i64_w, i32_w]
          rfl
         refine take_ (i := 6) (N := some 50) (v := ?_) (a' := ?_) (bz 49 127) rfl rfl (take_ofW HT_.out HW_.out (by kernel_rfl)) zQ (Or.inl ⟨by rfl, ?_⟩) hHeld ?_ ?_
         rotate_left
         ·rintro w' ⟨s0, s1, s2, s3, s4, s5⟩
          go_simp
          with_reducible rfl
         rotate_left
         ·simp only [Act.put, List.setIfInBounds_toArray, List.set_cons_zero, List.set_cons_succ, i64_w, i32_w]
          rfl
         refine take_ (i := 8) (N := some 52) (v := ?_) (a' := ?_) (bz 49 383) rfl rfl (take_ofW HT_.out HW_.out (by kernel_rfl)) zQ (Or.inl ⟨by rfl, ?_⟩) hHeld ?_ ?_
         rotate_left
         ·rintro w' ⟨s0, s1, s2, s3, s4, s5⟩
          go_simp
          with_reducible rfl
         rotate_left
         ·simp only [Act.put, List.setIfInBounds_toArray, List.set_cons_zero, List.set_cons_succ, i64_w, i32_w]
          rfl
         refine one_ (i := 7) (N := some 51) (bz 49 511) rfl rfl (one_of HT_.out (by kernel_rfl)) (by decide) (fun K hK => ?_)
         refine goes_ Try.func33 (by kernel_rfl) rfl #[.agg #[.slice Ao30 t414.length co30, .int .i64 t417]] (by rfl) rfl rfl zM ?_
         with_reducible refine (shape_Count.calls k _ _ t414 t417 t433 _ ?side1 ?side2 A14.out).mono ?_
         (case side1 => repeat (first | exact (Kd.S_reads' HO416.out).2.2 | (with_reducible refine Kd.C_alloc ?_ _) | (with_reducible refine Kd.C_drewN ?_ _) | (with_reducible refine Kd.C_drew ?_)))
         (case side2 => exact (Kd.S_reads' HO416.out).2.1)
         rintro e w43 ⟨rfl, hb⟩
         refine ⟨_, rfl, ?_⟩
         have n0_ := Aside0.mk (Kd.S_below (by (with_reducible repeat (first | apply Kd.S_alloc | apply Kd.S_drewN | apply Kd.S_drew)); exact HO416.out) hb)
         have n1_ := Aside0.mk (Kd.R_below (by (with_reducible repeat (first | apply zA | apply zB | apply zC)); exact HO425.out) hb)
         have n2_ := Aside0.mk (Kd.R_below (by (with_reducible repeat (first | apply zA | apply zB | apply zC)); exact HO429.out) hb)
         have n3_ := Aside0.mk (blk_below (g := gb412) (o := .cells #[.slice A0_0 l0_0.length c0_0, .int .i64 a0_1] 50 (0, 0)) (by (with_reducible repeat (first | refine blk_drewN ?_ _ | refine blk_drew ?_ | refine blk_alloc ?_ _)); exact BK412.out) hb)
         have n4_ := Aside0.mk (blk_below (g := gb418) (o := .cells #[.slice Ao30 t414.length co30, .int .i64 t417] 50 (0, 0)) (by (with_reducible repeat (first | refine blk_drewN ?_ _ | refine blk_drew ?_ | refine blk_alloc ?_ _)); exact BK418.out) hb)
         have n5_ := Aside0.mk (below_step (by repeat (first | (with_reducible first | exact HB.out | apply zD | apply zE | apply zF | refine below_set ?_ GE412.out | refine below_set ?_ GE418.out) | exact HB.out)) hb)
         clear HO416
         clear HO425
         clear HO429
         clear BK412
         clear BK418
         clear HB
         have HO416 := n0_
         have HO425 := n1_
         have HO429 := n2_
         have BK412 := n3_
         have BK418 := n4_
         have HB := n5_
         clear n0_ n1_ n2_ n3_ n4_ n5_
         (try clear hb)
         (try clear hb2)
         (try clear hk)
         (try clear hi)
         refine hK.out _ _ ⟨(blk_cell BK418.out 0).trans rfl, (blk_cell BK418.out 1).trans rfl, (blk_cell BK412.out 0).trans rfl, (blk_cell BK412.out 1).trans rfl, (own_string (P := Try.prog) Try.underlying52 Try.underlying5 Try.underlying9 (Kd.own_of_R HO425.out)), (own_string (P := Try.prog) Try.underlying52 Try.underlying5 Try.underlying9 (Kd.own_of_R HO429.out))⟩ (fun hHeld => ?_)
         clear hK K
         refine norm_ (a' := ?_) ?_ ?_
         rotate_left
         ·show Act.put _ (some 51) _ = _
          simp only [Act.put, List.setIfInBounds_toArray, List.set_cons_zero, List.set_cons_succ, i64_w, i32_w]
          rfl
         refine one_ (i := 9) (N := some 53) (bz 49 1023) rfl rfl (one_of HT_.out (by kernel_rfl)) (by decide) (fun K hK => ?_)
         refine goes_ Try.func53 (by kernel_rfl) rfl #[.agg #[.slice A0_0 l0_0.length c0_0, .int .i64 a0_1]] (by rfl) rfl rfl zM ?_
         with_reducible refine (leadtrailref09_Count.calls k _ _ l0_0 a0_1 t434 _ ?side1 ?side2 A15.out).mono ?_
         (case side1 => repeat (first | exact (Kd.C_below HR0_0.out HB.out) | (with_reducible refine Kd.C_alloc ?_ _) | (with_reducible refine Kd.C_drewN ?_ _) | (with_reducible refine Kd.C_drew ?_)))
         (case side2 => exact HC0_0.out)
         rintro e w44 ⟨rfl, hb⟩
         refine ⟨_, rfl, ?_⟩
         have n0_ := Aside0.mk (Kd.S_below (by (with_reducible repeat (first | apply Kd.S_alloc | apply Kd.S_drewN | apply Kd.S_drew)); exact HO416.out) hb)
         have n1_ := Aside0.mk (Kd.R_below (by (with_reducible repeat (first | apply zA | apply zB | apply zC)); exact HO425.out) hb)
         have n2_ := Aside0.mk (Kd.R_below (by (with_reducible repeat (first | apply zA | apply zB | apply zC)); exact HO429.out) hb)
         have n3_ := Aside0.mk (blk_below (g := gb412) (o := .cells #[.slice A0_0 l0_0.length c0_0, .int .i64 a0_1] 50 (0, 0)) (by (with_reducible repeat (first | refine blk_drewN ?_ _ | refine blk_drew ?_ | refine blk_alloc ?_ _)); exact BK412.out) hb)
         have n4_ := Aside0.mk (blk_below (g := gb418) (o := .cells #[.slice Ao30 t414.length co30, .int .i64 t417] 50 (0, 0)) (by (with_reducible repeat (first | refine blk_drewN ?_ _ | refine blk_drew ?_ | refine blk_alloc ?_ _)); exact BK418.out) hb)
         have n5_ := Aside0.mk (below_step (by repeat (first | (with_reducible first | exact HB.out | apply zD | apply zE | apply zF | refine below_set ?_ GE412.out | refine below_set ?_ GE418.out) | exact HB.out)) hb)
         clear HO416
         clear HO425
         clear HO429
         clear BK412
         clear BK418
         clear HB
         have HO416 := n0_
         have HO425 := n1_
         have HO429 := n2_
         have BK412 := n3_
         have BK418 := n4_
         have HB := n5_
         clear n0_ n1_ n2_ n3_ n4_ n5_
         (try clear hb)
         (try clear hb2)
         (try clear hk)
         (try clear hi)
         refine hK.out _ _ ⟨(blk_cell BK418.out 0).trans rfl, (blk_cell BK418.out 1).trans rfl, (blk_cell BK412.out 0).trans rfl, (blk_cell BK412.out 1).trans rfl, (own_string (P := Try.prog) Try.underlying52 Try.underlying5 Try.underlying9 (Kd.own_of_R HO425.out)), (own_string (P := Try.prog) Try.underlying52 Try.underlying5 Try.underlying9 (Kd.own_of_R HO429.out))⟩ (fun hHeld => ?_)
         clear hK K
         refine norm_ (a' := ?_) ?_ ?_
         rotate_left
         ·show Act.put _ (some 53) _ = _
          simp only [Act.put, List.setIfInBounds_toArray, List.set_cons_zero, List.set_cons_succ, i64_w, i32_w]
          rfl
         refine pure_ (i := 10) (N := some 54) (v := ?_) (a' := ?_) (bz 49 2047) rfl rfl (any_of HT_.out (by kernel_rfl)) zQ (Or.inl ⟨by rfl, ?_⟩) ?_ ?_
         rotate_left
         ·intro w'
          go_simp
          with_reducible rfl
         rotate_left
         ·simp only [Act.put, List.setIfInBounds_toArray, List.set_cons_zero, List.set_cons_succ, i64_w, i32_w]
          rfl
         refine pure_ (i := 11) (N := some 55) (v := ?_) (a' := ?_) (bz 49 4095) rfl rfl (any_of HT_.out (by kernel_rfl)) zQ (Or.inl ⟨by rfl, ?_⟩) ?_ ?_
         rotate_left
         ·intro w'
          go_simp
          with_reducible rfl
         rotate_left
         ·simp only [Act.put, List.setIfInBounds_toArray, List.set_cons_zero, List.set_cons_succ, i64_w, i32_w]
          rfl
         refine pure_ (i := 12) (N := some 56) (v := ?_) (a' := ?_) (bz 49 8191) rfl rfl (any_of HT_.out (by kernel_rfl)) zQ (Or.inl ⟨by rfl, ?_⟩) ?_ ?_
         rotate_left
         ·intro w'
          go_simp
          with_reducible rfl
         rotate_left
         ·simp only [Act.put, List.setIfInBounds_toArray, List.set_cons_zero, List.set_cons_succ, i64_w, i32_w]
          rfl
         refine pure_ (i := 13) (N := some 57) (v := ?_) (a' := ?_) (bz 49 16383) rfl rfl (any_of HT_.out (by kernel_rfl)) zQ (Or.inl ⟨by rfl, ?_⟩) ?_ ?_
         rotate_left
         ·intro w'
          go_simp
          with_reducible rfl
         rotate_left
         ·simp only [Act.put, List.setIfInBounds_toArray, List.set_cons_zero, List.set_cons_succ, i64_w, i32_w]
          rfl
         refine pure_ (i := 14) (N := some 58) (v := ?_) (a' := ?_) (bz 49 32767) rfl rfl (any_of HT_.out (by kernel_rfl)) zQ (Or.inl ⟨by rfl, ?_⟩) ?_ ?_
         rotate_left
         ·intro w'
          go_simp
          with_reducible rfl
         rotate_left
         ·simp only [Act.put, List.setIfInBounds_toArray, List.set_cons_zero, List.set_cons_succ, i64_w, i32_w]
          rfl
         refine pure_ (i := 15) (N := some 59) (v := ?_) (a' := ?_) (bz 49 65535) rfl rfl (any_of HT_.out (by kernel_rfl)) zQ (Or.inl ⟨by rfl, ?_⟩) ?_ ?_
         rotate_left
         ·intro w'
          go_simp
          with_reducible rfl
         rotate_left
         ·simp only [Act.put, List.setIfInBounds_toArray, List.set_cons_zero, List.set_cons_succ, i64_w, i32_w]
          rfl
         refine pure_ (i := 16) (N := some 60) (v := ?_) (a' := ?_) (bz 49 131071) rfl rfl (any_of HT_.out (by kernel_rfl)) zQ (Or.inl ⟨by rfl, ?_⟩) ?_ ?_
         rotate_left
         ·intro w'
          go_simp
          with_reducible rfl
         rotate_left
         ·simp only [Act.put, List.setIfInBounds_toArray, List.set_cons_zero, List.set_cons_succ, i64_w, i32_w]
          rfl
         refine pure_ (i := 17) (N := some 61) (v := ?_) (a' := ?_) (bz 49 262143) rfl rfl (any_of HT_.out (by kernel_rfl)) zQ (Or.inl ⟨by rfl, ?_⟩) ?_ ?_
         rotate_left
         ·intro w'
          go_simp
          with_reducible rfl
         rotate_left
         ·simp only [Act.put, List.setIfInBounds_toArray, List.set_cons_zero, List.set_cons_succ, i64_w, i32_w]
          rfl
         refine pure_ (i := 18) (N := some 62) (v := ?_) (a' := ?_) (bz 49 524287) rfl rfl (any_of HT_.out (by kernel_rfl)) zQ (Or.inl ⟨by rfl, ?_⟩) ?_ ?_
         rotate_left
         ·intro w'
          go_simp
          with_reducible rfl
         rotate_left
         ·simp only [Act.put, List.setIfInBounds_toArray, List.set_cons_zero, List.set_cons_succ, i64_w, i32_w]
          rfl
         refine pure_ (i := 19) (N := some 63) (v := ?_) (a' := ?_) (bz 49 1048575) rfl rfl (any_of HT_.out (by kernel_rfl)) zQ (Or.inl ⟨by rfl, ?_⟩) ?_ ?_
         rotate_left
         ·intro w'
          go_simp
          with_reducible rfl
         rotate_left
         ·simp only [Act.put, List.setIfInBounds_toArray, List.set_cons_zero, List.set_cons_succ, i64_w, i32_w]
          rfl
         refine pure_ (i := 20) (N := some 64) (v := ?_) (a' := ?_) (bz 49 2097151) rfl rfl (any_of HT_.out (by kernel_rfl)) zQ (Or.inl ⟨by rfl, ?_⟩) ?_ ?_
         rotate_left
         ·intro w'
          go_simp
          with_reducible rfl
         rotate_left
         ·simp only [Act.put, List.setIfInBounds_toArray, List.set_cons_zero, List.set_cons_succ, i64_w, i32_w]
          rfl
         refine pure_ (i := 21) (N := some 65) (v := ?_) (a' := ?_) (bz 49 4194303) rfl rfl (any_of HT_.out (by kernel_rfl)) zQ (Or.inl ⟨by rfl, ?_⟩) ?_ ?_
         rotate_left
         ·intro w'
          go_simp
          with_reducible rfl
         rotate_left
         ·simp only [Act.put, List.setIfInBounds_toArray, List.set_cons_zero, List.set_cons_succ, i64_w, i32_w]
          rfl
         refine pure_ (i := 22) (N := some 66) (v := ?_) (a' := ?_) (bz 49 8388607) rfl rfl (any_of HT_.out (by kernel_rfl)) zQ (Or.inl ⟨by rfl, ?_⟩) ?_ ?_
         rotate_left
         ·intro w'
          go_simp
          with_reducible rfl
         rotate_left
         ·simp only [Act.put, List.setIfInBounds_toArray, List.set_cons_zero, List.set_cons_succ, i64_w, i32_w]
          rfl
         refine pure_ (i := 23) (N := some 67) (v := ?_) (a' := ?_) (bz 49 16777215) rfl rfl (any_of HT_.out (by kernel_rfl)) zQ (Or.inl ⟨by rfl, ?_⟩) ?_ ?_
         rotate_left
         ·intro w'
          go_simp
          with_reducible rfl
         rotate_left
         ·simp only [Act.put, List.setIfInBounds_toArray, List.set_cons_zero, List.set_cons_succ, i64_w, i32_w]
          rfl
         refine pure_ (i := 25) (N := some 69) (v := ?_) (a' := ?_) (bz 49 50331647) rfl rfl (any_of HT_.out (by kernel_rfl)) zQ (Or.inl ⟨by rfl, ?_⟩) ?_ ?_
         rotate_left
         ·intro w'
          go_simp
          with_reducible rfl
         rotate_left
         ·simp only [Act.put, List.setIfInBounds_toArray, List.set_cons_zero, List.set_cons_succ, i64_w, i32_w]
          rfl
         refine take_ (i := 24) (N := some 68) (v := ?_) (a' := ?_) (bz 49 67108863) rfl rfl (take_ofW HT_.out HW_.out (by kernel_rfl)) zQ (Or.inl ⟨by rfl, ?_⟩) hHeld ?_ ?_
         rotate_left
         ·rintro w' ⟨s0, s1, s2, s3, s4, s5⟩
          go_simp
          with_reducible rfl
         rotate_left
         ·simp only [Act.put, List.setIfInBounds_toArray, List.set_cons_zero, List.set_cons_succ, i64_w, i32_w]
          rfl
         refine take_ (i := 26) (N := some 70) (v := ?_) (a' := ?_) (bz 49 134217727) rfl rfl (take_ofW HT_.out HW_.out (by kernel_rfl)) zQ (Or.inl ⟨by rfl, ?_⟩) hHeld ?_ ?_
         rotate_left
         ·rintro w' ⟨s0, s1, s2, s3, s4, s5⟩
          go_simp
          with_reducible rfl
         rotate_left
         ·simp only [Act.put, List.setIfInBounds_toArray, List.set_cons_zero, List.set_cons_succ, i64_w, i32_w]
          rfl
         refine pure_ (i := 27) (N := some 71) (v := ?_) (a' := ?_) (bz 49 268435455) rfl rfl (any_of HT_.out (by kernel_rfl)) zQ (Or.inl ⟨by rfl, ?_⟩) ?_ ?_
         rotate_left
         ·intro w'
          go_simp
          with_reducible rfl
         rotate_left
         ·simp only [Act.put, List.setIfInBounds_toArray, List.set_cons_zero, List.set_cons_succ, i64_w, i32_w]
          rfl
         refine pure_ (i := 28) (N := some 72) (v := ?_) (a' := ?_) (bz 49 536870911) rfl rfl (any_of HT_.out (by kernel_rfl)) zQ (Or.inl ⟨by rfl, ?_⟩) ?_ ?_
         rotate_left
         ·intro w'
          go_simp
          with_reducible rfl
         rotate_left
         ·simp only [Act.put, List.setIfInBounds_toArray, List.set_cons_zero, List.set_cons_succ, i64_w, i32_w]
          rfl
         refine pure_ (i := 29) (N := some 73) (v := ?_) (a' := ?_) (bz 49 1073741823) rfl rfl (any_of HT_.out (by kernel_rfl)) zQ (Or.inl ⟨by rfl, ?_⟩) ?_ ?_
         rotate_left
         ·intro w'
          go_simp
          with_reducible rfl
         rotate_left
         ·simp only [Act.put, List.setIfInBounds_toArray, List.set_cons_zero, List.set_cons_succ, i64_w, i32_w]
          rfl
         refine pure_ (i := 30) (N := some 74) (v := ?_) (a' := ?_) (bz 49 2147483647) rfl rfl (any_of HT_.out (by kernel_rfl)) zQ (Or.inl ⟨by rfl, ?_⟩) ?_ ?_
         rotate_left
         ·intro w'
          go_simp
          with_reducible rfl
         rotate_left
         ·simp only [Act.put, List.setIfInBounds_toArray, List.set_cons_zero, List.set_cons_succ, i64_w, i32_w]
          rfl
         refine pure_ (i := 31) (N := some 75) (v := ?_) (a' := ?_) (bz 49 4294967295) rfl rfl (any_of HT_.out (by kernel_rfl)) zQ (Or.inl ⟨by rfl, ?_⟩) ?_ ?_
         rotate_left
         ·intro w'
          go_simp
          with_reducible rfl
         rotate_left
         ·simp only [Act.put, List.setIfInBounds_toArray, List.set_cons_zero, List.set_cons_succ, i64_w, i32_w]
          rfl
         refine pure_ (i := 32) (N := some 76) (v := ?_) (a' := ?_) (bz 49 8589934591) rfl rfl (any_of HT_.out (by kernel_rfl)) zQ (Or.inl ⟨by rfl, ?_⟩) ?_ ?_
         rotate_left
         ·intro w'
          go_simp
          with_reducible rfl
         rotate_left
         ·simp only [Act.put, List.setIfInBounds_toArray, List.set_cons_zero, List.set_cons_succ, i64_w, i32_w]
          rfl
         refine pure_ (i := 33) (N := some 77) (v := ?_) (a' := ?_) (bz 49 17179869183) rfl rfl (any_of HT_.out (by kernel_rfl)) zQ (Or.inl ⟨by rfl, ?_⟩) ?_ ?_
         rotate_left
         ·intro w'
          go_simp
          with_reducible rfl
         rotate_left
         ·simp only [Act.put, List.setIfInBounds_toArray, List.set_cons_zero, List.set_cons_succ, i64_w, i32_w]
          rfl
         refine pure_ (i := 34) (N := some 78) (v := ?_) (a' := ?_) (bz 49 34359738367) rfl rfl (any_of HT_.out (by kernel_rfl)) zQ (Or.inl ⟨by rfl, ?_⟩) ?_ ?_
         rotate_left
         ·intro w'
          go_simp
          with_reducible rfl
         rotate_left
         ·simp only [Act.put, List.setIfInBounds_toArray, List.set_cons_zero, List.set_cons_succ, i64_w, i32_w]
          rfl
         refine pure_ (i := 36) (N := some 80) (v := ?_) (a' := ?_) (bz 49 103079215103) rfl rfl (any_of HT_.out (by kernel_rfl)) zQ (Or.inl ⟨by rfl, ?_⟩) ?_ ?_
         rotate_left
         ·intro w'
          go_simp
          with_reducible rfl
         rotate_left
         ·simp only [Act.put, List.setIfInBounds_toArray, List.set_cons_zero, List.set_cons_succ, i64_w, i32_w]
          rfl
         refine pure_ (i := 39) (N := some 83) (v := ?_) (a' := ?_) (bz 49 652835028991) rfl rfl (any_of HT_.out (by kernel_rfl)) zQ (Or.inl ⟨by rfl, ?_⟩) ?_ ?_
         rotate_left
         ·intro w'
          go_simp
          with_reducible rfl
         rotate_left
         ·simp only [Act.put, List.setIfInBounds_toArray, List.set_cons_zero, List.set_cons_succ, i64_w, i32_w]
          rfl
         refine take_ (i := 35) (N := some 79) (v := ?_) (a' := ?_) (bz 49 687194767359) rfl rfl (take_ofW HT_.out HW_.out (by kernel_rfl)) zQ (Or.inl ⟨by rfl, ?_⟩) hHeld ?_ ?_
         rotate_left
         ·rintro w' ⟨s0, s1, s2, s3, s4, s5⟩
          go_simp
          with_reducible rfl
         rotate_left
         ·simp only [Act.put, List.setIfInBounds_toArray, List.set_cons_zero, List.set_cons_succ, i64_w, i32_w]
          rfl
         refine take_ (i := 38) (N := some 82) (v := ?_) (a' := ?_) (bz 49 962072674303) rfl rfl (take_ofW HT_.out HW_.out (by kernel_rfl)) zQ (Or.inl ⟨by rfl, ?_⟩) hHeld ?_ ?_
         rotate_left
         ·rintro w' ⟨s0, s1, s2, s3, s4, s5⟩
          go_simp
          with_reducible rfl
         rotate_left
         ·simp only [Act.put, List.setIfInBounds_toArray, List.set_cons_zero, List.set_cons_succ, i64_w, i32_w]
          rfl
         refine one_ (i := 37) (N := some 81) (bz 49 1099511627775) rfl rfl (one_of HT_.out (by kernel_rfl)) (by decide) (fun K hK => ?_)
         refine goes_ Try.func54 (by kernel_rfl) rfl #[.agg #[.slice Ao30 t414.length co30, .int .i64 t417], .slice A1 l1.length c1] (by rfl) rfl rfl zM ?_
         with_reducible refine (shape_Begins.calls k _ _ t414 t417 _ _ l1 t435 _ ?side1 ?side2 ?side3 ?side4 A21.out).mono ?_
         (case side1 => repeat (first | exact (Kd.S_reads' HO416.out).2.2 | (with_reducible refine Kd.C_alloc ?_ _) | (with_reducible refine Kd.C_drewN ?_ _) | (with_reducible refine Kd.C_drew ?_)))
         (case side2 => exact (Kd.S_reads' HO416.out).2.1)
         (case side3 => repeat (first | exact (Kd.C_below HR1.out HB.out) | (with_reducible refine Kd.C_alloc ?_ _) | (with_reducible refine Kd.C_drewN ?_ _) | (with_reducible refine Kd.C_drew ?_)))
         (case side4 => exact HC1.out)
         rintro e w48 ⟨rfl, hb⟩
         refine ⟨_, rfl, ?_⟩
         have n0_ := Aside0.mk (Kd.S_below (by (with_reducible repeat (first | apply Kd.S_alloc | apply Kd.S_drewN | apply Kd.S_drew)); exact HO416.out) hb)
         have n1_ := Aside0.mk (Kd.R_below (by (with_reducible repeat (first | apply zA | apply zB | apply zC)); exact HO425.out) hb)
         have n2_ := Aside0.mk (Kd.R_below (by (with_reducible repeat (first | apply zA | apply zB | apply zC)); exact HO429.out) hb)
         have n3_ := Aside0.mk (blk_below (g := gb412) (o := .cells #[.slice A0_0 l0_0.length c0_0, .int .i64 a0_1] 50 (0, 0)) (by (with_reducible repeat (first | refine blk_drewN ?_ _ | refine blk_drew ?_ | refine blk_alloc ?_ _)); exact BK412.out) hb)
         have n4_ := Aside0.mk (blk_below (g := gb418) (o := .cells #[.slice Ao30 t414.length co30, .int .i64 t417] 50 (0, 0)) (by (with_reducible repeat (first | refine blk_drewN ?_ _ | refine blk_drew ?_ | refine blk_alloc ?_ _)); exact BK418.out) hb)
         have n5_ := Aside0.mk (below_step (by repeat (first | (with_reducible first | exact HB.out | apply zD | apply zE | apply zF | refine below_set ?_ GE412.out | refine below_set ?_ GE418.out) | exact HB.out)) hb)
         clear HO416
         clear HO425
         clear HO429
         clear BK412
         clear BK418
         clear HB
         have HO416 := n0_
         have HO425 := n1_
         have HO429 := n2_
         have BK412 := n3_
         have BK418 := n4_
         have HB := n5_
         clear n0_ n1_ n2_ n3_ n4_ n5_
         (try clear hb)
         (try clear hb2)
         (try clear hk)
         (try clear hi)
         refine hK.out _ _ ⟨(blk_cell BK418.out 0).trans rfl, (blk_cell BK418.out 1).trans rfl, (blk_cell BK412.out 0).trans rfl, (blk_cell BK412.out 1).trans rfl, (own_string (P := Try.prog) Try.underlying52 Try.underlying5 Try.underlying9 (Kd.own_of_R HO425.out)), (own_string (P := Try.prog) Try.underlying52 Try.underlying5 Try.underlying9 (Kd.own_of_R HO429.out))⟩ (fun hHeld => ?_)
         clear hK K
         refine norm_ (a' := ?_) ?_ ?_
         rotate_left
         ·show Act.put _ (some 81) _ = _
          simp only [Act.put, List.setIfInBounds_toArray, List.set_cons_zero, List.set_cons_succ, i64_w, i32_w]
          rfl
         refine one_ (i := 40) (N := some 84) (bz 49 2199023255551) rfl rfl (one_of HT_.out (by kernel_rfl)) (by decide) (fun K hK => ?_)
         refine goes_ Try.func55 (by kernel_rfl) rfl #[.agg #[.slice A0_0 l0_0.length c0_0, .int .i64 a0_1], .slice A1 l1.length c1] (by rfl) rfl rfl zM ?_
         with_reducible refine (leadtrailref09_Begins.calls k _ _ l0_0 a0_1 _ _ l1 t436 _ ?side1 ?side2 ?side3 ?side4 A22.out).mono ?_
         (case side1 => repeat (first | exact (Kd.C_below HR0_0.out HB.out) | (with_reducible refine Kd.C_alloc ?_ _) | (with_reducible refine Kd.C_drewN ?_ _) | (with_reducible refine Kd.C_drew ?_)))
         (case side2 => exact HC0_0.out)
         (case side3 => repeat (first | exact (Kd.C_below HR1.out HB.out) | (with_reducible refine Kd.C_alloc ?_ _) | (with_reducible refine Kd.C_drewN ?_ _) | (with_reducible refine Kd.C_drew ?_)))
         (case side4 => exact HC1.out)
         rintro e w49 ⟨rfl, hb⟩
         refine ⟨_, rfl, ?_⟩
         have n0_ := Aside0.mk (Kd.S_below (by (with_reducible repeat (first | apply Kd.S_alloc | apply Kd.S_drewN | apply Kd.S_drew)); exact HO416.out) hb)
         have n1_ := Aside0.mk (Kd.R_below (by (with_reducible repeat (first | apply zA | apply zB | apply zC)); exact HO425.out) hb)
         have n2_ := Aside0.mk (Kd.R_below (by (with_reducible repeat (first | apply zA | apply zB | apply zC)); exact HO429.out) hb)
         have n3_ := Aside0.mk (blk_below (g := gb412) (o := .cells #[.slice A0_0 l0_0.length c0_0, .int .i64 a0_1] 50 (0, 0)) (by (with_reducible repeat (first | refine blk_drewN ?_ _ | refine blk_drew ?_ | refine blk_alloc ?_ _)); exact BK412.out) hb)
         have n4_ := Aside0.mk (blk_below (g := gb418) (o := .cells #[.slice Ao30 t414.length co30, .int .i64 t417] 50 (0, 0)) (by (with_reducible repeat (first | refine blk_drewN ?_ _ | refine blk_drew ?_ | refine blk_alloc ?_ _)); exact BK418.out) hb)
         have n5_ := Aside0.mk (below_step (by repeat (first | (with_reducible first | exact HB.out | apply zD | apply zE | apply zF | refine below_set ?_ GE412.out | refine below_set ?_ GE418.out) | exact HB.out)) hb)
         clear HO416
         clear HO425
         clear HO429
         clear BK412
         clear BK418
         clear HB
         have HO416 := n0_
         have HO425 := n1_
         have HO429 := n2_
         have BK412 := n3_
         have BK418 := n4_
         have HB := n5_
         clear n0_ n1_ n2_ n3_ n4_ n5_
         (try clear hb)
         (try clear hb2)
         (try clear hk)
         (try clear hi)
         refine hK.out _ _ ⟨(blk_cell BK418.out 0).trans rfl, (blk_cell BK418.out 1).trans rfl, (blk_cell BK412.out 0).trans rfl, (blk_cell BK412.out 1).trans rfl, (own_string (P := Try.prog) Try.underlying52 Try.underlying5 Try.underlying9 (Kd.own_of_R HO425.out)), (own_string (P := Try.prog) Try.underlying52 Try.underlying5 Try.underlying9 (Kd.own_of_R HO429.out))⟩ (fun hHeld => ?_)
         clear hK K
         refine norm_ (a' := ?_) ?_ ?_
         rotate_left
         ·show Act.put _ (some 84) _ = _
          simp only [Act.put, List.setIfInBounds_toArray, List.set_cons_zero, List.set_cons_succ, i64_w, i32_w]
          rfl
         refine pure_ (i := 41) (N := some 85) (v := ?_) (a' := ?_) (bz 49 4398046511103) rfl rfl (any_of HT_.out (by kernel_rfl)) zQ (Or.inl ⟨by rfl, ?_⟩) ?_ ?_
         rotate_left
         ·intro w'
          go_simp
          with_reducible rfl
         rotate_left
         ·simp only [Act.put, List.setIfInBounds_toArray, List.set_cons_zero, List.set_cons_succ, i64_w, i32_w]
          rfl
         refine pure_ (i := 42) (N := some 86) (v := ?_) (a' := ?_) (bz 49 8796093022207) rfl rfl (any_of HT_.out (by kernel_rfl)) zQ (Or.inl ⟨by rfl, ?_⟩) ?_ ?_
         rotate_left
         ·intro w'
          go_simp
          with_reducible rfl
         rotate_left
         ·simp only [Act.put, List.setIfInBounds_toArray, List.set_cons_zero, List.set_cons_succ, i64_w, i32_w]
          rfl
         refine pure_ (i := 43) (N := some 87) (v := ?_) (a' := ?_) (bz 49 17592186044415) rfl rfl (any_of HT_.out (by kernel_rfl)) zQ (Or.inl ⟨by rfl, ?_⟩) ?_ ?_
         rotate_left
         ·intro w'
          go_simp
          with_reducible rfl
         rotate_left
         ·simp only [Act.put, List.setIfInBounds_toArray, List.set_cons_zero, List.set_cons_succ, i64_w, i32_w]
          rfl
         refine take_ (i := 44) (N := some 88) (v := ?_) (a' := ?_) (bz 49 35184372088831) rfl rfl (take_ofW HT_.out HW_.out (by kernel_rfl)) zQ (Or.inl ⟨by rfl, ?_⟩) hHeld ?_ ?_
         rotate_left
         ·rintro w' ⟨s0, s1, s2, s3, s4, s5⟩
          go_simp
          with_reducible rfl
         rotate_left
         ·simp only [Act.put, List.setIfInBounds_toArray, List.set_cons_zero, List.set_cons_succ, i64_w, i32_w]
          rfl
         refine take_ (i := 45) (N := some 89) (v := ?_) (a' := ?_) (bz 49 70368744177663) rfl rfl (take_ofW HT_.out HW_.out (by kernel_rfl)) zQ (Or.inl ⟨by rfl, ?_⟩) hHeld ?_ ?_
         rotate_left
         ·rintro w' ⟨s0, s1, s2, s3, s4, s5⟩
          go_simp
          with_reducible rfl
         rotate_left
         ·simp only [Act.put, List.setIfInBounds_toArray, List.set_cons_zero, List.set_cons_succ, i64_w, i32_w]
          rfl
         refine one_ (i := 46) (N := some 90) (bz 49 140737488355327) rfl rfl (one_of HT_.out (by kernel_rfl)) (by decide) (fun K hK => ?_)
         refine goes_ Try.func56 (by kernel_rfl) rfl #[.agg #[.slice Ao30 t414.length co30, .int .i64 t417], .agg #[.slice A0_0 l0_0.length c0_0, .int .i64 a0_1]] (by rfl) rfl rfl zM ?_
         with_reducible refine (leadtrailref08_SameShape.calls k _ _ t414 t417 _ _ l0_0 a0_1 t437 _ ?side1 ?side2 ?side3 ?side4 A24.out).mono ?_
         (case side1 => repeat (first | exact (Kd.S_reads' HO416.out).2.2 | (with_reducible refine Kd.C_alloc ?_ _) | (with_reducible refine Kd.C_drewN ?_ _) | (with_reducible refine Kd.C_drew ?_)))
         (case side2 => exact (Kd.S_reads' HO416.out).2.1)
         (case side3 => repeat (first | exact (Kd.C_below HR0_0.out HB.out) | (with_reducible refine Kd.C_alloc ?_ _) | (with_reducible refine Kd.C_drewN ?_ _) | (with_reducible refine Kd.C_drew ?_)))
         (case side4 => exact HC0_0.out)
         rintro e w50 ⟨rfl, hb⟩
         refine ⟨_, rfl, ?_⟩
         have n0_ := Aside0.mk (Kd.S_below (by (with_reducible repeat (first | apply Kd.S_alloc | apply Kd.S_drewN | apply Kd.S_drew)); exact HO416.out) hb)
         have n1_ := Aside0.mk (Kd.R_below (by (with_reducible repeat (first | apply zA | apply zB | apply zC)); exact HO425.out) hb)
         have n2_ := Aside0.mk (Kd.R_below (by (with_reducible repeat (first | apply zA | apply zB | apply zC)); exact HO429.out) hb)
         have n3_ := Aside0.mk (blk_below (g := gb412) (o := .cells #[.slice A0_0 l0_0.length c0_0, .int .i64 a0_1] 50 (0, 0)) (by (with_reducible repeat (first | refine blk_drewN ?_ _ | refine blk_drew ?_ | refine blk_alloc ?_ _)); exact BK412.out) hb)
         have n4_ := Aside0.mk (blk_below (g := gb418) (o := .cells #[.slice Ao30 t414.length co30, .int .i64 t417] 50 (0, 0)) (by (with_reducible repeat (first | refine blk_drewN ?_ _ | refine blk_drew ?_ | refine blk_alloc ?_ _)); exact BK418.out) hb)
         have n5_ := Aside0.mk (below_step (by repeat (first | (with_reducible first | exact HB.out | apply zD | apply zE | apply zF | refine below_set ?_ GE412.out | refine below_set ?_ GE418.out) | exact HB.out)) hb)
         clear HO416
         clear HO425
         clear HO429
         clear BK412
         clear BK418
         clear HB
         have HO416 := n0_
         have HO425 := n1_
         have HO429 := n2_
         have BK412 := n3_
         have BK418 := n4_
         have HB := n5_
         clear n0_ n1_ n2_ n3_ n4_ n5_
         (try clear hb)
         (try clear hb2)
         (try clear hk)
         (try clear hi)
         refine hK.out _ _ ⟨(blk_cell BK418.out 0).trans rfl, (blk_cell BK418.out 1).trans rfl, (blk_cell BK412.out 0).trans rfl, (blk_cell BK412.out 1).trans rfl, (own_string (P := Try.prog) Try.underlying52 Try.underlying5 Try.underlying9 (Kd.own_of_R HO425.out)), (own_string (P := Try.prog) Try.underlying52 Try.underlying5 Try.underlying9 (Kd.own_of_R HO429.out))⟩ (fun hHeld => ?_)
         clear hK K
         refine norm_ (a' := ?_) ?_ ?_
         rotate_left
         ·show Act.put _ (some 90) _ = _
          simp only [Act.put, List.setIfInBounds_toArray, List.set_cons_zero, List.set_cons_succ, i64_w, i32_w]
          rfl
         refine pure_ (i := 47) (N := some 91) (v := ?_) (a' := ?_) (bz 49 281474976710655) rfl rfl (any_of HT_.out (by kernel_rfl)) zQ (Or.inl ⟨by rfl, ?_⟩) ?_ ?_
         rotate_left
         ·intro w'
          go_simp
          with_reducible rfl
         rotate_left
         ·simp only [Act.put, List.setIfInBounds_toArray, List.set_cons_zero, List.set_cons_succ, i64_w, i32_w]
          rfl
         refine pure_ (i := 48) (N := some 6) (v := ?_) (a' := ?_) (bz 49 562949953421311) rfl rfl (any_of HT_.out (by kernel_rfl)) zQ (Or.inl ⟨by rfl, ?_⟩) ?_ ?_
         rotate_left
         ·intro w'
          go_simp
          with_reducible rfl
         rotate_left
         ·simp only [Act.put, List.setIfInBounds_toArray, List.set_cons_zero, List.set_cons_succ, i64_w, i32_w]
          rfl
         refine done_ (done_of HT_.out (by kernel_rfl)) ?_
         try go_wp2
         go_ret
         exact ⟨by first | rfl | (simp [errW_none, errW_some] <;> rfl) | (simp [*, errW_none, errW_some] <;> rfl), by repeat (first | (with_reducible first | exact HB.out | apply zD | apply zE | apply zF | refine below_set ?_ GE412.out | refine below_set ?_ GE418.out) | exact HB.out)⟩
        ·rw [if_neg c23] at H
         have c23b0 : (t435 == t436) = false := by simpa using c23
         (try (have c23b1 : decide (t435 = t436) = false := by simpa using c23))
         (try (have c23b2 : (t435 == t436) = false := by simpa using c23))
         (try (have c23b3 : ¬ (t435 = t436) := by simpa using c23))
         clear c23
         exact absurd H (by simp)
       ·rw [if_neg c20] at H
        have c20b0 : (t426 == t430) = false := by simpa using c20
        (try (have c20b1 : decide (t426 = t430) = false := by simpa using c20))
        (try (have c20b2 : (t426 == t430) = false := by simpa using c20))
        (try (have c20b3 : ¬ (t426 = t430) := by simpa using c20))
        clear c20
        exact absurd H (by simp)
      ·rw [if_neg c19] at H
       have c19b0 : ((strOfNums t423).toList == (strOfNums t427).toList) = false := beq_eq_false_iff_ne.mpr c19
       have c19b1 : ((strOfNums t423).toList != (strOfNums t427).toList) = true := bne_iff_ne.mpr c19
       exact absurd H (by simp)
     ·rw [if_neg c18] at H
      have c18b0 : (t420 == t422) = false := by simpa using c18
      (try (have c18b1 : decide (t420 = t422) = false := by simpa using c18))
      (try (have c18b2 : (t420 == t422) = false := by simpa using c18))
      (try (have c18b3 : ¬ (t420 = t422) := by simpa using c18))
      clear c18
      exact absurd H (by simp)
    ·rw [if_neg c17] at H
     have c17b0 : (t419 == t421) = false := beq_eq_false_iff_ne.mpr c17
     have c17b1 : (t419 != t421) = true := bne_iff_ne.mpr c17
     exact absurd H (by simp)
   ·rw [if_neg c16] at H
    have c16b0 : (t433 == t434) = false := beq_eq_false_iff_ne.mpr c16
    have c16b1 : (t433 != t434) = true := bne_iff_ne.mpr c16
    exact absurd H (by simp)
  ·rw [if_neg c13] at H
   have c13b0 : (t431 == t432) = false := by simpa using c13
   (try (have c13b1 : decide (t431 = t432) = false := by simpa using c13))
   (try (have c13b2 : (t431 == t432) = false := by simpa using c13))
   (try (have c13b3 : ¬ (t431 = t432) := by simpa using c13))
   clear c13
   exact absurd H (by simp)
 ·replace c5 := Bool.eq_false_iff.mpr c5
  subst c5
  have H1 : (none) = some r := by rw [if_neg (show ¬ (false = true) by decide)] at H; exact H
  clear H
  have H := H1
  clear H1
  exact absurd H (by simp)
end Go.Proofs.Ytkcklnmbeinfkaa.B
