/- Words and walks of this claim, of the text PBSShapeF. -/
import Derived.Test.YtkcklnmbeinfkaaKdBx9
import Derived.Test.YtkcklnmbeinfkaaKdBx10
import Derived.Lib.Bytes
import Derived.Test.YtkcklnmbeinfkaaKdPBSShapeR
namespace Go.Proofs.Ytkcklnmbeinfkaa.PBS
open Go.RowKit Go.Proofs.YtkcklnmbeinfkaaW.PrintWords Go.Proofs.YtkcklnmbeinfkaaW.PrintLast Go.Proofs.YtkcklnmbeinfkaaW.PrintMore Go.Proofs.Ytkcklnmbeinfkaa.B Go.Proofs.LT Go.Proofs.Ytkcklnmbeinfkaa.PB3
set_option linter.unusedVariables false
set_option linter.unusedSimpArgs false
def s09a : List Sp := [⟨129, 130⟩]
def s09b : List Sp := [⟨64, 65⟩, ⟨128, 128⟩]
def two09 : List (List Sp) := [s09a, s09b]
theorem va09 : ValidFrom 255 (-2) (runs s09a) := ⟨by decide, by decide, by decide, by decide, trivial⟩
theorem vb09 : ValidFrom 255 (-2) (runs s09b) := ⟨by decide, by decide, by decide, by decide, ⟨by decide, by decide, by decide, by decide, trivial⟩⟩
theorem za09 : size (runs s09a) = 2 := by show size [((129 : Int), (130 : Int))] = 2; rw [size_cons, size_nil]; rfl
theorem zb09 : size (runs s09b) = 3 := by show size [((64 : Int), (65 : Int)), (128, 128)] = 3; rw [size_cons, size_cons, size_nil]; rfl
theorem cb09 : cnt (sets [s09b]) = 3 := by show cnt [runs s09b] = 3; rw [cnt_cons, zb09, cnt_nil]; rfl
theorem c09 : cnt (sets two09) = 6 := by show cnt (runs s09a :: sets [s09b]) = 6; rw [cnt_cons, za09, cb09]; rfl
theorem v09 : vShape two09 1000 = true := by
  have ha : okPart s09a = true := by simp only [okPart, (validB_iff _ _ _).2 va09]; rfl
  have hb : okPart s09b = true := by simp only [okPart, (validB_iff _ _ _).2 vb09]; rfl
  unfold vShape
  rw [c09]
  simp [two09, ha, hb]
theorem in09 : In2 two09 := ⟨by decide, fun p hp => by
  rcases List.mem_cons.1 hp with rfl | hp
  · show s09a.length * 16 ≤ 140737488351232; decide
  · rw [List.mem_singleton.1 hp]; show s09b.length * 16 ≤ 140737488351232; decide⟩
theorem ca09 : (cd (memB (runs s09a)) (130 : Int).toNat : Int) = 1 := by
  have := cd_in_first (r := ((129 : Int), (130 : Int))) (t := []) va09 (x := 130) (by decide) (by decide)
  exact this
theorem cb1_09 : (cd (memB (runs s09b)) (65 : Int).toNat : Int) = 1 := by
  have := cd_in_first (r := ((64 : Int), (65 : Int))) (t := [(128, 128)]) vb09 (x := 65) (by decide) (by decide)
  exact this
theorem cb2_09 : (cd (memB (runs s09b)) (128 : Int).toNat : Int) = 2 := by
  have := cd_past_first (r := ((64 : Int), (65 : Int))) (t := [(128, 128)]) vb09 (x := 128) (by decide)
  have h2 := cd_in_first (r := ((128 : Int), (128 : Int))) (t := []) (top := 255) (last := 65) ⟨by decide, by decide, by decide, by decide, trivial⟩ (x := 128) (by decide) (by decide)
  rw [h2] at this
  exact this
theorem ma09 : Mem (runs s09a) 130 := ⟨(129, 130), List.mem_cons_self, by decide, by decide⟩
theorem mb1_09 : Mem (runs s09b) 65 := ⟨(64, 65), List.mem_cons_self, by decide, by decide⟩
theorem mb2_09 : Mem (runs s09b) 128 := ⟨(128, 128), List.mem_cons_of_mem _ List.mem_cons_self, by decide, by decide⟩
theorem rk09 : rnk (sets two09) [130, 65] = some 4 := by
  show rnk (runs s09a :: [runs s09b]) [130, 65] = some 4
  rw [rnk_cons, if_pos (memB_iff.2 ma09), rnk_cons, if_pos (memB_iff.2 mb1_09), rnk_nil]
  simp only [Option.map_some, ca09, cb1_09, cnt_nil, show cnt [runs s09b] = 3 from cb09]
  rfl
theorem un09 : unr (sets two09) 5 = [130, 128] := by
  show unr (runs s09a :: [runs s09b]) 5 = _
  have h1 := selV_rank va09 ma09
  have h2 := selV_rank vb09 mb2_09
  rw [ca09] at h1
  rw [cb2_09] at h2
  rw [unr_cons, unr_cons, unr_nil, show cnt [runs s09b] = 3 from cb09, cnt_nil, show (5 : Int) / 3 = 1 from rfl, show (5 : Int) % 3 / 1 = 2 from rfl, h1, h2]
theorem fixed09 : Ev (fun k => leadtraillaw09_fixed.f k) true := by
  have hR := Rank_is two09 1000 [130, 65] in09 (by decide)
  rw [show rkS two09 1000 [130, 65] = (4, true) by unfold rkS; rw [if_pos v09, rk09]; rfl] at hR
  have hU := Unrank_yes (kk := 5) in09 v09 (by omega) (by rw [c09]; omega)
  rw [un09] at hU
  have hC := Count_is two09 1000 in09
  rw [if_pos v09, c09] at hC
  simp only [leadtraillaw09_fixed.f, leadtraillaw09_two.f, Option.bind_some]
  refine Ev.bind hR (Ev.bind hU (Ev.bind hC ?_))
  have e : ((strOfNums [130, 128]).toList == ([130, 128] : List UInt8)) = true := by rw [Lib.strOfNums_toList]; decide
  simp only [if_true, e]
  exact evNow _
end Go.Proofs.Ytkcklnmbeinfkaa.PBS
