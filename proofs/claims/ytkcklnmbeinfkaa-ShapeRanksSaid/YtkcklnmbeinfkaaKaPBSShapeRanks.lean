/- Words and walks of this claim, of the text PBSShapeRanks. -/
import Derived.Test.YtkcklnmbeinfkaaKaBx0
import Derived.Test.YtkcklnmbeinfkaaKaBx8
import Derived.Test.YtkcklnmbeinfkaaKaBx10
import Derived.Test.YtkcklnmbeinfkaaKaPBSShapeF
namespace Go.Proofs.Ytkcklnmbeinfkaa.PBS
open Go.RowKit Go.Proofs.YtkcklnmbeinfkaaW.PrintWords Go.Proofs.YtkcklnmbeinfkaaW.PrintLast Go.Proofs.YtkcklnmbeinfkaaW.PrintMore Go.Proofs.Ytkcklnmbeinfkaa.B Go.Proofs.LT Go.Proofs.Ytkcklnmbeinfkaa.PB3
set_option linter.unusedVariables false
set_option linter.unusedSimpArgs false
noncomputable def cntS (ps : List (List Sp)) (a : Int) : Int := if vShape ps a = true then cnt (sets ps) else 0
noncomputable def okB (ps : List (List Sp)) (a k : Int) : Bool := decide (0 ≤ k ∧ k < cntS ps a)
noncomputable def unS (ps : List (List Sp)) (a k : Int) : List Int := if okB ps a k = true then unr (sets ps) k else []
theorem okB_of {ps : List (List Sp)} {a k : Int} (h : okB ps a k = true) : vShape ps a = true ∧ 0 ≤ k ∧ k < cnt (sets ps) := by
  have h := of_decide_eq_true h
  by_cases hv : vShape ps a = true
  · have e : cntS ps a = cnt (sets ps) := if_pos hv
    exact ⟨hv, h.1, by omega⟩
  · have e : cntS ps a = 0 := if_neg hv
    omega
theorem Unrank_is (ps : List (List Sp)) (a k : Int) (hI : In2 ps) : Ev (fun n => shape_Unrank.f n ps a k) (unS ps a k, okB ps a k) := by
  cases h : okB ps a k
  · have := Unrank_no ps a k hI (of_decide_eq_false h)
    simpa [unS, h] using this
  · obtain ⟨hv, h0, h1⟩ := okB_of h
    have := Unrank_yes hI hv h0 h1
    simpa [unS, h] using this
theorem unS_range (ps : List (List Sp)) (a k : Int) : ∀ x ∈ unS ps a k, 0 ≤ x ∧ x ≤ 255 := by
  cases h : okB ps a k
  · intro x hx; simp [unS, h] at hx
  · obtain ⟨hv, h0, h1⟩ := okB_of h
    simp only [unS, h, if_true]
    exact unr_range (vShape_good hv).2.2.2.1 h0 h1
theorem leadtraillaw09_ShapeRanks_j (ps : List (List Sp)) (a j k : Int) (hI : In2 ps) : Ev (fun n => leadtraillaw09_ShapeRanks.j0 n j k (unS ps a j) (okB ps a j) (unS ps a k) (okB ps a k) false ps a) true := by
  refine evSucc ?_
  simp only [leadtraillaw09_ShapeRanks.j0, Bool.false_eq_true, if_false]
  cases hj : okB ps a j
  · simp only [Bool.false_eq_true, if_false]; exact evNow _
  · obtain ⟨hv, h0, h1⟩ := okB_of hj
    obtain ⟨_, _, hk, hg, _⟩ := vShape_good hv
    have hR := Rank_is ps a (unS ps a j) hI (unS_range ps a j)
    have eu : unS ps a j = unr (sets ps) j := by simp only [unS, hj, if_true]
    rw [show rkS ps a (unS ps a j) = (j, true) by unfold rkS; rw [if_pos hv, eu, rnk_unr hg h0 h1]; rfl] at hR
    simp only [if_true]
    refine Ev.bind hR ?_
    simp only [if_true, if_pos (show ((unS ps a j).length : Int) = (ps.length : Int) by rw [eu, unr_len, sets_len])]
    cases hk2 : okB ps a k
    · simp only [Bool.false_eq_true, if_false]; exact evNow _
    · obtain ⟨_, k0, k1⟩ := okB_of hk2
      have eu2 : unS ps a k = unr (sets ps) k := by simp only [unS, hk2, if_true]
      simp only [if_true, Lib.strOfNums_toList, less_is _ _ (unS_range ps a j) (unS_range ps a k)]
      rw [eu, eu2, lex_unr hg h0 h1 k0 k1, beq_self_eq_true]
      exact evNow _
theorem leadtraillaw09_ShapeRanks_ev (ps : List (List Sp)) (a j k : Int) (hI : In2 ps) : Ev (fun n => leadtraillaw09_ShapeRanks.f n ps a j k) true := by
  simp only [leadtraillaw09_ShapeRanks.f]
  refine Ev.bind fixed09 ?_
  simp only [if_true]
  refine Ev.bind (show Ev _ (cntS ps a) from Count_is ps a hI) (Ev.bind (Unrank_is ps a j hI) (Ev.bind (Unrank_is ps a k hI) ?_))
  have q : ∀ x : Int, x ≥ 0 → (okB ps a x != decide (x < cntS ps a)) = false := fun x hx => by
    unfold okB
    rw [show decide (0 ≤ x ∧ x < cntS ps a) = decide (x < cntS ps a) from decide_eq_decide.2 ⟨fun h => h.2, fun h => ⟨hx, h⟩⟩, bne_self_eq_false]
  have q2 : ∀ x : Int, ¬ x ≥ 0 → (okB ps a x != false) = false := fun x hx => by
    rw [show okB ps a x = false from decide_eq_false (by omega)]; rfl
  have J := leadtraillaw09_ShapeRanks_j ps a j k hI
  by_cases c : j ≥ 0
  · simp only [if_pos c, q j c, Bool.false_eq_true, if_false]
    by_cases d : k ≥ 0
    · simp only [if_pos d, q k d]; exact J
    · simp only [if_neg d, q2 k d]; exact J
  · simp only [if_neg c, q2 j c, Bool.false_eq_true, if_false]
    by_cases d : k ≥ 0
    · simp only [if_pos d, q k d]; exact J
    · simp only [if_neg d, q2 k d]; exact J
end Go.Proofs.Ytkcklnmbeinfkaa.PBS
namespace Go.Proofs.Ytkcklnmbeinfkaa.Pure
open Go.Proofs.Ytkcklnmbeinfkaa.B Go.Proofs.YtkcklnmbeinfkaaW.PrintWords
theorem ShapeRanks : ∀ (l0_0 : List (List S113)) (a0_1 : Int) (a1 : Int) (a2 : Int), (l0_0.length * 24 ≤ 140737488351232 ∧ ∀ x ∈ l0_0, (x.length * 16 ≤ 140737488351232 ∧ ∀ y ∈ x, ((Lit.int .i64 y.f0).wf = true ∧ (Lit.int .i64 y.f1).wf = true))) → (Lit.int .i64 a0_1).wf = true → (Lit.int .i64 a1).wf = true → (Lit.int .i64 a2).wf = true → ∃ k, leadtraillaw09_ShapeRanks.f k l0_0 a0_1 a1 a2 = some true :=
  fun l0 a a1 a2 h _ _ _ => Ev.rounds (PBS.leadtraillaw09_ShapeRanks_ev l0 a a1 a2 ⟨h.1, fun x hx => (h.2 x hx).1⟩)
end Go.Proofs.Ytkcklnmbeinfkaa.Pure
