/- Words and walks of this claim, of the text PBSShapeC. -/
import Derived.Test.YtkcklnmbeinfkaaKcBx0
import Derived.Test.YtkcklnmbeinfkaaKcBx19
import Derived.Test.YtkcklnmbeinfkaaKcBx20
import Derived.Test.YtkcklnmbeinfkaaKcBx13
import Derived.Test.YtkcklnmbeinfkaaKcBx14
import Derived.Test.YtkcklnmbeinfkaaKcBx2
import Derived.Test.YtkcklnmbeinfkaaKcBx12
import Derived.Test.YtkcklnmbeinfkaaKcPBSShapeA
import Derived.Test.YtkcklnmbeinfkaaKcBx8
import Derived.Test.YtkcklnmbeinfkaaKcBx10
import Derived.Test.YtkcklnmbeinfkaaKcPBSShapeF
import Derived.Test.YtkcklnmbeinfkaaKcPB3Sets2
import Derived.Test.YtkcklnmbeinfkaaKcCodes
namespace Go.Proofs.Ytkcklnmbeinfkaa.PBS
open Go.RowKit Go.Proofs.YtkcklnmbeinfkaaW.PrintWords Go.Proofs.YtkcklnmbeinfkaaW.PrintLast Go.Proofs.YtkcklnmbeinfkaaW.PrintMore Go.Proofs.Ytkcklnmbeinfkaa.B Go.Proofs.LT Go.Proofs.Ytkcklnmbeinfkaa.PB3
set_option linter.unusedVariables false
set_option linter.unusedSimpArgs false
open Classical in
noncomputable def comO (n : Nat) (p q : List (List Run)) : Option (List Int) := if h : ∃ b, Com n p q b then some (Classical.choose h) else none
theorem comO_of {n : Nat} {p q : List (List Run)} {b : List Int} (h : Com n p q b) : comO n p q = some b := by
  have h' : ∃ b, Com n p q b := ⟨b, h⟩
  unfold comO
  rw [dif_pos h', Com.uniq (Classical.choose_spec h') h]
theorem comO_some {n : Nat} {p q : List (List Run)} {b : List Int} (h : comO n p q = some b) : Com n p q b := by
  unfold comO at h
  split at h
  · rename_i h'
    obtain rfl := Option.some.inj h
    exact Classical.choose_spec h'
  · cases h
theorem comO_none {n : Nat} {p q : List (List Run)} (h : comO n p q = none) (b : List Int) : ¬ Com n p q b := fun hb => by rw [comO_of hb] at h; cases h
theorem comO_no {n : Nat} {p q : List (List Run)} (h : ∀ b, ¬ Com n p q b) : comO n p q = none := by
  cases e : comO n p q with
  | none => rfl
  | some b => exact (h b (comO_some e)).elim
theorem comO_zero (p q : List (List Run)) : comO 0 p q = some [] := comO_of (show Com 0 p q [] from rfl)
theorem comO_yes {n : Nat} {s t : List Run} {p q : List (List Run)} {x : Int} (h1 : Mem s x) (h2 : Mem t x) (h3 : ∀ y, Mem s y → Mem t y → x ≤ y) : comO (n + 1) (s :: p) (t :: q) = (comO n p q).map (x :: ·) := by
  cases e : comO n p q with
  | none =>
    refine comO_no fun b hb => ?_
    cases b with
    | nil => exact hb.elim
    | cons y b => exact comO_none e b hb.2.2.2
  | some b => exact comO_of ⟨h1, h2, h3, comO_some e⟩
theorem comO_bar {n : Nat} {s t : List Run} {p q : List (List Run)} (h : ∀ y, Mem s y → ¬ Mem t y) : comO (n + 1) (s :: p) (t :: q) = none :=
  comO_no fun b hb => by
    cases b with
    | nil => exact hb.elim
    | cons y b => exact h y hb.1 hb.2.1
theorem comO_symm (n : Nat) (p q : List (List Run)) : comO n p q = comO n q p := by
  cases e : comO n q p with
  | none => exact comO_no fun b hb => comO_none e b hb.symm
  | some b => exact comO_of (comO_some e).symm
def cmR (out : List Int) : Option (List Int) → List Int × Bool
  | some b => (out ++ b, true)
  | none => ([], false)
theorem cmR_cons (out : List Int) (x : Int) (r : Option (List Int)) : cmR (out ++ [x]) r = cmR out (r.map (x :: ·)) := by
  cases r with
  | none => rfl
  | some b => simp [cmR]
theorem common_loop (ps qs : List (List Sp)) (a c : Int) (hI : In2 ps) (hJ : In2 qs) (hk : ps.all okPart = true) (hk2 : qs.all okPart = true) (m : Nat) (hm : m ≤ ps.length) (hm2 : m ≤ qs.length) (hl : m ≤ 8) : ∀ (n i : Nat) (out : List Int), i + n = m → out.length = i →
    Ev (fun k => shape_Common.l0 k out (m : Int) (i : Int) ps a qs c) (cmR out (comO n (sets (ps.drop i)) (sets (qs.drop i))))
  | 0, i, out, hi, ho => by
    refine evSucc ?_
    simp only [shape_Common.l0, if_neg (show ¬ (i : Int) < (m : Int) by omega)]
    rw [comO_zero]
    simpa [cmR] using evNow (out, true)
  | n + 1, i, out, hi, ho => by
    have hil : i < ps.length := by omega
    have hjl : i < qs.length := by omega
    have hp := okPart_good (good_part hk hil)
    have hq := okPart_good (good_part hk2 hjl)
    obtain ⟨t, t1, t2⟩ := spans_Meet_is ps[i] qs[i] (hI.2 _ (List.getElem_mem _)) (hJ.2 _ (List.getElem_mem _))
    rw [show ps[i].map L113 = runs ps[i] from rfl, show qs[i].map L113 = runs qs[i] from rfl, setL_of hp.1, setL_of hq.1] at t2
    have hw2 : Aside0 (wrap64 ((i : Int) + 1) = ((i + 1 : Nat) : Int)) := Aside0.mk (by rw [w64 (by omega) (by omega)]; simp)
    rw [show sets (ps.drop i) = runs ps[i] :: sets (ps.drop (i + 1)) by rw [List.drop_eq_getElem_cons hil]; rfl, show sets (qs.drop i) = runs qs[i] :: sets (qs.drop (i + 1)) by rw [List.drop_eq_getElem_cons hjl]; rfl]
    refine evSucc ?_
    simp only [shape_Common.l0, if_pos (show (i : Int) < (m : Int) by omega), if_pos (show (0 : Int) ≤ (i : Int) by omega), if_pos (show (i : Int) < ((ps.length : Nat) : Int) by omega), if_pos (show (i : Int) < ((qs.length : Nat) : Int) by omega), rdL_at ps i hil, rdL_at qs i hjl]
    refine Ev.bind t1 ?_
    cases t with
    | nil =>
      simp only [List.length_nil, if_pos (show ((0 : Nat) : Int) = 0 by omega)]
      rw [comO_bar (fun y h1 h2 => Mem.nil ((t2.2.2 y).2 ⟨h1, h2⟩))]
      exact evNow _
    | cons r u =>
      have hr := t2.1
      have hmem : Mem ((r :: u).map L113) r.f0 := ⟨L113 r, List.mem_cons_self, Int.le_refl _, hr.2.1⟩
      have hb := (t2.2.2 r.f0).1 hmem
      have hrg := hr.range hmem
      have hlow : ∀ y, Mem (runs ps[i]) y → Mem (runs qs[i]) y → r.f0 ≤ y := fun y h1 h2 => by
        rcases mem_cons.1 ((t2.2.2 y).2 ⟨h1, h2⟩) with h | h
        · exact h.1
        · have h3 : (L113 r).2 + 1 < y := ValidFrom.gt hr.2.2.2.2 h
          have h4 : (L113 r).1 ≤ (L113 r).2 := hr.2.1
          have h5 : (L113 r).1 = r.f0 := rfl
          omega
      have hrd : (rd_T113 (r :: u) 0).f0 = r.f0 := rfl
      have hmod : r.f0 % 256 = r.f0 := Int.emod_eq_of_lt hrg.1 (by omega)
      have ih := common_loop ps qs a c hI hJ hk hk2 m hm hm2 hl n (i + 1) (out ++ [r.f0]) (by omega) (by simp [ho])
      rw [comO_yes hb.1 hb.2 hlow, ← cmR_cons]
      simp only [List.length_cons, if_neg (show ¬ ((u.length + 1 : Nat) : Int) = 0 by omega), if_pos (show (0 : Int) < ((u.length + 1 : Nat) : Int) by omega), if_pos (show out.length < 140737488355328 by omega), hrd, hmod, hw2.out]
      exact ih
theorem refCommon_loop (ps qs : List (List Sp)) (a c : Int) (hI : In2 ps) (hJ : In2 qs) (hk : ps.all okPart = true) (hk2 : qs.all okPart = true) (m : Nat) (hm : m ≤ ps.length) (hm2 : m ≤ qs.length) (hl : m ≤ 8) : ∀ (n i : Nat) (out : List Int), i + n = m → out.length = i →
    Ev (fun k => leadtrailref09_Common.l0 k (m : Int) out (i : Int) ps a qs c) (cmR out (comO n (sets (ps.drop i)) (sets (qs.drop i))))
  | 0, i, out, hi, ho => by
    refine evSucc ?_
    simp only [leadtrailref09_Common.l0, if_neg (show ¬ (i : Int) < (m : Int) by omega)]
    rw [comO_zero]
    simpa [cmR] using evNow (out, true)
  | n + 1, i, out, hi, ho => by
    have hil : i < ps.length := by omega
    have hjl : i < qs.length := by omega
    have hp := okPart_good (good_part hk hil)
    have hq := okPart_good (good_part hk2 hjl)
    have hw2 : Aside0 (wrap64 ((i : Int) + 1) = ((i + 1 : Nat) : Int)) := Aside0.mk (by rw [w64 (by omega) (by omega)]; simp)
    have es : sets (ps.drop i) = runs ps[i] :: sets (ps.drop (i + 1)) := by rw [List.drop_eq_getElem_cons hil]; rfl
    have et : sets (qs.drop i) = runs qs[i] :: sets (qs.drop (i + 1)) := by rw [List.drop_eq_getElem_cons hjl]; rfl
    have inner : ∀ (f x : Nat), x + f = 256 → (∀ y : Int, y < x → Mem (runs ps[i]) y → ¬ Mem (runs qs[i]) y) →
        Ev (fun k => leadtrailref09_Common.l1 k (m : Int) out (i : Int) (x : Int) ps a qs c) (cmR out (comO (n + 1) (sets (ps.drop i)) (sets (qs.drop i)))) := fun f => by
      induction f with
      | zero =>
        intro x hx hno
        refine evSucc ?_
        have e : comO (n + 1) (sets (ps.drop i)) (sets (qs.drop i)) = none := by
          rw [es, et]
          exact comO_bar fun y h1 h2 => hno y (by have := hp.1.range h1; omega) h1 h2
        rw [e]
        simp only [leadtrailref09_Common.l1, if_neg (show ¬ (x : Int) < 256 by omega), if_pos (show (x : Int) = 256 by omega)]
        exact evNow _
      | succ f ihf =>
        intro x hx hno
        have h1 := refHas_is ps[i] (x : Int) (hI.2 _ (List.getElem_mem _))
        rw [show ps[i].map L113 = runs ps[i] from rfl, setL_of hp.1] at h1
        have h2 := refHas_is qs[i] (x : Int) (hJ.2 _ (List.getElem_mem _))
        rw [show qs[i].map L113 = runs qs[i] from rfl, setL_of hq.1] at h2
        have hw : Aside0 (wrap64 ((x : Int) + 1) = ((x + 1 : Nat) : Int)) := Aside0.mk (by rw [w64 (by omega) (by omega)]; simp)
        refine evSucc ?_
        simp only [leadtrailref09_Common.l1, if_pos (show (x : Int) < 256 by omega), if_pos (show (0 : Int) ≤ (i : Int) by omega), if_pos (show (i : Int) < ((ps.length : Nat) : Int) by omega), rdL_at ps i hil]
        refine Ev.bind h1 ?_
        have next : ¬ (Mem (runs ps[i]) x ∧ Mem (runs qs[i]) x) → Ev (fun k => leadtrailref09_Common.l1 k (m : Int) out (i : Int) (wrap64 ((x : Int) + 1)) ps a qs c) (cmR out (comO (n + 1) (sets (ps.drop i)) (sets (qs.drop i)))) := fun hne => by
          rw [hw.out]
          refine ihf (x + 1) (by omega) fun y hy h3 h4 => ?_
          rcases (by omega : y < x ∨ y = x) with h5 | h5
          · exact hno y h5 h3 h4
          · subst h5; exact hne ⟨h3, h4⟩
        cases c1 : memB (runs ps[i]) x
        · simp only [Bool.false_eq_true, if_false]
          exact next fun h => by rw [memB_iff.2 h.1] at c1; cases c1
        · simp only [if_true, if_pos (show (i : Int) < ((qs.length : Nat) : Int) by omega), rdL_at qs i hjl]
          refine Ev.bind h2 ?_
          cases c2 : memB (runs qs[i]) x
          · simp only [Bool.false_eq_true, if_false]
            exact next fun h => by rw [memB_iff.2 h.2] at c2; cases c2
          · have hmod : (x : Int) % 256 = x := Int.emod_eq_of_lt (by omega) (by omega)
            have ih := refCommon_loop ps qs a c hI hJ hk hk2 m hm hm2 hl n (i + 1) (out ++ [(x : Int)]) (by omega) (by simp [ho])
            rw [es, et, comO_yes (memB_iff.1 c1) (memB_iff.1 c2) (fun y h3 h4 => by
              rcases (by omega : y < x ∨ (x : Int) ≤ y) with h5 | h5
              · exact (hno y h5 h3 h4).elim
              · exact h5), ← cmR_cons]
            simp only [if_true, if_neg (show ¬ (x : Int) = 256 by omega), if_pos (show out.length < 140737488355328 by omega), hmod, hw2.out]
            exact ih
    refine evSucc ?_
    simp only [leadtrailref09_Common.l0, if_pos (show (i : Int) < (m : Int) by omega)]
    exact inner 256 0 (by omega) fun y hy h1 _ => by have := hp.1.range h1; omega
open Classical in
noncomputable def cmS (ps : List (List Sp)) (a : Int) (qs : List (List Sp)) (c n : Int) : List Int × Bool :=
  if vShape ps a = true ∧ vShape qs c = true ∧ 0 ≤ n ∧ n ≤ ps.length ∧ n ≤ qs.length then cmR [] (comO n.toNat (sets ps) (sets qs)) else ([], false)
theorem cmS_symm (ps : List (List Sp)) (a : Int) (qs : List (List Sp)) (c n : Int) : cmS ps a qs c n = cmS qs c ps a n := by
  unfold cmS
  rw [comO_symm]
  by_cases h : vShape ps a = true ∧ vShape qs c = true ∧ 0 ≤ n ∧ n ≤ ps.length ∧ n ≤ qs.length
  · rw [if_pos h, if_pos ⟨h.2.1, h.1, h.2.2.1, h.2.2.2.2, h.2.2.2.1⟩]
  · rw [if_neg h, if_neg fun h' => h ⟨h'.2.1, h'.1, h'.2.2.1, h'.2.2.2.2, h'.2.2.2.1⟩]
theorem Common_is (ps : List (List Sp)) (a : Int) (qs : List (List Sp)) (c n : Int) (hI : In2 ps) (hJ : In2 qs) : Ev (fun k => shape_Common.f k ps a qs c n) (cmS ps a qs c n) := by
  have jT : Ev (fun k => shape_Common.j0 k n true ps a qs c) ([], false) := by
    refine evSucc ?_
    simp only [shape_Common.j0, if_true]; exact evNow _
  simp only [shape_Common.f]
  refine Ev.bind (shapeValid_is ps a hI) ?_
  cases hv : vShape ps a
  · simp only [Bool.false_eq_true, if_false, cmS, hv, false_and]; exact jT
  simp only [if_true]
  refine Ev.bind (shapeValid_is qs c hJ) ?_
  cases hv2 : vShape qs c
  · simp only [Bool.false_eq_true, if_false, cmS, hv2, false_and, and_false]; exact jT
  simp only [if_true, cmS, hv, hv2, true_and, mn_eq]
  by_cases c0 : n < 0
  · simp only [if_pos c0, if_neg (show ¬ (0 ≤ n ∧ n ≤ (ps.length : Int) ∧ n ≤ (qs.length : Int)) by omega)]; exact jT
  simp only [if_neg c0]
  by_cases c1 : n ≤ ps.length ∧ n ≤ qs.length
  · obtain ⟨⟨l1, l2⟩, _, hk, hg, hc⟩ := vShape_good hv
    obtain ⟨⟨l3, l4⟩, _, hk2, hg2, hc2⟩ := vShape_good hv2
    rw [decide_eq_false (show ¬ n > min (ps.length : Int) (qs.length : Int) by omega), if_pos ⟨by omega, c1⟩]
    refine evSucc ?_
    simp only [shape_Common.j0, Bool.false_eq_true, if_false]
    obtain ⟨m, rfl⟩ := Int.eq_ofNat_of_zero_le (show 0 ≤ n by omega)
    simpa using common_loop ps qs a c hI hJ hk hk2 m (by omega) (by omega) (by omega) m 0 [] (by omega) rfl
  · rw [decide_eq_true (show n > min (ps.length : Int) (qs.length : Int) by omega), if_neg (by omega)]
    exact jT
theorem refCommon_is (ps : List (List Sp)) (a : Int) (qs : List (List Sp)) (c n : Int) (hI : In2 ps) (hJ : In2 qs) : Ev (fun k => leadtrailref09_Common.f k ps a qs c n) (cmS ps a qs c n) := by
  have jT : Ev (fun k => leadtrailref09_Common.j0 k n true ps a qs c) ([], false) := by
    refine evSucc ?_
    simp only [leadtrailref09_Common.j0, if_true]; exact evNow _
  simp only [leadtrailref09_Common.f]
  refine Ev.bind (refCount_is ps a hI) ?_
  cases hv : vShape ps a
  · simp only [Bool.false_eq_true, if_false, if_true, cmS, hv, false_and]; exact jT
  obtain ⟨⟨l1, l2⟩, _, hk, hg, hc⟩ := vShape_good hv
  have hpos := cnt_pos hg
  simp only [if_true, if_neg (show ¬ cnt (sets ps) = 0 by omega)]
  refine Ev.bind (refCount_is qs c hJ) ?_
  cases hv2 : vShape qs c
  · simp only [Bool.false_eq_true, if_false, if_true, cmS, hv2, false_and, and_false]; exact jT
  obtain ⟨⟨l3, l4⟩, _, hk2, hg2, hc2⟩ := vShape_good hv2
  have hpos2 := cnt_pos hg2
  simp only [if_true, if_neg (show ¬ cnt (sets qs) = 0 by omega), cmS, hv, hv2, true_and]
  by_cases c0 : n < 0
  · simp only [if_pos c0, if_neg (show ¬ (0 ≤ n ∧ n ≤ (ps.length : Int) ∧ n ≤ (qs.length : Int)) by omega)]; exact jT
  simp only [if_neg c0]
  by_cases c1 : n > ps.length
  · simp only [if_pos c1, if_neg (show ¬ (0 ≤ n ∧ n ≤ (ps.length : Int) ∧ n ≤ (qs.length : Int)) by omega)]; exact jT
  simp only [if_neg c1]
  by_cases c2 : n > qs.length
  · simp only [decide_eq_true c2, if_neg (show ¬ (0 ≤ n ∧ n ≤ (ps.length : Int) ∧ n ≤ (qs.length : Int)) by omega)]; exact jT
  · simp only [decide_eq_false c2, if_pos (show (0 ≤ n ∧ n ≤ (ps.length : Int) ∧ n ≤ (qs.length : Int)) by omega)]
    refine evSucc ?_
    simp only [leadtrailref09_Common.j0, Bool.false_eq_true, if_false]
    obtain ⟨m, rfl⟩ := Int.eq_ofNat_of_zero_le (show 0 ≤ n by omega)
    simpa using refCommon_loop ps qs a c hI hJ hk hk2 m (by omega) (by omega) (by omega) m 0 [] (by omega) rfl
end Go.Proofs.Ytkcklnmbeinfkaa.PBS
