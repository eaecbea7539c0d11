/- Words and walks of this claim, of the text PBSShapeA. -/
import Derived.Test.YtkcklnmbeinfkaaKdBx10
import Derived.Test.YtkcklnmbeinfkaaKdBx11
import Derived.Test.YtkcklnmbeinfkaaKdBx12
import Derived.Test.YtkcklnmbeinfkaaKdBx13
import Derived.Test.YtkcklnmbeinfkaaKdPBSShapeF
import Derived.Test.YtkcklnmbeinfkaaKdPB3Ref03
import Derived.Test.YtkcklnmbeinfkaaKdPB3Same
namespace Go.Proofs.Ytkcklnmbeinfkaa.PBS
open Go.RowKit Go.Proofs.YtkcklnmbeinfkaaW.PrintWords Go.Proofs.YtkcklnmbeinfkaaW.PrintLast Go.Proofs.YtkcklnmbeinfkaaW.PrintMore Go.Proofs.Ytkcklnmbeinfkaa.B Go.Proofs.LT Go.Proofs.Ytkcklnmbeinfkaa.PB3
set_option linter.unusedVariables false
set_option linter.unusedSimpArgs false
theorem copy_loop (ps : List (List Sp)) (a : Int) (hI : In2 ps) : ∀ (n i : Nat), i + n = ps.length → Ev (fun k => leadtrailref08_CopyShape.l0 k (i : Int) ps a (ps.take i) a) (ps, a)
  | 0, i, hi => by
    refine evSucc ?_
    simp only [leadtrailref08_CopyShape.l0, if_neg (show ¬ (i : Int) < (ps.length : Int) by omega)]
    rw [List.take_of_length_le (by omega)]
    exact evNow _
  | n + 1, i, hi => by
    have hil : i < ps.length := by omega
    have ih := copy_loop ps a hI n (i + 1) (by omega)
    have h1 := hI.2 _ (List.getElem_mem hil)
    have h2 := hI.1
    unfold In1 at h1
    have hw : Aside0 (wrap64 ((i : Int) + 1) = ((i + 1 : Nat) : Int)) := Aside0.mk (by rw [w64 (by omega) (by omega)]; rfl)
    have e : ps.take i ++ [([] : List Sp) ++ ps[i]] = ps.take (i + 1) := by rw [List.nil_append, List.take_succ_eq_append_getElem hil]
    refine evSucc ?_
    simp only [leadtrailref08_CopyShape.l0, if_pos (show (i : Int) < (ps.length : Int) by omega), Option.bind_some, if_pos (show (0 : Int) ≤ (i : Int) by omega), rdL_at ps i hil, List.length_nil, if_pos (show 0 + (ps[i]).length < 8796093022208 by omega), if_pos (show (ps.take i).length < 5864062014805 by rw [List.length_take]; omega), hw.out, e]
    exact ih
theorem Copy_is (ps : List (List Sp)) (a : Int) (hI : In2 ps) : Ev (fun k => leadtrailref08_CopyShape.f k ps a) (ps, a) := by
  have := copy_loop ps a hI ps.length 0 (by omega)
  rw [List.take_zero] at this
  exact this
theorem refSize_at (p : List Sp) (hp : In1 p) (h : okPart p = true) : Ev (fun k => leadtrailref03_Size.f k p) (size (runs p)) := by
  have := refSize_is p hp
  rwa [show p.map L113 = runs p from rfl, setL_of (okPart_good h).1] at this
theorem refCount_loop (ps : List (List Sp)) (a : Int) (hI : In2 ps) (hk : ps.all okPart = true) (hl : ps.length ≤ 8) : ∀ (n i : Nat) (m : Int), i + n = ps.length → 1 ≤ m → m ≤ 1073741825 →
    Ev (fun k => leadtrailref08_Count.l0 k m (i : Int) ps a) (capd m (ps.drop i))
  | 0, i, m, hi, _, _ => by
    refine evSucc ?_
    simp only [leadtrailref08_Count.l0, if_neg (show ¬ (i : Int) < (ps.length : Int) by omega)]
    rw [List.drop_of_length_le (by omega)]
    exact evNow _
  | n + 1, i, m, hi, h0, h1 => by
    have hil : i < ps.length := by omega
    have hp := good_part hk hil
    have hs := okPart_good hp
    have hz := size_256 hs.1
    have hb : 1 ≤ m * size (runs ps[i]) := by have := Int.mul_le_mul h0 hs.2 (by omega) (by omega); omega
    have hc : m * size (runs ps[i]) ≤ 1073741825 * 256 := Int.mul_le_mul h1 hz (by omega) (by omega)
    have hw : Aside0 (wrap64 (m * size (runs ps[i])) = m * size (runs ps[i])) := Aside0.mk (w64 (by omega) (by omega))
    have hw2 : Aside0 (wrap64 ((i : Int) + 1) = ((i + 1 : Nat) : Int)) := Aside0.mk (by rw [w64 (by omega) (by omega)]; rfl)
    have e : capd m (ps.drop i) = capd (min (m * size (runs ps[i])) 1073741825) (ps.drop (i + 1)) := by rw [List.drop_eq_getElem_cons hil]; rfl
    refine evSucc ?_
    simp only [leadtrailref08_Count.l0, if_pos (show (i : Int) < (ps.length : Int) by omega), if_pos (show (0 : Int) ≤ (i : Int) by omega), rdL_at ps i hil]
    refine Ev.bind (refSize_at _ (hI.2 _ (List.getElem_mem _)) hp) ?_
    simp only [hw.out, hw2.out]
    rw [e]
    by_cases c : m * size (runs ps[i]) > 1073741824
    · simp only [if_pos c]
      rw [show min (m * size (runs ps[i])) 1073741825 = 1073741825 by omega]
      exact refCount_loop ps a hI hk hl n (i + 1) _ (by omega) (by omega) (by omega)
    · simp only [if_neg c]
      rw [show min (m * size (runs ps[i])) 1073741825 = m * size (runs ps[i]) by omega]
      exact refCount_loop ps a hI hk hl n (i + 1) _ (by omega) (by omega) (by omega)
theorem refCount8_is (ps : List (List Sp)) (a : Int) (hI : In2 ps) (hk : ps.all okPart = true) (hl : ps.length ≤ 8) : Ev (fun k => leadtrailref08_Count.f k ps a) (min (cnt (sets ps)) 1073741825) := by
  have := refCount_loop ps a hI hk hl ps.length 0 1 (by omega) (by omega) (by omega)
  rw [List.drop_zero, capd_is ps 1 hk (by omega) (by omega), Int.one_mul] at this
  exact this
theorem refVShape_loop (ps : List (List Sp)) (a : Int) (hI : In2 ps) (hl : ps.length ≤ 8) (a0 : 0 ≤ a) (a1 : a ≤ 1073741823) : ∀ (n i : Nat), i + n = ps.length → (ps.take i).all okPart = true →
    Ev (fun k => leadtrailref08_ValidShape.l0 k (i : Int) ps a) (ps.all okPart && decide (a + cnt (sets ps) - 1 ≤ 1073741823))
  | 0, i, hi, hk => by
    rw [List.take_of_length_le (by omega)] at hk
    have hc := cnt_pos (good_of hk)
    refine evSucc ?_
    simp only [leadtrailref08_ValidShape.l0, if_neg (show ¬ (i : Int) < (ps.length : Int) by omega)]
    refine Ev.bind (refCount8_is ps a hI hk hl) ?_
    rw [hk, Bool.true_and, w64 (x := a + min (cnt (sets ps)) 1073741825) (by omega) (by omega), w64 (by omega) (by omega), show decide (a + min (cnt (sets ps)) 1073741825 - 1 ≤ 1073741823) = decide (a + cnt (sets ps) - 1 ≤ 1073741823) from decide_eq_decide.2 (by omega)]
    exact evNow _
  | n + 1, i, hi, hk => by
    have hil : i < ps.length := by omega
    have hw2 : Aside0 (wrap64 ((i : Int) + 1) = ((i + 1 : Nat) : Int)) := Aside0.mk (by rw [w64 (by omega) (by omega)]; rfl)
    have hbad : okPart ps[i] = false → ps.all okPart = false := fun h => by
      cases q : ps.all okPart
      · rfl
      · rw [good_part q hil] at h; cases h
    refine evSucc ?_
    simp only [leadtrailref08_ValidShape.l0, if_pos (show (i : Int) < (ps.length : Int) by omega), if_pos (show (0 : Int) ≤ (i : Int) by omega), rdL_at ps i hil]
    by_cases c : ((ps[i]).length : Int) = 0
    · simp only [if_pos c]
      rw [hbad (by simp only [okPart, decide_eq_true (show (ps[i]).length = 0 by omega)]; rfl), Bool.false_and]
      exact evNow _
    · simp only [if_neg c]
      have e : okPart ps[i] = validB 255 (-2) (runs ps[i]) := by simp only [okPart, decide_eq_false (show ¬ (ps[i]).length = 0 by omega)]; rfl
      refine Ev.bind (refValid_is ps[i] (hI.2 _ (List.getElem_mem _))) ?_
      rw [show (ps[i]).map L113 = runs ps[i] from rfl, ← e]
      cases q : okPart ps[i]
      · simp only [Bool.false_eq_true, if_false]
        rw [hbad q, Bool.false_and]
        exact evNow _
      · simp only [if_true, hw2.out]
        refine refVShape_loop ps a hI hl a0 a1 n (i + 1) (by omega) ?_
        rw [List.take_succ_eq_append_getElem hil, List.all_append, hk]
        simp [q]
theorem refVShape_is (ps : List (List Sp)) (a : Int) (hI : In2 ps) : Ev (fun k => leadtrailref08_ValidShape.f k ps a) (vShape ps a) := by
  have jT : Ev (fun k => leadtrailref08_ValidShape.j0 k true ps a) false := by
    refine evSucc ?_
    simp only [leadtrailref08_ValidShape.j0, if_true]; exact evNow _
  simp only [leadtrailref08_ValidShape.f]
  by_cases c1 : (ps.length : Int) < 1
  · simp only [if_pos c1, vShape, decide_eq_false (show ¬ (1 ≤ ps.length ∧ ps.length ≤ 8) by omega), Bool.false_and]; exact jT
  by_cases c2 : (ps.length : Int) > 8
  · simp only [if_neg c1, if_pos c2, vShape, decide_eq_false (show ¬ (1 ≤ ps.length ∧ ps.length ≤ 8) by omega), Bool.false_and]; exact jT
  simp only [if_neg c1, if_neg c2, vShape, decide_eq_true (show 1 ≤ ps.length ∧ ps.length ≤ 8 by omega), Bool.true_and]
  by_cases c3 : a < 0
  · simp only [if_pos c3, decide_eq_false (show ¬ (0 ≤ a ∧ a ≤ 1073741823) by omega), Bool.false_and]; exact jT
  by_cases c4 : a > 1073741823
  · simp only [if_neg c3, decide_eq_true c4, decide_eq_false (show ¬ (0 ≤ a ∧ a ≤ 1073741823) by omega), Bool.false_and]; exact jT
  simp only [if_neg c3, decide_eq_false c4, decide_eq_true (show 0 ≤ a ∧ a ≤ 1073741823 by omega), Bool.true_and]
  refine evSucc ?_
  simp only [leadtrailref08_ValidShape.j0, Bool.false_eq_true, if_false]
  exact refVShape_loop ps a hI (by omega) (by omega) (by omega) ps.length 0 (by omega) rfl
theorem refCount_is (ps : List (List Sp)) (a : Int) (hI : In2 ps) : Ev (fun k => leadtrailref09_Count.f k ps a) (if vShape ps a = true then cnt (sets ps) else 0) := by
  simp only [leadtrailref09_Count.f]
  refine Ev.bind (refVShape_is ps a hI) ?_
  cases hv : vShape ps a
  · simp only [Bool.false_eq_true, if_false]; exact evNow _
  · simp only [if_true]
    obtain ⟨⟨l1, l2⟩, ⟨a1, a2⟩, hk, hg, hc⟩ := vShape_good hv
    have := refCount8_is ps a hI hk l2
    rw [show min (cnt (sets ps)) 1073741825 = cnt (sets ps) by omega] at this
    exact Ev.bind this (evNow _)
theorem wrap_byte {x : Int} (h : 0 ≤ x ∧ x ≤ 255) : wrap64 x = x := w64 (by omega) (by omega)
theorem rd_get (l : List Int) (i : Nat) (h : i < l.length) : rd l (i : Int) = l[i] := rd_at l i _ (List.getElem?_eq_getElem h)
theorem refRank_at (p : List Sp) (x : Int) (hp : In1 p) (h : okPart p = true) : Ev (fun k => leadtrailref03_Rank.f k p x) (rankL (runs p) x) := by
  have := refRank_is p x hp
  rwa [show p.map L113 = runs p from rfl, setL_of (okPart_good h).1] at this
theorem refRank_loop (ps : List (List Sp)) (a : Int) (bs : List Int) (hb : ∀ b ∈ bs, 0 ≤ b ∧ b ≤ 255) (hbl : bs.length = ps.length) (hI : In2 ps) (hk : ps.all okPart = true) (hl : ps.length ≤ 8) : ∀ (n i : Nat) (acc : Int), i + n = ps.length → 0 ≤ acc → (acc + 1) * cnt (sets (ps.drop i)) ≤ 1073741824 →
    Ev (fun k => leadtrailref09_Rank.l0 k bs acc (i : Int) ps a) (rkR ((rnk (sets (ps.drop i)) (bs.drop i)).map (fun r => acc * cnt (sets (ps.drop i)) + r)))
  | 0, i, acc, hi, _, _ => by
    refine evSucc ?_
    simp only [leadtrailref09_Rank.l0, if_neg (show ¬ (i : Int) < (bs.length : Int) by omega)]
    rw [List.drop_of_length_le (by omega), List.drop_of_length_le (by omega)]
    rw [show rnk (sets []) [] = some 0 from rnk_nil]
    show Ev _ (rkR (some (acc * cnt (sets []) + 0)))
    rw [show cnt (sets []) = 1 from cnt_nil, Int.mul_one, Int.add_zero]
    exact evNow _
  | n + 1, i, acc, hi, h0, h1 => by
    have hil : i < ps.length := by omega
    have hbi : i < bs.length := by omega
    have hg := good_of hk
    have hp := good_part hk hil
    have hs := okPart_good hp
    have hz := size_256 hs.1
    have hc1 : 1 ≤ cnt (sets (ps.drop (i + 1))) := by have := cnt_pos (hg.drop (i + 1)); rwa [sets_drop] at this
    have hce := cnt_step ps i hil
    have hbyte := hb _ (List.getElem_mem hbi)
    have hc2 : 1 ≤ cnt (sets (ps.drop i)) := by have := cnt_pos (hg.drop i); rwa [sets_drop] at this
    have hacc : acc + 1 ≤ 1073741824 := by
      have := Int.mul_le_mul_of_nonneg_left hc2 (show 0 ≤ acc + 1 by omega)
      omega
    have e : rnk (sets (ps.drop i)) (bs.drop i) = if memB (runs ps[i]) bs[i] = true then (rnk (sets (ps.drop (i + 1))) (bs.drop (i + 1))).map (fun r => (cd (memB (runs ps[i])) bs[i].toNat : Int) * cnt (sets (ps.drop (i + 1))) + r) else none := by
      rw [List.drop_eq_getElem_cons hil, List.drop_eq_getElem_cons hbi]; exact rnk_cons _ _ _ _
    have hw2 : Aside0 (wrap64 ((i : Int) + 1) = ((i + 1 : Nat) : Int)) := Aside0.mk (by rw [w64 (by omega) (by omega)]; rfl)
    refine evSucc ?_
    simp only [leadtrailref09_Rank.l0, if_pos (show (i : Int) < (bs.length : Int) by omega), if_pos (show (0 : Int) ≤ (i : Int) by omega), if_pos (show (i : Int) < (ps.length : Int) by omega), rdL_at ps i hil, rd_get bs i hbi, wrap_byte hbyte]
    refine Ev.bind (refRank_at _ _ (hI.2 _ (List.getElem_mem _)) hp) ?_
    by_cases hm : memB (runs ps[i]) bs[i] = true
    · rw [e, if_pos hm]
      simp only [rankL, if_pos hm, if_true]
      refine Ev.bind (refSize_at _ (hI.2 _ (List.getElem_mem _)) hp) ?_
      have hd := cd_less hs.1 (memB_iff.1 hm)
      have m0 : 0 ≤ acc * size (runs ps[i]) := Int.mul_nonneg h0 (by omega)
      have m1 : acc * size (runs ps[i]) ≤ 1073741824 * 256 := Int.mul_le_mul (by omega) hz (by omega) (by omega)
      have w1 : Aside0 (wrap64 (wrap64 (acc * size (runs ps[i])) + (cd (memB (runs ps[i])) bs[i].toNat : Int)) = acc * size (runs ps[i]) + (cd (memB (runs ps[i])) bs[i].toNat : Int)) := Aside0.mk (by
        rw [w64 (x := acc * size (runs ps[i])) (by omega) (by omega), w64 (by omega) (by omega)])
      simp only [w1.out, hw2.out]
      have hlt : (acc * size (runs ps[i]) + (cd (memB (runs ps[i])) bs[i].toNat : Int) + 1) * cnt (sets (ps.drop (i + 1))) ≤ 1073741824 := by
        have q1 : acc * size (runs ps[i]) + (cd (memB (runs ps[i])) bs[i].toNat : Int) + 1 ≤ (acc + 1) * size (runs ps[i]) := by rw [Int.add_mul, Int.one_mul]; omega
        have q2 := Int.mul_le_mul_of_nonneg_right q1 (show 0 ≤ cnt (sets (ps.drop (i + 1))) by omega)
        rw [Int.mul_assoc, ← hce] at q2
        omega
      have ih := refRank_loop ps a bs hb hbl hI hk hl n (i + 1) _ (by omega) (by omega) hlt
      have e3 : ((rnk (sets (ps.drop (i + 1))) (bs.drop (i + 1))).map (fun r => (cd (memB (runs ps[i])) bs[i].toNat : Int) * cnt (sets (ps.drop (i + 1))) + r)).map (fun r => acc * cnt (sets (ps.drop i)) + r) = (rnk (sets (ps.drop (i + 1))) (bs.drop (i + 1))).map (fun r => (acc * size (runs ps[i]) + (cd (memB (runs ps[i])) bs[i].toNat : Int)) * cnt (sets (ps.drop (i + 1))) + r) := by
        cases rnk (sets (ps.drop (i + 1))) (bs.drop (i + 1)) with
        | none => rfl
        | some r =>
          simp only [Option.map_some]
          rw [hce, Int.add_mul, Int.mul_assoc, Int.add_assoc]
      rw [e3]
      exact ih
    · rw [e, if_neg hm]
      simp only [rankL, if_neg hm, Bool.false_eq_true, if_false]
      exact evNow _
theorem refRank9_is (ps : List (List Sp)) (a : Int) (bs : List Int) (hI : In2 ps) (hb : ∀ b ∈ bs, 0 ≤ b ∧ b ≤ 255) : Ev (fun k => leadtrailref09_Rank.f k ps a bs) (rkS ps a bs) := by
  have jT : Ev (fun k => leadtrailref09_Rank.j0 k bs true ps a) (0, false) := by
    refine evSucc ?_
    simp only [leadtrailref09_Rank.j0, if_true]; exact evNow _
  simp only [leadtrailref09_Rank.f]
  refine Ev.bind (refCount_is ps a hI) ?_
  unfold rkS
  cases hv : vShape ps a
  · simp only [Bool.false_eq_true, if_false, if_true]; exact jT
  · simp only [if_true]
    obtain ⟨⟨l1, l2⟩, ⟨a1, a2⟩, hk, hg, hc⟩ := vShape_good hv
    have hp := cnt_pos hg
    simp only [if_neg (show ¬ cnt (sets ps) = 0 by omega)]
    by_cases c : bs.length = ps.length
    · rw [show ((bs.length : Int) != (ps.length : Int)) = false by simp [c]]
      refine evSucc ?_
      simp only [leadtrailref09_Rank.j0, Bool.false_eq_true, if_false]
      have := refRank_loop ps a bs hb c hI hk l2 ps.length 0 0 (by omega) (by omega) (by rw [List.drop_zero]; omega)
      rw [List.drop_zero, List.drop_zero] at this
      have e : (rnk (sets ps) bs).map (fun r => (0 : Int) * cnt (sets ps) + r) = rnk (sets ps) bs := by cases rnk (sets ps) bs <;> simp
      rw [e] at this
      exact this
    · rw [show ((bs.length : Int) != (ps.length : Int)) = true by simp; omega]
      have e : rnk (sets ps) bs = none := by
        cases hr : rnk (sets ps) bs with
        | none => rfl
        | some r => exact (c (by have := rnk_len hr; rwa [sets_len] at this)).elim
      rw [e]
      exact jT
end Go.Proofs.Ytkcklnmbeinfkaa.PBS
