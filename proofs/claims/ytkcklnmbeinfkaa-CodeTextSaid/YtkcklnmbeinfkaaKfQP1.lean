/- Words and laws of this claim, of 8 texts. -/
import Derived.Test.YtkcklnmbeinfkaaKfBx0
import Derived.Test.YtkcklnmbeinfkaaKfBx9
import Derived.Test.YtkcklnmbeinfkaaKfBx10
import Derived.Test.YtkcklnmbeinfkaaKfQP0
import Derived.Test.YtkcklnmbeinfkaaKfBx12
import Derived.Test.YtkcklnmbeinfkaaKfBx13
import Derived.Test.YtkcklnmbeinfkaaKfBx14
import Derived.Test.YtkcklnmbeinfkaaKfBx11
import Derived.Lib.Bytes
import Derived.Test.YtkcklnmbeinfkaaKfBx3
import Derived.Test.YtkcklnmbeinfkaaKfBx15
import Derived.Test.YtkcklnmbeinfkaaKfBx22
import Derived.Test.YtkcklnmbeinfkaaKfBx23
import Derived.Test.YtkcklnmbeinfkaaKfBx24
import Derived.Test.YtkcklnmbeinfkaaKfBx25
import Derived.Test.YtkcklnmbeinfkaaKfBx27
import Derived.Test.YtkcklnmbeinfkaaKfBx28
import Derived.Test.YtkcklnmbeinfkaaKfBx29
import Derived.Test.YtkcklnmbeinfkaaKfQW1
import Derived.Test.YtkcklnmbeinfkaaKfBx30
section
namespace Go.Proofs.Ytkcklnmbeinfkaa.PBS
open Go.RowKit Go.Proofs.YtkcklnmbeinfkaaW.PrintWords Go.Proofs.YtkcklnmbeinfkaaW.PrintLast Go.Proofs.YtkcklnmbeinfkaaW.PrintMore Go.Proofs.Ytkcklnmbeinfkaa.B Go.Proofs.LT Go.Proofs.Ytkcklnmbeinfkaa.PB3
set_option linter.unusedVariables false
set_option linter.unusedSimpArgs false
theorem wf64 {x : Int} (h0 : -9223372036854775808 ≤ x) (h1 : x ≤ 9223372036854775807) : (Lit.int .i64 x).wf = true := by
  have h := wf_wrap .i64 x
  rwa [show IntKind.i64.wrap x = x from by rw [IntKind.wrap_i64]; omega] at h
theorem rdL_at (ps : List (List Sp)) (i : Nat) (h : i < ps.length) : rd_L4 ps (i : Int) = ps[i] := by simp [rd_L4, List.getD, h]
theorem rd_at (l : List Int) (i : Nat) (x : Int) (h : l[i]? = some x) : rd l (i : Int) = x := by simp [rd, List.getD, h]
theorem good_part {ps : List (List Sp)} (h : ps.all okPart = true) {i : Nat} (hi : i < ps.length) : okPart ps[i] = true := List.all_eq_true.1 h _ (List.getElem_mem hi)
theorem cnt_step (ps : List (List Sp)) (i : Nat) (hi : i < ps.length) : cnt (sets (ps.drop i)) = size (runs ps[i]) * cnt (sets (ps.drop (i + 1))) := by
  rw [List.drop_eq_getElem_cons hi]; exact cnt_cons _ _
theorem SP_step (ps : List (List Sp)) (i : Nat) (hi : i < ps.length) : SP (sets (ps.drop i)) = cnt (sets (ps.drop i)) :: SP (sets (ps.drop (i + 1))) := by
  rw [cnt_step ps i hi, List.drop_eq_getElem_cons hi]; exact (by rw [← cnt_cons]; exact SP_cons _)
theorem set_mid (i : Nat) (n : Int) (t : List Int) : (List.replicate (i + 1) 0 ++ t).set i n = List.replicate i 0 ++ n :: t := by
  rw [List.replicate_succ', List.append_assoc, List.set_append, if_neg (by simp), List.length_replicate, Nat.sub_self]; rfl
theorem steps_loop (ps : List (List Sp)) (a : Int) (hI : In2 ps) (hk : ps.all okPart = true) (hl : ps.length ≤ 8) (hc : cnt (sets ps) ≤ 1073741824) : ∀ (i : Nat), i ≤ ps.length →
    Ev (fun k => shape_steps.l0 k (cnt (sets (ps.drop i))) (i : Int) (List.replicate (i + 1) 0 ++ (SP (sets (ps.drop i))).tail) ps a) (SP (sets ps))
  | 0, _ => by
    refine evSucc ?_
    rw [List.drop_zero]
    have c : (0 : Int) < ((List.replicate (0 + 1) (0 : Int) ++ (SP (sets ps)).tail).length : Nat) := by simp
    simp only [shape_steps.l0, if_neg (show ¬ ((0 : Nat) : Int) > 0 by omega), if_pos c]
    have e : (List.replicate (0 + 1) (0 : Int) ++ (SP (sets ps)).tail).set (0 : Int).toNat (cnt (sets ps)) = SP (sets ps) := by
      rw [show (0 : Int).toNat = 0 from rfl, set_mid 0, ← SP_cons]
      first | done | rfl
    rw [e]
    exact evNow _
  | i + 1, hi => by
    have ih := steps_loop ps a hI hk hl hc i (by omega)
    have hg := good_of hk
    have hp := good_part hk (show i < ps.length by omega)
    have hs := okPart_good hp
    have hz := size_256 hs.1
    have hd := cnt_drop i hg
    rw [sets_drop, cnt_step ps i (by omega)] at hd
    have h1 : 1 ≤ cnt (sets (ps.drop (i + 1))) := by have := cnt_pos (hg.drop (i + 1)); rwa [sets_drop] at this
    have e1 : cnt (sets (ps.drop (i + 1))) * size (runs ps[i]) = cnt (sets (ps.drop i)) := by rw [cnt_step ps i (by omega), Int.mul_comm]
    have hpos : 0 ≤ size (runs ps[i]) * cnt (sets (ps.drop (i + 1))) := Int.mul_nonneg (by omega) (by omega)
    have hw : Aside0 (wrap64 (cnt (sets (ps.drop (i + 1))) * size (runs ps[i])) = cnt (sets (ps.drop i))) := Aside0.mk (by rw [w64 (by rw [Int.mul_comm]; omega) (by rw [Int.mul_comm]; omega), e1])
    have hw2 : Aside0 (wrap64 (((i + 1 : Nat) : Int) - 1) = (i : Int)) := Aside0.mk (by rw [w64 (by omega) (by omega)]; omega)
    have hlen : ((List.replicate (i + 1 + 1) (0 : Int) ++ (SP (sets (ps.drop (i + 1)))).tail).length : Nat) = ps.length + 1 := by
      simp [SP_len, sets_len]; omega
    have c1 : ((i + 1 : Nat) : Int) < ((List.replicate (i + 1 + 1) (0 : Int) ++ (SP (sets (ps.drop (i + 1)))).tail).length : Nat) := by rw [hlen]; omega
    refine evSucc ?_
    simp only [shape_steps.l0, if_pos (show ((i + 1 : Nat) : Int) > 0 by omega), if_pos (show (0 : Int) ≤ ((i + 1 : Nat) : Int) by omega), if_pos c1, hw2.out, if_pos (show (0 : Int) ≤ (i : Int) by omega), if_pos (show (i : Int) < (ps.length : Int) by omega), rdL_at ps i (by omega)]
    refine Ev.bind (size_is3 _ (hI.2 _ (List.getElem_mem _)) hp) ?_
    simp only [hw.out]
    have e2 : (List.replicate (i + 1 + 1) (0 : Int) ++ (SP (sets (ps.drop (i + 1)))).tail).set (((i + 1 : Nat) : Int)).toNat (cnt (sets (ps.drop (i + 1)))) = List.replicate (i + 1) 0 ++ (SP (sets (ps.drop i))).tail := by
      rw [Int.toNat_natCast, set_mid (i + 1), ← SP_cons, SP_step ps i (by omega)]; rfl
    rw [e2]
    exact ih
theorem steps_is {ps : List (List Sp)} {a : Int} (hI : In2 ps) (hv : vShape ps a = true) : Ev (fun k => shape_steps.f k ps a) (SP (sets ps)) := by
  obtain ⟨⟨l1, l2⟩, ⟨a1, a2⟩, hk, hg, hc⟩ := vShape_good hv
  have h := steps_loop ps a hI hk l2 (by omega) ps.length (Nat.le_refl _)
  rw [List.drop_length] at h
  have hw : Aside0 (wrap64 ((ps.length : Int) + 1) = ((ps.length + 1 : Nat) : Int)) := Aside0.mk (by rw [w64 (by omega) (by omega)]; simp)
  simp only [shape_steps.f, hw.out, if_pos (show (0 : Int) ≤ ((ps.length + 1 : Nat) : Int) by omega), Int.toNat_natCast, if_pos (show ps.length + 1 ≤ 35184372088832 by omega)]
  simpa [sets, SP, cnt_nil] using h
theorem Count_is (ps : List (List Sp)) (a : Int) (hI : In2 ps) : Ev (fun k => shape_Count.f k ps a) (if vShape ps a = true then cnt (sets ps) else 0) := by
  simp only [shape_Count.f]
  refine Ev.bind (shapeValid_is ps a hI) ?_
  cases hv : vShape ps a
  · simp only [Bool.false_eq_true, if_false]; exact evNow _
  · simp only [if_true]
    refine Ev.bind (steps_is hI hv) ?_
    rw [if_pos (show (0 : Int) < ((SP (sets ps)).length : Nat) by rw [SP_len]; omega), show rd (SP (sets ps)) 0 = cnt (sets ps) by rw [SP_cons]; rfl]
    exact evNow _
theorem select_at (p : List Sp) (d : Int) (hi : In1 p) (hk : okPart p = true) (h0 : 0 ≤ d) (h1 : d < size (runs p)) : Ev (fun k => spans_Select.f k p d) (selV (runs p) d, true) := by
  have hs := okPart_good hk
  have hz := size_256 hs.1
  obtain ⟨r, r1, r2⟩ := spans_Select_is p d (wf64 (by omega) (by omega)) hi
  rw [show p.map L113 = runs p from rfl, setL_of hs.1] at r2
  have hS := selV_spec hs.1 h0 h1
  obtain rfl := Sel.uniq hs.1 r2 (.inl ⟨_, hS.1, hS.2, rfl⟩)
  exact r1
theorem tail_at (ps : List (List Sp)) (i : Nat) (hi : i < ps.length) : (SP (sets ps)).tail[i]? = some (cnt (sets (ps.drop (i + 1)))) := by
  have := SP_at (sets ps) (i + 1) (by rw [sets_len]; omega)
  rw [sets_drop] at this
  rw [← this, List.getElem?_tail]
theorem unrank_loop (ps : List (List Sp)) (a : Int) (hI : In2 ps) (hk : ps.all okPart = true) (hl : ps.length ≤ 8) (hc : cnt (sets ps) ≤ 1073741824) : ∀ (n i : Nat) (kk : Int) (out : List Int), i + n = ps.length → out.length ≤ i → 0 ≤ kk → kk < cnt (sets (ps.drop i)) →
    Ev (fun k => shape_Unrank.l0 k kk out (SP (sets ps)).tail ((SP (sets ps)).tail.length : Int) (i : Int) ps a) (out ++ unr (sets (ps.drop i)) kk, true)
  | 0, i, kk, out, hi, _, _, _ => by
    refine evSucc ?_
    have hlen : (SP (sets ps)).tail.length = ps.length := by rw [List.length_tail, SP_len, sets_len]; rfl
    simp only [shape_Unrank.l0, hlen, if_neg (show ¬ (i : Int) < ((ps.length : Nat) : Int) by omega)]
    rw [List.drop_of_length_le (by omega), show unr (sets []) kk = [] from unr_nil _, List.append_nil]
    exact evNow _
  | n + 1, i, kk, out, hi, ho, h0, h1 => by
    have hlen : (SP (sets ps)).tail.length = ps.length := by rw [List.length_tail, SP_len, sets_len]; rfl
    have hil : i < ps.length := by omega
    have hg := good_of hk
    have hp := good_part hk hil
    have hs := okPart_good hp
    have hpos : 1 ≤ cnt (sets (ps.drop (i + 1))) := by have := cnt_pos (hg.drop (i + 1)); rwa [sets_drop] at this
    rw [cnt_step ps i hil] at h1
    obtain ⟨d0, d1, d2, d3⟩ := digit hpos h0 h1
    have hz := size_256 hs.1
    have ih := unrank_loop ps a hI hk hl hc n (i + 1) (kk % cnt (sets (ps.drop (i + 1)))) (out ++ [selV (runs ps[i]) (kk / cnt (sets (ps.drop (i + 1))))]) (by omega) (by simp; omega) d2 d3
    have hr := hs.1.range (selV_spec hs.1 d0 d1).1
    have r1 := rd_at _ i _ (tail_at ps i hil)
    have t1 : Int.tdiv kk (cnt (sets (ps.drop (i + 1)))) = kk / cnt (sets (ps.drop (i + 1))) := Int.tdiv_eq_ediv_of_nonneg h0
    have t2 : Int.tmod kk (cnt (sets (ps.drop (i + 1)))) = kk % cnt (sets (ps.drop (i + 1))) := Int.tmod_eq_emod_of_nonneg h0
    have hw : Aside0 (wrap64 (kk / cnt (sets (ps.drop (i + 1)))) = kk / cnt (sets (ps.drop (i + 1)))) := Aside0.mk (w64 (by omega) (by omega))
    have hw2 : Aside0 (wrap64 ((i : Int) + 1) = ((i + 1 : Nat) : Int)) := Aside0.mk (by rw [w64 (by omega) (by omega)]; simp)
    have hm : selV (runs ps[i]) (kk / cnt (sets (ps.drop (i + 1)))) % 256 = selV (runs ps[i]) (kk / cnt (sets (ps.drop (i + 1)))) := Int.emod_eq_of_lt hr.1 (by omega)
    refine evSucc ?_
    simp only [shape_Unrank.l0, hlen, if_pos (show (i : Int) < ((ps.length : Nat) : Int) by omega), if_pos (show (0 : Int) ≤ (i : Int) by omega), r1, if_neg (show ¬ cnt (sets (ps.drop (i + 1))) = 0 by omega), rdL_at ps i hil, t1, t2, hw.out]
    refine Ev.bind (select_at _ _ (hI.2 _ (List.getElem_mem _)) hp d0 d1) ?_
    simp only [if_pos (show out.length < 140737488355328 by omega), hw2.out, hm]
    have e : unr (sets (ps.drop i)) kk = selV (runs ps[i]) (kk / cnt (sets (ps.drop (i + 1)))) :: unr (sets (ps.drop (i + 1))) (kk % cnt (sets (ps.drop (i + 1)))) := by
      rw [List.drop_eq_getElem_cons hil]; exact unr_cons _ _ _
    rw [e]
    rw [hlen, List.append_assoc] at ih
    exact ih
theorem Unrank_no (ps : List (List Sp)) (a kk : Int) (hI : In2 ps) (h : ¬ (0 ≤ kk ∧ kk < (if vShape ps a = true then cnt (sets ps) else 0))) : Ev (fun k => shape_Unrank.f k ps a kk) ([], false) := by
  have j : Ev (fun k => shape_Unrank.j0 k kk true ps a) ([], false) := by
    refine evSucc ?_
    simp only [shape_Unrank.j0, if_true]; exact evNow _
  simp only [shape_Unrank.f]
  by_cases c : kk < 0
  · simp only [if_pos c]; exact j
  · simp only [if_neg c]
    refine Ev.bind (Count_is ps a hI) ?_
    rw [decide_eq_true (show kk ≥ (if vShape ps a = true then cnt (sets ps) else 0) by omega)]
    exact j
theorem Unrank_yes {ps : List (List Sp)} {a kk : Int} (hI : In2 ps) (hv : vShape ps a = true) (h0 : 0 ≤ kk) (h1 : kk < cnt (sets ps)) : Ev (fun k => shape_Unrank.f k ps a kk) (unr (sets ps) kk, true) := by
  obtain ⟨⟨l1, l2⟩, ⟨a1, a2⟩, hk, hg, hc⟩ := vShape_good hv
  simp only [shape_Unrank.f, if_neg (show ¬ kk < 0 by omega)]
  have hC := Count_is ps a hI
  rw [if_pos hv] at hC
  refine Ev.bind hC ?_
  rw [decide_eq_false (show ¬ kk ≥ cnt (sets ps) by omega)]
  refine evSucc ?_
  simp only [shape_Unrank.j0, Bool.false_eq_true, if_false]
  refine Ev.bind (steps_is hI hv) ?_
  simp only [if_pos (show (1 : Int) ≤ ((SP (sets ps)).length : Nat) by rw [SP_len]; omega)]
  simp only [Option.bind_some, show (1 : Int).toNat = 1 from rfl, List.drop_one]
  have := unrank_loop ps a hI hk l2 (by omega) ps.length 0 kk [] (by omega) (by simp) h0 (by rw [List.drop_zero]; exact h1)
  rw [List.drop_zero, List.nil_append] at this
  exact this
def rkR : Option Int → Int × Bool
  | some r => (r, true)
  | none => (0, false)
theorem rank_loop3 (ps : List (List Sp)) (a : Int) (bs : List Int) (hb : ∀ b ∈ bs, 0 ≤ b ∧ b ≤ 255) (hbl : bs.length = ps.length) (hI : In2 ps) (hk : ps.all okPart = true) (hl : ps.length ≤ 8) (hc : cnt (sets ps) ≤ 1073741824) : ∀ (n i : Nat) (acc : Int), i + n = ps.length → 0 ≤ acc → acc + cnt (sets (ps.drop i)) ≤ 1073741824 →
    Ev (fun k => shape_Rank.l0 k bs acc (SP (sets ps)).tail ((SP (sets ps)).tail.length : Int) (i : Int) ps a) (rkR ((rnk (sets (ps.drop i)) (bs.drop i)).map (acc + ·)))
  | 0, i, acc, hi, _, _ => by
    refine evSucc ?_
    have hlen : (SP (sets ps)).tail.length = ps.length := by rw [List.length_tail, SP_len, sets_len]; rfl
    simp only [shape_Rank.l0, hlen, if_neg (show ¬ (i : Int) < ((ps.length : Nat) : Int) by omega)]
    rw [List.drop_of_length_le (show ps.length ≤ i by omega), List.drop_of_length_le (show bs.length ≤ i by omega), show rnk (sets []) [] = some 0 from rnk_nil]
    simpa [rkR] using evNow (acc, true)
  | n + 1, i, acc, hi, h0, h1 => by
    have hlen : (SP (sets ps)).tail.length = ps.length := by rw [List.length_tail, SP_len, sets_len]; rfl
    have hil : i < ps.length := by omega
    have hbi : i < bs.length := by omega
    have hg := good_of hk
    have hp := good_part hk hil
    have hs := okPart_good hp
    have hz := size_256 hs.1
    have hpos : 1 ≤ cnt (sets (ps.drop (i + 1))) := by have := cnt_pos (hg.drop (i + 1)); rwa [sets_drop] at this
    have hbb := hb _ (List.getElem_mem hbi)
    rw [cnt_step ps i hil] at h1
    have r1 := rd_at _ i _ (tail_at ps i hil)
    have r2 := rd_at bs i _ (List.getElem?_eq_getElem hbi)
    have hw : Aside0 (wrap64 (bs[i]) = bs[i]) := Aside0.mk (w64 (by omega) (by omega))
    have hw2 : Aside0 (wrap64 ((i : Int) + 1) = ((i + 1 : Nat) : Int)) := Aside0.mk (by rw [w64 (by omega) (by omega)]; simp)
    have hR := spans_Rank_is ps[i] bs[i] (wf64 (by omega) (by omega)) (hI.2 _ (List.getElem_mem _))
    rw [show ps[i].map L113 = runs ps[i] from rfl, setL_of hs.1] at hR
    have e : rnk (sets (ps.drop i)) (bs.drop i) = if memB (runs ps[i]) bs[i] = true then (rnk (sets (ps.drop (i + 1))) (bs.drop (i + 1))).map (fun r => (cd (memB (runs ps[i])) bs[i].toNat : Int) * cnt (sets (ps.drop (i + 1))) + r) else none := by
      rw [List.drop_eq_getElem_cons hil, List.drop_eq_getElem_cons hbi]; exact rnk_cons _ _ _ _
    refine evSucc ?_
    simp only [shape_Rank.l0, hlen, if_pos (show (i : Int) < ((ps.length : Nat) : Int) by omega), if_pos (show (0 : Int) ≤ (i : Int) by omega), if_pos (show (i : Int) < ((bs.length : Nat) : Int) by omega), r1, r2, rdL_at ps i hil, hw.out]
    refine Ev.bind hR ?_
    by_cases hm : memB (runs ps[i]) bs[i] = true
    · rw [e, if_pos hm]
      simp only [rankL, if_pos hm, if_true]
      have hd := cd_less hs.1 (memB_iff.1 hm)
      have m0 : 0 ≤ (cd (memB (runs ps[i])) bs[i].toNat : Int) * cnt (sets (ps.drop (i + 1))) := Int.mul_nonneg (by omega) (by omega)
      have m1 := Int.mul_le_mul_of_nonneg_right (show (cd (memB (runs ps[i])) bs[i].toNat : Int) + 1 ≤ size (runs ps[i]) by omega) (show 0 ≤ cnt (sets (ps.drop (i + 1))) by omega)
      rw [Int.add_mul, Int.one_mul] at m1
      have w1 : Aside0 (wrap64 (acc + wrap64 ((cd (memB (runs ps[i])) bs[i].toNat : Int) * cnt (sets (ps.drop (i + 1))))) = acc + (cd (memB (runs ps[i])) bs[i].toNat : Int) * cnt (sets (ps.drop (i + 1)))) := Aside0.mk (by
        rw [w64 (x := (cd (memB (runs ps[i])) bs[i].toNat : Int) * cnt (sets (ps.drop (i + 1)))) (by omega) (by omega), w64 (by omega) (by omega)])
      simp only [w1.out, hw2.out]
      have ih := rank_loop3 ps a bs hb hbl hI hk hl hc n (i + 1) (acc + (cd (memB (runs ps[i])) bs[i].toNat : Int) * cnt (sets (ps.drop (i + 1)))) (by omega) (by omega) (by omega)
      rw [hlen] at ih
      have e3 : ((rnk (sets (ps.drop (i + 1))) (bs.drop (i + 1))).map (fun r => (cd (memB (runs ps[i])) bs[i].toNat : Int) * cnt (sets (ps.drop (i + 1))) + r)).map (acc + ·) = (rnk (sets (ps.drop (i + 1))) (bs.drop (i + 1))).map (acc + (cd (memB (runs ps[i])) bs[i].toNat : Int) * cnt (sets (ps.drop (i + 1))) + ·) := by
        cases rnk (sets (ps.drop (i + 1))) (bs.drop (i + 1)) with
        | none => rfl
        | some r => simp [Int.add_assoc]
      rw [e3]
      exact ih
    · rw [e, if_neg hm]
      simp only [rankL, if_neg hm, Bool.false_eq_true, if_false]
      exact evNow _
def rkS (ps : List (List Sp)) (a : Int) (bs : List Int) : Int × Bool := if vShape ps a = true then rkR (rnk (sets ps) bs) else (0, false)
theorem Rank_is (ps : List (List Sp)) (a : Int) (bs : List Int) (hI : In2 ps) (hb : ∀ b ∈ bs, 0 ≤ b ∧ b ≤ 255) : Ev (fun k => shape_Rank.f k ps a bs) (rkS ps a bs) := by
  have jT : Ev (fun k => shape_Rank.j0 k bs true ps a) (0, false) := by
    refine evSucc ?_
    simp only [shape_Rank.j0, if_true]; exact evNow _
  simp only [shape_Rank.f]
  refine Ev.bind (shapeValid_is ps a hI) ?_
  unfold rkS
  cases hv : vShape ps a
  · simp only [Bool.false_eq_true, if_false]; exact jT
  · simp only [if_true]
    obtain ⟨⟨l1, l2⟩, ⟨a1, a2⟩, hk, hg, hc⟩ := vShape_good hv
    by_cases c : bs.length = ps.length
    · rw [show ((bs.length : Int) != (ps.length : Int)) = false by simp [c]]
      refine evSucc ?_
      simp only [shape_Rank.j0, Bool.false_eq_true, if_false]
      refine Ev.bind (steps_is hI hv) ?_
      simp only [if_pos (show (1 : Int) ≤ ((SP (sets ps)).length : Nat) by rw [SP_len]; omega)]
      simp only [Option.bind_some, show (1 : Int).toNat = 1 from rfl, List.drop_one]
      have := rank_loop3 ps a bs hb c hI hk l2 (by omega) ps.length 0 0 (by omega) (by omega) (by rw [List.drop_zero]; omega)
      rw [List.drop_zero, List.drop_zero] at this
      have e : (rnk (sets ps) bs).map ((0 : Int) + ·) = rnk (sets ps) bs := by cases rnk (sets ps) bs <;> simp
      rw [e] at this
      exact this
    · rw [show ((bs.length : Int) != (ps.length : Int)) = true by simp; omega]
      have e : rnk (sets ps) bs = none := by
        cases hr : rnk (sets ps) bs with
        | none => rfl
        | some r => exact (c (by have := rnk_len hr; rwa [sets_len] at this)).elim
      rw [e]
      exact jT
end Go.Proofs.Ytkcklnmbeinfkaa.PBS
end
section
namespace Go.Proofs.Ytkcklnmbeinfkaa.PB3
open Go.RowKit Go.Proofs.YtkcklnmbeinfkaaW.PrintWords Go.Proofs.YtkcklnmbeinfkaaW.PrintLast Go.Proofs.YtkcklnmbeinfkaaW.PrintMore Go.Proofs.Ytkcklnmbeinfkaa.B Go.Proofs.LT
set_option linter.unusedVariables false
set_option linter.unusedSimpArgs false
theorem refValid_loop (N : Nat) (hN : N ≤ 8796093022206) : ∀ (t q : List S113) (p : S113), (q ++ p :: t).length ≤ N → p.f1 ≤ 255 → 0 ≤ p.f1 → Ev (fun k => leadtrailref03_Valid.l0 k (q ++ p :: t) ((q.length : Int) + 1)) (validB 255 p.f1 (t.map L113))
  | [], q, p, _, _, _ => by
    refine evSucc ?_
    have hlc := len_cons q p []
    have c1 : ¬ (q.length : Int) + 1 < ((q ++ [p]).length : Nat) := by rw [hlc]; simp
    simp only [leadtrailref03_Valid.l0, if_neg c1]
    rw [show validB 255 p.f1 (([] : List S113).map L113) = true from validB_nil _ _]
    exact evNow _
  | r :: t, q, p, hl, hp, hp0 => by
    have hlc := len_cons q p (r :: t)
    have e1 : q ++ p :: r :: t = (q ++ [p]) ++ r :: t := by simp
    have e2 : ((q.length : Int) + 1) = ((q ++ [p]).length : Nat) := by simp
    have rr : rd_T113 (q ++ p :: r :: t) ((q.length : Int) + 1) = r := by rw [e1, e2]; exact rd113 _ _ _
    have rp : rd_T113 (q ++ p :: r :: t) (q.length : Int) = p := rd113 _ _ _
    have hq : q.length ≤ N := by simp at hl; omega
    have c1 : (q.length : Int) + 1 < ((q ++ p :: r :: t).length : Nat) := by rw [hlc]; simp; omega
    have c2 : (0 : Int) ≤ (q.length : Int) + 1 := by omega
    have c3 : (q.length : Int) + 1 > 0 := by omega
    have c4 : (0 : Int) ≤ (q.length : Int) := by omega
    have c5 : (q.length : Int) < ((q ++ p :: r :: t).length : Nat) := by omega
    have hw1 : Aside0 (wrap64 ((q.length : Int) + 1 - 1) = (q.length : Int)) := Aside0.mk (by rw [w64 (by omega) (by omega)]; omega)
    have hw2 : Aside0 (wrap64 ((q.length : Int) + 1 + 1) = (q.length : Int) + 1 + 1) := Aside0.mk (w64 (by omega) (by omega))
    have hw3 : Aside0 (wrap64 (p.f1 + 1) = p.f1 + 1) := Aside0.mk (w64 (by omega) (by omega))
    refine evSucc ?_
    simp only [leadtrailref03_Valid.l0, if_pos c1, if_pos c2, if_pos c3, rr, hw1.out, hw2.out, hw3.out, if_pos c4, if_pos c5, rp, List.map_cons, validB_cons]
    show Ev _ (if r.f0 < 0 then false else if r.f0 > r.f1 then false else if r.f1 > 255 then false else if r.f0 - 1 ≤ p.f1 then false else validB 255 r.f1 (t.map L113))
    by_cases d1 : r.f0 < 0
    · simp only [if_pos d1]; exact evNow _
    by_cases d2 : r.f0 > r.f1
    · simp only [if_neg d1, if_pos d2]; exact evNow _
    by_cases d3 : r.f1 > 255
    · simp only [if_neg d1, if_neg d2, if_pos d3]; exact evNow _
    by_cases d4 : r.f0 ≤ p.f1 + 1
    · simp only [if_neg d1, if_neg d2, if_neg d3, if_pos d4, if_pos (show r.f0 - 1 ≤ p.f1 by omega)]; exact evNow _
    · have ih := refValid_loop N hN t (q ++ [p]) r (by rw [← e1]; exact hl) (by omega) (by omega)
      rw [← e1, ← e2] at ih
      simp only [if_neg d1, if_neg d2, if_neg d3, if_neg d4, if_neg (show ¬ r.f0 - 1 ≤ p.f1 by omega)]
      exact ih
theorem refValid_is (l : List S113) (hl : l.length * 16 ≤ 140737488351232) : Ev (fun k => leadtrailref03_Valid.f k l) (validB 255 (-2) (l.map L113)) := by
  simp only [leadtrailref03_Valid.f]
  cases l with
  | nil =>
    refine evSucc ?_
    simp only [leadtrailref03_Valid.l0, List.length_nil, if_neg (show ¬ (0 : Int) < ((0 : Nat) : Int) by omega), List.map_nil, validB_nil]
    exact evNow _
  | cons r t =>
    have c1 : (0 : Int) < (((r :: t).length : Nat) : Int) := by rw [List.length_cons]; omega
    have r1 : rd_T113 (r :: t) 0 = r := rfl
    have hw : Aside0 (wrap64 ((0 : Int) + 1) = 1) := Aside0.mk (by rw [w64 (by omega) (by omega)]; rfl)
    refine evSucc ?_
    simp only [leadtrailref03_Valid.l0, if_pos c1, if_pos (show (0 : Int) ≤ 0 by omega), r1, if_neg (show ¬ (0 : Int) > 0 by omega), hw.out, List.map_cons, validB_cons]
    show Ev _ (if r.f0 < 0 then false else if r.f0 > r.f1 then false else if r.f1 > 255 then false else if r.f0 - 1 ≤ -2 then false else validB 255 r.f1 (t.map L113))
    by_cases d1 : r.f0 < 0
    · simp only [if_pos d1]; exact evNow _
    by_cases d2 : r.f0 > r.f1
    · simp only [if_neg d1, if_pos d2]; exact evNow _
    by_cases d3 : r.f1 > 255
    · simp only [if_neg d1, if_neg d2, if_pos d3]; exact evNow _
    simp only [if_neg d1, if_neg d2, if_neg d3, if_neg (show ¬ r.f0 - 1 ≤ -2 by omega)]
    exact refValid_loop (r :: t).length (by omega) t [] r (by simp) (by omega) (by omega)
theorem memb_is (l : List S113) (hl : l.length * 16 ≤ 140737488351232) : ∃ p, Ev (fun k => leadtrailref03_memb k l) p ∧ ∀ i : Nat, p i = memB (setL 255 (l.map L113)) i := by
  have h := refValid_is l hl
  by_cases d : validB 255 (-2) (l.map L113) = true
  · have hv := (validB_iff _ _ _).1 d
    have hall : l.all okPiece = true := List.all_eq_true.2 fun r hr => by
      have := hv.each (L113 r) (List.mem_map.2 ⟨r, hr, rfl⟩)
      have e : (L113 r).1 = r.f0 ∧ (L113 r).2 = r.f1 := ⟨rfl, rfl⟩
      rw [e.1, e.2] at this
      simp [okPiece]; omega
    refine ⟨membersB true l, Ev.bind h ?_, fun i => ?_⟩
    · simp only [if_pos (show l.length ≤ 8796093022207 by omega), if_pos d, if_pos hall]; exact evNow _
    · rw [setL_of hv, Bool.eq_iff_iff, memB_iff]
      simp only [membersB, hasAny, pieceHas, Bool.true_and, List.any_eq_true, Bool.and_eq_true, decide_eq_true_iff]
      exact ⟨fun ⟨r, hr, h1, h2⟩ => ⟨L113 r, List.mem_map.2 ⟨r, hr, rfl⟩, h1, h2⟩, fun ⟨q, hq, h1, h2⟩ => by
        obtain ⟨r, hr, rfl⟩ := List.mem_map.1 hq
        exact ⟨r, hr, h1, h2⟩⟩
  · refine ⟨membersB false l, Ev.bind h ?_, fun i => ?_⟩
    · simp only [if_pos (show l.length ≤ 8796093022207 by omega), if_neg d]; exact evNow _
    · have e : setL 255 (l.map L113) = [] := by unfold setL; rw [if_neg d]
      rw [e]
      have : memB [] (i : Int) = false := by
        cases hm : memB [] (i : Int)
        · rfl
        · exact (Mem.nil (memB_iff.1 hm)).elim
      rw [this]; simp [membersB]
theorem cnt_cd {p : Nat → Bool} {s : List Run} (h : ∀ i : Nat, p i = memB s i) : ∀ n, cntB p n = cd (memB s) n
  | 0 => (cd_zero _).symm
  | n + 1 => by rw [cd_succ, ← cnt_cd h n, ← h n]; rfl
theorem refSize_is (l : List S113) (hl : l.length * 16 ≤ 140737488351232) : Ev (fun k => leadtrailref03_Size.f k l) (size (setL 255 (l.map L113))) := by
  obtain ⟨p, h1, h2⟩ := memb_is l hl
  refine Ev.bind h1 ?_
  rw [cnt_cd h2 256, cd_size (n := 256) (setL_valid 255 (l.map L113)) (by omega)]
  exact evNow _
theorem sel_is {p : Nat → Bool} {s : List Run} (hv : ValidFrom 255 (-2) s) (h : ∀ i : Nat, p i = memB s i) (k : Int) : ∀ f x : Nat, f + x = 256 → (∀ y, y < x → ¬ (p y = true ∧ (cntB p y : Int) = k)) → Sel s k (selB p k f x)
  | 0, x, hx, hn => by
    refine .inr ⟨?_, rfl⟩
    by_cases c : k < 0
    · exact .inl c
    · refine .inr (Int.not_lt.1 fun hlt => ?_)
      have hz := cd_size (n := 256) hv (by omega)
      obtain ⟨m, m1, m2, m3⟩ := cd_exists (memB s) (n := 256) (k := k.toNat) (by omega)
      exact hn m (by omega) ⟨by rw [h m]; exact m2, by rw [cnt_cd h, m3]; omega⟩
  | f + 1, x, hx, hn => by
    unfold selB
    by_cases d : p x = true ∧ (cntB p x : Int) = k
    · rw [if_pos d]
      refine .inl ⟨(x : Int), memB_iff.1 (by rw [← h x]; exact d.1), ?_, rfl⟩
      rw [Int.toNat_natCast, ← cnt_cd h]; exact d.2
    · rw [if_neg d]
      refine sel_is hv h k f (x + 1) (by omega) fun y hy => ?_
      by_cases e : y = x
      · rw [e]; exact d
      · exact hn y (by omega)
theorem refSelect_is (l : List S113) (kk : Int) (hl : l.length * 16 ≤ 140737488351232) : ∃ r, Ev (fun k => leadtrailref03_Select.f k l kk) r ∧ Sel (setL 255 (l.map L113)) kk r := by
  obtain ⟨p, h1, h2⟩ := memb_is l hl
  exact ⟨_, Ev.bind h1 (evNow _), sel_is (setL_valid _ _) h2 kk 256 0 rfl fun y hy => by omega⟩
end Go.Proofs.Ytkcklnmbeinfkaa.PB3
end
section
namespace Go.Proofs.Ytkcklnmbeinfkaa.PBS
open Go.RowKit Go.Proofs.YtkcklnmbeinfkaaW.PrintWords Go.Proofs.YtkcklnmbeinfkaaW.PrintLast Go.Proofs.YtkcklnmbeinfkaaW.PrintMore Go.Proofs.Ytkcklnmbeinfkaa.B Go.Proofs.LT Go.Proofs.Ytkcklnmbeinfkaa.PB3
set_option linter.unusedVariables false
set_option linter.unusedSimpArgs false
theorem copy_loop (ps : List (List Sp)) (a : Int) (hI : In2 ps) : ∀ (n i : Nat), i + n = ps.length → Ev (fun k => leadtrailref08_CopyShape.l0 k (i : Int) ps a (ps.take i) a) (ps, a)
  | 0, i, hi => by
    refine evSucc ?_
    simp only [leadtrailref08_CopyShape.l0, if_neg (show ¬ (i : Int) < (ps.length : Int) by omega)]
    rw [List.take_of_length_le (by omega)]
    exact evNow _
  | n + 1, i, hi => by
    have hil : i < ps.length := by omega
    have ih := copy_loop ps a hI n (i + 1) (by omega)
    have h1 := hI.2 _ (List.getElem_mem hil)
    have h2 := hI.1
    unfold In1 at h1
    have hw : Aside0 (wrap64 ((i : Int) + 1) = ((i + 1 : Nat) : Int)) := Aside0.mk (by rw [w64 (by omega) (by omega)]; rfl)
    have e : ps.take i ++ [([] : List Sp) ++ ps[i]] = ps.take (i + 1) := by rw [List.nil_append, List.take_succ_eq_append_getElem hil]
    refine evSucc ?_
    simp only [leadtrailref08_CopyShape.l0, if_pos (show (i : Int) < (ps.length : Int) by omega), Option.bind_some, if_pos (show (0 : Int) ≤ (i : Int) by omega), rdL_at ps i hil, List.length_nil, if_pos (show 0 + (ps[i]).length < 8796093022208 by omega), if_pos (show (ps.take i).length < 5864062014805 by rw [List.length_take]; omega), hw.out, e]
    exact ih
theorem Copy_is (ps : List (List Sp)) (a : Int) (hI : In2 ps) : Ev (fun k => leadtrailref08_CopyShape.f k ps a) (ps, a) := by
  have := copy_loop ps a hI ps.length 0 (by omega)
  rw [List.take_zero] at this
  exact this
theorem refSize_at (p : List Sp) (hp : In1 p) (h : okPart p = true) : Ev (fun k => leadtrailref03_Size.f k p) (size (runs p)) := by
  have := refSize_is p hp
  rwa [show p.map L113 = runs p from rfl, setL_of (okPart_good h).1] at this
theorem refCount_loop (ps : List (List Sp)) (a : Int) (hI : In2 ps) (hk : ps.all okPart = true) (hl : ps.length ≤ 8) : ∀ (n i : Nat) (m : Int), i + n = ps.length → 1 ≤ m → m ≤ 1073741825 →
    Ev (fun k => leadtrailref08_Count.l0 k m (i : Int) ps a) (capd m (ps.drop i))
  | 0, i, m, hi, _, _ => by
    refine evSucc ?_
    simp only [leadtrailref08_Count.l0, if_neg (show ¬ (i : Int) < (ps.length : Int) by omega)]
    rw [List.drop_of_length_le (by omega)]
    exact evNow _
  | n + 1, i, m, hi, h0, h1 => by
    have hil : i < ps.length := by omega
    have hp := good_part hk hil
    have hs := okPart_good hp
    have hz := size_256 hs.1
    have hb : 1 ≤ m * size (runs ps[i]) := by have := Int.mul_le_mul h0 hs.2 (by omega) (by omega); omega
    have hc : m * size (runs ps[i]) ≤ 1073741825 * 256 := Int.mul_le_mul h1 hz (by omega) (by omega)
    have hw : Aside0 (wrap64 (m * size (runs ps[i])) = m * size (runs ps[i])) := Aside0.mk (w64 (by omega) (by omega))
    have hw2 : Aside0 (wrap64 ((i : Int) + 1) = ((i + 1 : Nat) : Int)) := Aside0.mk (by rw [w64 (by omega) (by omega)]; rfl)
    have e : capd m (ps.drop i) = capd (min (m * size (runs ps[i])) 1073741825) (ps.drop (i + 1)) := by rw [List.drop_eq_getElem_cons hil]; rfl
    refine evSucc ?_
    simp only [leadtrailref08_Count.l0, if_pos (show (i : Int) < (ps.length : Int) by omega), if_pos (show (0 : Int) ≤ (i : Int) by omega), rdL_at ps i hil]
    refine Ev.bind (refSize_at _ (hI.2 _ (List.getElem_mem _)) hp) ?_
    simp only [hw.out, hw2.out]
    rw [e]
    by_cases c : m * size (runs ps[i]) > 1073741824
    · simp only [if_pos c]
      rw [show min (m * size (runs ps[i])) 1073741825 = 1073741825 by omega]
      exact refCount_loop ps a hI hk hl n (i + 1) _ (by omega) (by omega) (by omega)
    · simp only [if_neg c]
      rw [show min (m * size (runs ps[i])) 1073741825 = m * size (runs ps[i]) by omega]
      exact refCount_loop ps a hI hk hl n (i + 1) _ (by omega) (by omega) (by omega)
theorem refCount8_is (ps : List (List Sp)) (a : Int) (hI : In2 ps) (hk : ps.all okPart = true) (hl : ps.length ≤ 8) : Ev (fun k => leadtrailref08_Count.f k ps a) (min (cnt (sets ps)) 1073741825) := by
  have := refCount_loop ps a hI hk hl ps.length 0 1 (by omega) (by omega) (by omega)
  rw [List.drop_zero, capd_is ps 1 hk (by omega) (by omega), Int.one_mul] at this
  exact this
theorem refVShape_loop (ps : List (List Sp)) (a : Int) (hI : In2 ps) (hl : ps.length ≤ 8) (a0 : 0 ≤ a) (a1 : a ≤ 1073741823) : ∀ (n i : Nat), i + n = ps.length → (ps.take i).all okPart = true →
    Ev (fun k => leadtrailref08_ValidShape.l0 k (i : Int) ps a) (ps.all okPart && decide (a + cnt (sets ps) - 1 ≤ 1073741823))
  | 0, i, hi, hk => by
    rw [List.take_of_length_le (by omega)] at hk
    have hc := cnt_pos (good_of hk)
    refine evSucc ?_
    simp only [leadtrailref08_ValidShape.l0, if_neg (show ¬ (i : Int) < (ps.length : Int) by omega)]
    refine Ev.bind (refCount8_is ps a hI hk hl) ?_
    rw [hk, Bool.true_and, w64 (x := a + min (cnt (sets ps)) 1073741825) (by omega) (by omega), w64 (by omega) (by omega), show decide (a + min (cnt (sets ps)) 1073741825 - 1 ≤ 1073741823) = decide (a + cnt (sets ps) - 1 ≤ 1073741823) from decide_eq_decide.2 (by omega)]
    exact evNow _
  | n + 1, i, hi, hk => by
    have hil : i < ps.length := by omega
    have hw2 : Aside0 (wrap64 ((i : Int) + 1) = ((i + 1 : Nat) : Int)) := Aside0.mk (by rw [w64 (by omega) (by omega)]; rfl)
    have hbad : okPart ps[i] = false → ps.all okPart = false := fun h => by
      cases q : ps.all okPart
      · rfl
      · rw [good_part q hil] at h; cases h
    refine evSucc ?_
    simp only [leadtrailref08_ValidShape.l0, if_pos (show (i : Int) < (ps.length : Int) by omega), if_pos (show (0 : Int) ≤ (i : Int) by omega), rdL_at ps i hil]
    by_cases c : ((ps[i]).length : Int) = 0
    · simp only [if_pos c]
      rw [hbad (by simp only [okPart, decide_eq_true (show (ps[i]).length = 0 by omega)]; rfl), Bool.false_and]
      exact evNow _
    · simp only [if_neg c]
      have e : okPart ps[i] = validB 255 (-2) (runs ps[i]) := by simp only [okPart, decide_eq_false (show ¬ (ps[i]).length = 0 by omega)]; rfl
      refine Ev.bind (refValid_is ps[i] (hI.2 _ (List.getElem_mem _))) ?_
      rw [show (ps[i]).map L113 = runs ps[i] from rfl, ← e]
      cases q : okPart ps[i]
      · simp only [Bool.false_eq_true, if_false]
        rw [hbad q, Bool.false_and]
        exact evNow _
      · simp only [if_true, hw2.out]
        refine refVShape_loop ps a hI hl a0 a1 n (i + 1) (by omega) ?_
        rw [List.take_succ_eq_append_getElem hil, List.all_append, hk]
        simp [q]
theorem refVShape_is (ps : List (List Sp)) (a : Int) (hI : In2 ps) : Ev (fun k => leadtrailref08_ValidShape.f k ps a) (vShape ps a) := by
  have jT : Ev (fun k => leadtrailref08_ValidShape.j0 k true ps a) false := by
    refine evSucc ?_
    simp only [leadtrailref08_ValidShape.j0, if_true]; exact evNow _
  simp only [leadtrailref08_ValidShape.f]
  by_cases c1 : (ps.length : Int) < 1
  · simp only [if_pos c1, vShape, decide_eq_false (show ¬ (1 ≤ ps.length ∧ ps.length ≤ 8) by omega), Bool.false_and]; exact jT
  by_cases c2 : (ps.length : Int) > 8
  · simp only [if_neg c1, if_pos c2, vShape, decide_eq_false (show ¬ (1 ≤ ps.length ∧ ps.length ≤ 8) by omega), Bool.false_and]; exact jT
  simp only [if_neg c1, if_neg c2, vShape, decide_eq_true (show 1 ≤ ps.length ∧ ps.length ≤ 8 by omega), Bool.true_and]
  by_cases c3 : a < 0
  · simp only [if_pos c3, decide_eq_false (show ¬ (0 ≤ a ∧ a ≤ 1073741823) by omega), Bool.false_and]; exact jT
  by_cases c4 : a > 1073741823
  · simp only [if_neg c3, decide_eq_true c4, decide_eq_false (show ¬ (0 ≤ a ∧ a ≤ 1073741823) by omega), Bool.false_and]; exact jT
  simp only [if_neg c3, decide_eq_false c4, decide_eq_true (show 0 ≤ a ∧ a ≤ 1073741823 by omega), Bool.true_and]
  refine evSucc ?_
  simp only [leadtrailref08_ValidShape.j0, Bool.false_eq_true, if_false]
  exact refVShape_loop ps a hI (by omega) (by omega) (by omega) ps.length 0 (by omega) rfl
theorem refCount_is (ps : List (List Sp)) (a : Int) (hI : In2 ps) : Ev (fun k => leadtrailref09_Count.f k ps a) (if vShape ps a = true then cnt (sets ps) else 0) := by
  simp only [leadtrailref09_Count.f]
  refine Ev.bind (refVShape_is ps a hI) ?_
  cases hv : vShape ps a
  · simp only [Bool.false_eq_true, if_false]; exact evNow _
  · simp only [if_true]
    obtain ⟨⟨l1, l2⟩, ⟨a1, a2⟩, hk, hg, hc⟩ := vShape_good hv
    have := refCount8_is ps a hI hk l2
    rw [show min (cnt (sets ps)) 1073741825 = cnt (sets ps) by omega] at this
    exact Ev.bind this (evNow _)
theorem rd_get (l : List Int) (i : Nat) (h : i < l.length) : rd l (i : Int) = l[i] := rd_at l i _ (List.getElem?_eq_getElem h)
end Go.Proofs.Ytkcklnmbeinfkaa.PBS
end
section
namespace Go.Proofs.Ytkcklnmbeinfkaa.PBS
open Go.RowKit Go.Proofs.YtkcklnmbeinfkaaW.PrintWords Go.Proofs.YtkcklnmbeinfkaaW.PrintLast Go.Proofs.YtkcklnmbeinfkaaW.PrintMore Go.Proofs.Ytkcklnmbeinfkaa.B Go.Proofs.LT Go.Proofs.Ytkcklnmbeinfkaa.PB3
set_option linter.unusedVariables false
set_option linter.unusedSimpArgs false
noncomputable def cntS (ps : List (List Sp)) (a : Int) : Int := if vShape ps a = true then cnt (sets ps) else 0
noncomputable def okB (ps : List (List Sp)) (a k : Int) : Bool := decide (0 ≤ k ∧ k < cntS ps a)
noncomputable def unS (ps : List (List Sp)) (a k : Int) : List Int := if okB ps a k = true then unr (sets ps) k else []
theorem okB_of {ps : List (List Sp)} {a k : Int} (h : okB ps a k = true) : vShape ps a = true ∧ 0 ≤ k ∧ k < cnt (sets ps) := by
  have h := of_decide_eq_true h
  by_cases hv : vShape ps a = true
  · have e : cntS ps a = cnt (sets ps) := if_pos hv
    exact ⟨hv, h.1, by omega⟩
  · have e : cntS ps a = 0 := if_neg hv
    omega
theorem Unrank_is (ps : List (List Sp)) (a k : Int) (hI : In2 ps) : Ev (fun n => shape_Unrank.f n ps a k) (unS ps a k, okB ps a k) := by
  cases h : okB ps a k
  · have := Unrank_no ps a k hI (of_decide_eq_false h)
    simpa [unS, h] using this
  · obtain ⟨hv, h0, h1⟩ := okB_of h
    have := Unrank_yes hI hv h0 h1
    simpa [unS, h] using this
end Go.Proofs.Ytkcklnmbeinfkaa.PBS
namespace Go.Proofs.Ytkcklnmbeinfkaa.Pure
open Go.Proofs.Ytkcklnmbeinfkaa.B Go.Proofs.YtkcklnmbeinfkaaW.PrintWords
end Go.Proofs.Ytkcklnmbeinfkaa.Pure
end
section
namespace Go.Proofs.Ytkcklnmbeinfkaa.PBS
open Go.RowKit Go.Proofs.YtkcklnmbeinfkaaW.PrintWords Go.Proofs.YtkcklnmbeinfkaaW.PrintLast Go.Proofs.YtkcklnmbeinfkaaW.PrintMore Go.Proofs.Ytkcklnmbeinfkaa.B Go.Proofs.LT Go.Proofs.Ytkcklnmbeinfkaa.PB3
set_option linter.unusedVariables false
set_option linter.unusedSimpArgs false
theorem div_mod_mul {k n c : Int} (hc : 0 < c) (hn : 0 < n) : k / (n * c) = k / c / n ∧ k % (n * c) = (k / c % n) * c + k % c := by
  have h1 := Int.emod_nonneg k (show c ≠ 0 by omega)
  have h2 := Int.emod_lt_of_pos k hc
  have h3 := Int.emod_nonneg (k / c) (show n ≠ 0 by omega)
  have h4 := Int.emod_lt_of_pos (k / c) hn
  have e1 := Int.ediv_mul_add_emod k c
  have e2 := Int.ediv_mul_add_emod (k / c) n
  have m0 := Int.mul_nonneg h3 (show 0 ≤ c by omega)
  have m1 := Int.mul_le_mul_of_nonneg_right (show k / c % n + 1 ≤ n by omega) (show 0 ≤ c by omega)
  rw [Int.add_mul, Int.one_mul] at m1
  refine (Int.ediv_emod_unique (Int.mul_pos hn hc)).2 ⟨?_, by omega, by omega⟩
  have e3 : n * c * (k / c / n) = k / c / n * n * c := by rw [Int.mul_comm, Int.mul_assoc]
  rw [e3]
  have e4 : k / c * c = (k / c / n * n + k / c % n) * c := by rw [e2]
  rw [Int.add_mul] at e4
  omega
theorem refSelect_at (p : List Sp) (d : Int) (hi : In1 p) (hk : okPart p = true) (h0 : 0 ≤ d) (h1 : d < size (runs p)) : Ev (fun k => leadtrailref03_Select.f k p d) (selV (runs p) d, true) := by
  have hs := okPart_good hk
  obtain ⟨r, r1, r2⟩ := refSelect_is p d hi
  rw [show p.map L113 = runs p from rfl, setL_of hs.1] at r2
  have hS := selV_spec hs.1 h0 h1
  obtain rfl := Sel.uniq hs.1 r2 (.inl ⟨_, hS.1, hS.2, rfl⟩)
  exact r1
theorem refUnrank_loop (ps : List (List Sp)) (a K : Int) (hI : In2 ps) (hk : ps.all okPart = true) (hl : ps.length ≤ 8) (hc : cnt (sets ps) ≤ 1073741824) (k0 : 0 ≤ K) (k1 : K < cnt (sets ps)) : ∀ (i : Nat), i ≤ ps.length →
    Ev (fun k => leadtrailref09_Unrank.l0 k (K / cnt (sets (ps.drop i))) ((i : Int) - 1) (List.replicate i 0 ++ unr (sets (ps.drop i)) (K % cnt (sets (ps.drop i)))) ps a) (unr (sets ps) K, true)
  | 0, _ => by
    refine evSucc ?_
    rw [List.drop_zero, Int.emod_eq_of_lt k0 k1]
    simp only [leadtrailref09_Unrank.l0, if_neg (show ¬ (((0 : Nat) : Int) - 1 ≥ 0) by omega)]
    simpa using evNow (unr (sets ps) K, true)
  | i + 1, hi => by
    have hil : i < ps.length := by omega
    have ih := refUnrank_loop ps a K hI hk hl hc k0 k1 i (by omega)
    have hg := good_of hk
    have hp := good_part hk hil
    have hs := okPart_good hp
    have hz := size_256 hs.1
    have hpos : 1 ≤ cnt (sets (ps.drop (i + 1))) := by have := cnt_pos (hg.drop (i + 1)); rwa [sets_drop] at this
    have hcs := cnt_step ps i hil
    obtain ⟨e1, e2⟩ := div_mod_mul (k := K) (show 0 < cnt (sets (ps.drop (i + 1))) by omega) (show 0 < size (runs ps[i]) by omega)
    rw [← hcs] at e1 e2
    have q0 : 0 ≤ K / cnt (sets (ps.drop (i + 1))) := Int.ediv_nonneg k0 (by omega)
    have q1 : K / cnt (sets (ps.drop (i + 1))) ≤ K := Int.ediv_le_self _ k0
    have d0 := Int.emod_nonneg (K / cnt (sets (ps.drop (i + 1)))) (show size (runs ps[i]) ≠ 0 by omega)
    have d1 := Int.emod_lt_of_pos (K / cnt (sets (ps.drop (i + 1)))) (show 0 < size (runs ps[i]) by omega)
    have r0 := Int.emod_nonneg K (show cnt (sets (ps.drop (i + 1))) ≠ 0 by omega)
    have r1 := Int.emod_lt_of_pos K (show 0 < cnt (sets (ps.drop (i + 1))) by omega)
    have hr := hs.1.range (selV_spec hs.1 d0 d1).1
    have t1 : Int.tdiv (K / cnt (sets (ps.drop (i + 1)))) (size (runs ps[i])) = K / cnt (sets (ps.drop i)) := by rw [Int.tdiv_eq_ediv_of_nonneg q0, e1]
    have t2 : Int.tmod (K / cnt (sets (ps.drop (i + 1)))) (size (runs ps[i])) = K / cnt (sets (ps.drop (i + 1))) % size (runs ps[i]) := Int.tmod_eq_emod_of_nonneg q0
    have q3 : 0 ≤ K / cnt (sets (ps.drop i)) := by rw [e1]; exact Int.ediv_nonneg q0 (by omega)
    have q4 : K / cnt (sets (ps.drop i)) ≤ K := by rw [e1]; exact Int.le_trans (Int.ediv_le_self _ q0) q1
    have hw : Aside0 (wrap64 (K / cnt (sets (ps.drop i))) = K / cnt (sets (ps.drop i))) := Aside0.mk (w64 (by omega) (by omega))
    have hw2 : Aside0 (wrap64 ((i : Int) - 1) = (i : Int) - 1) := Aside0.mk (w64 (by omega) (by omega))
    have hm : selV (runs ps[i]) (K / cnt (sets (ps.drop (i + 1))) % size (runs ps[i])) % 256 = selV (runs ps[i]) (K / cnt (sets (ps.drop (i + 1))) % size (runs ps[i])) := Int.emod_eq_of_lt hr.1 (by omega)
    have hlen : ((List.replicate (i + 1) (0 : Int) ++ unr (sets (ps.drop (i + 1))) (K % cnt (sets (ps.drop (i + 1))))).length : Nat) = ps.length := by
      rw [List.length_append, List.length_replicate, unr_len, sets_len, List.length_drop]; omega
    have eu : unr (sets (ps.drop i)) (K % cnt (sets (ps.drop i))) = selV (runs ps[i]) (K / cnt (sets (ps.drop (i + 1))) % size (runs ps[i])) :: unr (sets (ps.drop (i + 1))) (K % cnt (sets (ps.drop (i + 1)))) := by
      have e3 : (K % cnt (sets (ps.drop i))) / cnt (sets (ps.drop (i + 1))) = K / cnt (sets (ps.drop (i + 1))) % size (runs ps[i]) := by
        rw [e2, Int.add_comm, Int.add_mul_ediv_right _ _ (by omega), Int.ediv_eq_zero_of_lt r0 r1]; omega
      have e4 : (K % cnt (sets (ps.drop i))) % cnt (sets (ps.drop (i + 1))) = K % cnt (sets (ps.drop (i + 1))) := by
        rw [e2, Int.add_comm, Int.add_mul_emod_self_right, Int.emod_eq_of_lt r0 r1]
      rw [← e3, ← e4]
      rw [List.drop_eq_getElem_cons hil]; exact unr_cons _ _ _
    refine evSucc ?_
    rw [show (((i + 1 : Nat) : Int) - 1) = (i : Int) by omega]
    simp only [leadtrailref09_Unrank.l0, if_pos (show (i : Int) ≥ 0 by omega), if_pos (show (0 : Int) ≤ (i : Int) by omega), if_pos (show (i : Int) < ((ps.length : Nat) : Int) by omega), rdL_at ps i hil]
    refine Ev.bind (refSize_at _ (hI.2 _ (List.getElem_mem _)) hp) ?_
    simp only [if_neg (show ¬ size (runs ps[i]) = 0 by omega)]
    simp only [t1, t2]
    refine Ev.bind (refSelect_at _ _ (hI.2 _ (List.getElem_mem _)) hp d0 d1) ?_
    simp only [hlen, if_pos (show (i : Int) < ((ps.length : Nat) : Int) by omega), hw.out, hw2.out, hm, Int.toNat_natCast, set_mid]
    rw [← eu]
    exact ih
theorem refUnrank_is (ps : List (List Sp)) (a k : Int) (hI : In2 ps) : Ev (fun n => leadtrailref09_Unrank.f n ps a k) (unS ps a k, okB ps a k) := by
  have jT : Ev (fun n => leadtrailref09_Unrank.j0 n k true ps a) ([], false) := by
    refine evSucc ?_
    simp only [leadtrailref09_Unrank.j0, if_true]; exact evNow _
  have no : okB ps a k = false → (unS ps a k, okB ps a k) = ([], false) := fun h => by rw [h]; unfold unS; rw [h]; rfl
  simp only [leadtrailref09_Unrank.f]
  by_cases c : k < 0
  · simp only [if_pos c]
    rw [no (decide_eq_false (by omega))]; exact jT
  · simp only [if_neg c]
    refine Ev.bind (show Ev _ (cntS ps a) from refCount_is ps a hI) ?_
    cases h : okB ps a k
    · have := of_decide_eq_false h
      rw [decide_eq_true (show k ≥ cntS ps a by omega)]
      have e := no h
      rw [h] at e
      rw [e]; exact jT
    · obtain ⟨hv, h0, h1⟩ := okB_of h
      have h2 : 0 ≤ k ∧ k < cntS ps a := of_decide_eq_true h
      obtain ⟨⟨l1, l2⟩, ⟨a1, a2⟩, hk, hg, hc⟩ := vShape_good hv
      rw [decide_eq_false (show ¬ k ≥ cntS ps a by omega)]
      refine evSucc ?_
      have := refUnrank_loop ps a k hI hk l2 (by omega) h0 h1 ps.length (Nat.le_refl _)
      rw [List.drop_length, show cnt (sets []) = 1 from cnt_nil, Int.ediv_one, show unr (sets []) (k % 1) = [] from unr_nil _, List.append_nil] at this
      have hw2 : Aside0 (wrap64 ((ps.length : Int) - 1) = (ps.length : Int) - 1) := Aside0.mk (w64 (by omega) (by omega))
      simp only [leadtrailref09_Unrank.j0, Bool.false_eq_true, if_false, if_pos (show (0 : Int) ≤ ((ps.length : Nat) : Int) by omega), Int.toNat_natCast, if_pos (show ps.length ≤ 281474976710656 by omega), Option.bind_some, List.length_replicate, hw2.out]
      unfold unS
      simp only [h, if_true]
      exact this
end Go.Proofs.Ytkcklnmbeinfkaa.PBS
end
section
namespace Go.Proofs.Ytkcklnmbeinfkaa.PBS
open Go.RowKit Go.Proofs.YtkcklnmbeinfkaaW.PrintWords Go.Proofs.YtkcklnmbeinfkaaW.PrintLast Go.Proofs.YtkcklnmbeinfkaaW.PrintMore Go.Proofs.Ytkcklnmbeinfkaa.B Go.Proofs.LT Go.Proofs.Ytkcklnmbeinfkaa.PB3
set_option linter.unusedVariables false
set_option linter.unusedSimpArgs false
def C (p : Sh) : Cs := (sets p.f0, p.f1)
def cs (ss : List Sh) : List Cs := ss.map C
theorem last_C (p : Sh) : lastC (C p) = lastOf p := rfl
theorem vS_facts : ∀ (t pre : List Sh), vS pre t = true → (∀ p ∈ t, vShape p.f0 p.f1 = true) ∧ (∀ q ∈ pre, ∀ p ∈ t, meetsB p q = false) ∧ Apart (cs t)
  | [], _, _ => ⟨fun _ h => (by cases h), fun _ _ _ h => (by cases h), trivial⟩
  | p :: t, pre, h => by
    have h' : (vShape p.f0 p.f1 && (!(pre.any (meetsB p)) && vS (pre ++ [p]) t)) = true := h
    simp only [Bool.and_eq_true, Bool.not_eq_true'] at h'
    obtain ⟨h1, h2, h3⟩ := h'
    obtain ⟨k1, k2, k3⟩ := vS_facts t (pre ++ [p]) h3
    refine ⟨fun q hq => ?_, fun q hq r hr => ?_, fun r hr => ?_, k3⟩
    · rcases List.mem_cons.1 hq with rfl | hq
      · exact h1
      · exact k1 q hq
    · rcases List.mem_cons.1 hr with rfl | hr
      · cases e : meetsB r q
        · rfl
        · rw [List.any_eq_true.2 ⟨q, hq, e⟩] at h2; cases h2
      · exact k2 q (List.mem_append_left _ hq) r hr
    · obtain ⟨q, hq, rfl⟩ := List.mem_map.1 hr
      have e := k2 p (List.mem_append_right _ (List.mem_singleton.2 rfl)) q hq
      simp only [meetsB, Bool.and_eq_false_iff, decide_eq_false_iff_not] at e
      rw [last_C, last_C]
      show lastOf p < q.f1 ∨ lastOf q < p.f1
      omega
theorem vScheme_facts {ss : List Sh} (h : vScheme ss = true) : ss.length ≤ 32 ∧ (∀ p ∈ ss, vShape p.f0 p.f1 = true) ∧ Apart (cs ss) ∧ AllGood (cs ss) := by
  simp only [vScheme, Bool.and_eq_true, decide_eq_true_eq] at h
  obtain ⟨k1, k2, k3⟩ := vS_facts ss [] h.2
  refine ⟨h.1, k1, k3, fun p hp => ?_⟩
  obtain ⟨q, hq, rfl⟩ := List.mem_map.1 hp
  exact (vShape_good (k1 q hq)).2.2.2.1
theorem rdSh_at (ss : List Sh) (i : Nat) (h : i < ss.length) : rd_T50 ss (i : Int) = ss[i] := by simp [rd_T50, List.getD, h]
theorem succ_wrap (i : Nat) (h : i ≤ 4611686018427387904) : Aside0 (wrap64 ((i : Int) + 1) = ((i + 1 : Nat) : Int)) := Aside0.mk (by rw [w64 (by omega) (by omega)]; simp)
theorem refMeet_loop (ss : List Sh) (hI : InS ss) (i : Nat) (hi : i < ss.length) (hs : ss.length ≤ 32) (hv : ∀ p ∈ ss.take (i + 1), vShape p.f0 p.f1 = true) : ∀ (n j : Nat), j + n = i → ((ss.take j).any (meetsB ss[i]) = false) →
    Ev (fun k => leadtrailref08_meet.l0 k ss (i : Int) (j : Int)) ((ss.take i).any (meetsB ss[i]))
  | 0, j, hj, hno => by
    refine evSucc ?_
    obtain rfl : j = i := by omega
    simp only [leadtrailref08_meet.l0, if_neg (show ¬ (j : Int) < (j : Int) by omega)]
    rw [hno]; exact evNow _
  | n + 1, j, hj, hno => by
    have hjl : j < ss.length := by omega
    have vi := vShape_good (hv ss[i] (by rw [List.take_succ_eq_append_getElem hi]; exact List.mem_append_right _ (List.mem_singleton.2 rfl)))
    have vj := vShape_good (hv ss[j] (by
      have : (ss.take (i + 1))[j]'(by simp; omega) = ss[j] := List.getElem_take ..
      rw [← this]; exact List.getElem_mem _))
    have pi := cnt_pos vi.2.2.2.1
    have pj := cnt_pos vj.2.2.2.1
    have ci := refCount8_is ss[i].f0 ss[i].f1 (hI.2 _ (List.getElem_mem _)) vi.2.2.1 vi.1.2
    have cj := refCount8_is ss[j].f0 ss[j].f1 (hI.2 _ (List.getElem_mem _)) vj.2.2.1 vj.1.2
    rw [show min (cnt (sets ss[i].f0)) 1073741825 = cnt (sets ss[i].f0) by omega] at ci
    rw [show min (cnt (sets ss[j].f0)) 1073741825 = cnt (sets ss[j].f0) by omega] at cj
    have hw := succ_wrap j (by omega)
    have wi : Aside0 (wrap64 (wrap64 (ss[i].f1 + cnt (sets ss[i].f0)) - 1) = lastOf ss[i]) := Aside0.mk (by rw [w64 (x := ss[i].f1 + cnt (sets ss[i].f0)) (by omega) (by omega), w64 (by omega) (by omega)]; rfl)
    have wj : Aside0 (wrap64 (wrap64 (ss[j].f1 + cnt (sets ss[j].f0)) - 1) = lastOf ss[j]) := Aside0.mk (by rw [w64 (x := ss[j].f1 + cnt (sets ss[j].f0)) (by omega) (by omega), w64 (by omega) (by omega)]; rfl)
    have yes : meetsB ss[i] ss[j] = true → (ss.take i).any (meetsB ss[i]) = true := fun h => by
      refine List.any_eq_true.2 ⟨ss[j], ?_, h⟩
      have : (ss.take i)[j]'(by simp; omega) = ss[j] := List.getElem_take ..
      rw [← this]; exact List.getElem_mem _
    have next : meetsB ss[i] ss[j] = false → Ev (fun k => leadtrailref08_meet.l0 k ss (i : Int) (wrap64 ((j : Int) + 1))) ((ss.take i).any (meetsB ss[i])) := fun h => by
      rw [hw.out]
      refine refMeet_loop ss hI i hi hs hv n (j + 1) (by omega) ?_
      rw [List.take_succ_eq_append_getElem hjl, List.any_append, hno]
      simp [h]
    refine evSucc ?_
    simp only [leadtrailref08_meet.l0, if_pos (show (j : Int) < (i : Int) by omega), if_pos (show (0 : Int) ≤ (i : Int) by omega), if_pos (show (i : Int) < (ss.length : Int) by omega), if_pos (show (0 : Int) ≤ (j : Int) by omega), if_pos (show (j : Int) < (ss.length : Int) by omega), rdSh_at ss i hi, rdSh_at ss j hjl]
    refine Ev.bind cj ?_
    simp only [wj.out]
    by_cases c1 : ss[i].f1 ≤ lastOf ss[j]
    · simp only [if_pos c1]
      refine Ev.bind ci ?_
      simp only [wi.out]
      by_cases c2 : ss[j].f1 ≤ lastOf ss[i]
      · simp only [if_pos c2]
        rw [yes (by simp only [meetsB, decide_eq_true c1, decide_eq_true c2]; rfl)]; exact evNow _
      · simp only [if_neg c2]
        exact next (by simp only [meetsB, decide_eq_false c2, Bool.and_false])
    · simp only [if_neg c1]
      exact next (by simp only [meetsB, decide_eq_false c1, Bool.false_and])
theorem refValid_loop8 (ss : List Sh) (hI : InS ss) (hs : ss.length ≤ 32) : ∀ (n i : Nat), i + n = ss.length → (∀ p ∈ ss.take i, vShape p.f0 p.f1 = true) →
    Ev (fun k => leadtrailref08_Valid.l0 k (i : Int) ss) (vS (ss.take i) (ss.drop i))
  | 0, i, hi, hv => by
    refine evSucc ?_
    simp only [leadtrailref08_Valid.l0, if_neg (show ¬ (i : Int) < (ss.length : Int) by omega)]
    rw [List.drop_of_length_le (by omega)]; exact evNow _
  | n + 1, i, hi, hv => by
    have hil : i < ss.length := by omega
    have hw := succ_wrap i (by omega)
    have e : vS (ss.take i) (ss.drop i) = (vShape ss[i].f0 ss[i].f1 && (!((ss.take i).any (meetsB ss[i])) && vS (ss.take (i + 1)) (ss.drop (i + 1)))) := by
      rw [List.drop_eq_getElem_cons hil, List.take_succ_eq_append_getElem hil]; rfl
    rw [e]
    refine evSucc ?_
    simp only [leadtrailref08_Valid.l0, if_pos (show (i : Int) < (ss.length : Int) by omega), if_pos (show (0 : Int) ≤ (i : Int) by omega), rdSh_at ss i hil]
    refine Ev.bind (refVShape_is _ _ (hI.2 _ (List.getElem_mem _))) ?_
    cases hp : vShape ss[i].f0 ss[i].f1
    · simp only [Bool.false_eq_true, if_false, Bool.false_and]; exact evNow _
    · simp only [if_true, Bool.true_and]
      have hv' : ∀ p ∈ ss.take (i + 1), vShape p.f0 p.f1 = true := fun p hq => by
        rw [List.take_succ_eq_append_getElem hil] at hq
        rcases List.mem_append.1 hq with h | h
        · exact hv p h
        · rw [List.mem_singleton.1 h]; exact hp
      have hm := refMeet_loop ss hI i hil hs hv' i 0 (by omega) (by simp)
      refine Ev.bind (show Ev (fun k => leadtrailref08_meet.f k ss (i : Int)) _ from hm) ?_
      cases hq : (ss.take i).any (meetsB ss[i])
      · simp only [Bool.false_eq_true, if_false, Bool.not_false, Bool.true_and, hw.out]
        exact refValid_loop8 ss hI hs n (i + 1) (by omega) hv'
      · simp only [if_true, Bool.not_true, Bool.false_and]; exact evNow _
theorem refValid8_is (ss : List Sh) (hI : InS ss) : Ev (fun k => leadtrailref08_Valid.f k ss) (vScheme ss) := by
  simp only [leadtrailref08_Valid.f]
  by_cases c : (ss.length : Int) > 32
  · simp only [if_pos c]
    rw [show vScheme ss = false by simp only [vScheme, decide_eq_false (show ¬ ss.length ≤ 32 by omega), Bool.false_and]]
    exact evNow _
  · simp only [if_neg c]
    rw [show vScheme ss = vS [] ss by simp only [vScheme, decide_eq_true (show ss.length ≤ 32 by omega), Bool.true_and]]
    simpa using refValid_loop8 ss hI (by omega) ss.length 0 (by omega) (by simp)
theorem copyS_loop (ss : List Sh) (hI : InS ss) : ∀ (n i : Nat), i + n = ss.length → Ev (fun k => leadtrailref08_Copy.l0 k (i : Int) ss (ss.take i)) ss
  | 0, i, hi => by
    refine evSucc ?_
    simp only [leadtrailref08_Copy.l0, if_neg (show ¬ (i : Int) < (ss.length : Int) by omega)]
    rw [List.take_of_length_le (by omega)]; exact evNow _
  | n + 1, i, hi => by
    have hil : i < ss.length := by omega
    have h2 := hI.1
    have hw := succ_wrap i (by omega)
    have ih := copyS_loop ss hI n (i + 1) (by omega)
    rw [List.take_succ_eq_append_getElem hil] at ih
    refine evSucc ?_
    simp only [leadtrailref08_Copy.l0, if_pos (show (i : Int) < (ss.length : Int) by omega), if_pos (show (0 : Int) ≤ (i : Int) by omega), rdSh_at ss i hil]
    refine Ev.bind (Copy_is _ _ (hI.2 _ (List.getElem_mem _))) ?_
    simp only [if_pos (show (ss.take i).length < 4398046511104 by rw [List.length_take]; omega), hw.out]
    exact ih
theorem CopyS_is (ss : List Sh) (hI : InS ss) : Ev (fun k => leadtrailref08_Copy.f k ss) ss := by
  have := copyS_loop ss hI ss.length 0 (by omega)
  rw [List.take_zero] at this
  exact this
theorem okB_hit {ps : List (List Sp)} {a u : Int} (hv : vShape ps a = true) : okB ps a (u - a) = hitC u (sets ps, a) := by
  unfold okB hitC cntS
  rw [if_pos hv, Bool.eq_iff_iff, decide_eq_true_iff, Bool.and_eq_true, decide_eq_true_iff, decide_eq_true_iff]
  show 0 ≤ u - a ∧ _ ↔ a ≤ u ∧ _
  constructor <;> rintro ⟨h1, h2⟩ <;> exact ⟨by omega, h2⟩
theorem encC_cons (p : Cs) (t : List Cs) (u : Int) : encC (p :: t) u = if hitC u p = true then some (unr p.1 (u - p.2)) else encC t u := rfl
theorem cs_drop (ss : List Sh) (i : Nat) (h : i < ss.length) : cs (ss.drop i) = C ss[i] :: cs (ss.drop (i + 1)) := by rw [List.drop_eq_getElem_cons h]; rfl
theorem wf_range {x : Int} (h : (Lit.int .i64 x).wf = true) : -9223372036854775808 ≤ x ∧ x ≤ 9223372036854775807 := by
  simp [Lit.wf] at h
  exact ⟨h.1, h.2⟩
theorem encode_loop (ss : List Sh) (u : Int) (hI : InS ss) (hs : ss.length ≤ 32) (hv : ∀ p ∈ ss, vShape p.f0 p.f1 = true) (hu : (Lit.int .i64 u).wf = true) : ∀ (n i : Nat), i + n = ss.length →
    Ev (fun k => code_encode.l0 k u ss (ss.length : Int) (i : Int)) ((encC (cs (ss.drop i)) u).getD [])
  | 0, i, hi => by
    refine evSucc ?_
    simp only [code_encode.l0, if_neg (show ¬ (i : Int) < (ss.length : Int) by omega)]
    rw [List.drop_of_length_le (by omega)]; exact evNow _
  | n + 1, i, hi => by
    have hil : i < ss.length := by omega
    have hw := succ_wrap i (by omega)
    have hur := wf_range hu
    have vi := hv _ (List.getElem_mem hil)
    have vg := vShape_good vi
    have ih := encode_loop ss u hI hs hv hu n (i + 1) (by omega)
    rw [cs_drop ss i hil, encC_cons]
    refine evSucc ?_
    simp only [code_encode.l0, if_pos (show (i : Int) < (ss.length : Int) by omega), if_pos (show (0 : Int) ≤ (i : Int) by omega), rdSh_at ss i hil, hw.out]
    by_cases c : u < ss[i].f1
    · simp only [if_pos c, if_neg (show ¬ hitC u (C ss[i]) = true by rw [hitC_iff]; show ¬ (ss[i].f1 ≤ u ∧ _); omega)]
      exact ih
    · have w1 : Aside0 (wrap64 (u - ss[i].f1) = u - ss[i].f1) := Aside0.mk (w64 (by omega) (by omega))
      simp only [if_neg c, w1.out]
      refine Ev.bind (Unrank_is _ _ _ (hI.2 _ (List.getElem_mem _))) ?_
      have e := okB_hit (u := u) vi
      rw [show (sets ss[i].f0, ss[i].f1) = C ss[i] from rfl] at e
      simp only [unS, e]
      cases h : hitC u (C ss[i])
      · simp only [Bool.false_eq_true, if_false]; exact ih
      · have hlen : ¬ (unr (sets ss[i].f0) (u - ss[i].f1)).length = 0 := by rw [unr_len, sets_len]; have := vg.1; omega
        simp only [if_true, if_neg hlen]; exact evNow _
theorem encode_is (ss : List Sh) (u : Int) (hI : InS ss) (h : vScheme ss = true) (hu : (Lit.int .i64 u).wf = true) : Ev (fun k => code_encode.f k ss u) ((encC (cs ss) u).getD []) := by
  obtain ⟨h1, h2, _⟩ := vScheme_facts h
  have := encode_loop ss u hI h1 h2 hu ss.length 0 (by omega)
  rw [List.drop_zero] at this
  exact this
theorem find_loop (ss : List Sh) (u : Int) (hI : InS ss) (hs : ss.length ≤ 32) (hv : ∀ p ∈ ss, vShape p.f0 p.f1 = true) : ∀ (n i : Nat), i + n = ss.length →
    ∃ r, Ev (fun k => leadtrailref10_Find.l0 k u (i : Int) ss) r ∧ ((r = -1 ∧ encC (cs (ss.drop i)) u = none) ∨ ∃ (j : Nat) (hj : j < ss.length), r = (j : Int) ∧ hitC u (C ss[j]) = true ∧ encC (cs (ss.drop i)) u = some (unr (sets ss[j].f0) (u - ss[j].f1)))
  | 0, i, hi => by
    refine ⟨-1, evSucc ?_, .inl ⟨rfl, by rw [List.drop_of_length_le (by omega)]; rfl⟩⟩
    simp only [leadtrailref10_Find.l0, if_neg (show ¬ (i : Int) < (ss.length : Int) by omega)]; exact evNow _
  | n + 1, i, hi => by
    have hil : i < ss.length := by omega
    have hw := succ_wrap i (by omega)
    have vi := hv _ (List.getElem_mem hil)
    have vg := vShape_good vi
    have pi := cnt_pos vg.2.2.2.1
    have ci := refCount8_is ss[i].f0 ss[i].f1 (hI.2 _ (List.getElem_mem _)) vg.2.2.1 vg.1.2
    rw [show min (cnt (sets ss[i].f0)) 1073741825 = cnt (sets ss[i].f0) by omega] at ci
    have wi : Aside0 (wrap64 (wrap64 (ss[i].f1 + cnt (sets ss[i].f0)) - 1) = lastOf ss[i]) := Aside0.mk (by rw [w64 (x := ss[i].f1 + cnt (sets ss[i].f0)) (by omega) (by omega), w64 (by omega) (by omega)]; rfl)
    obtain ⟨r, ih, ihr⟩ := find_loop ss u hI hs hv n (i + 1) (by omega)
    have hlo : lastOf ss[i] = ss[i].f1 + cnt (sets ss[i].f0) - 1 := rfl
    have e1 : (C ss[i]).2 = ss[i].f1 ∧ (C ss[i]).1 = sets ss[i].f0 := ⟨rfl, rfl⟩
    have key : ∀ g : Nat → Option Int, (hitC u (C ss[i]) = true → Ev g (i : Int)) → (hitC u (C ss[i]) = false → Ev g r) →
        ∃ r, Ev g r ∧ ((r = -1 ∧ encC (cs (ss.drop i)) u = none) ∨ ∃ (j : Nat) (hj : j < ss.length), r = (j : Int) ∧ hitC u (C ss[j]) = true ∧ encC (cs (ss.drop i)) u = some (unr (sets ss[j].f0) (u - ss[j].f1))) := fun g ga gb => by
      rw [cs_drop ss i hil, encC_cons]
      cases hh : hitC u (C ss[i])
      · exact ⟨r, gb hh, ihr⟩
      · exact ⟨_, ga hh, .inr ⟨i, hil, rfl, hh, rfl⟩⟩
    refine key _ (fun hh => evSucc ?_) (fun hh => evSucc ?_)
    · have h' := hitC_iff.1 hh
      rw [e1.1, e1.2] at h'
      simp only [leadtrailref10_Find.l0, if_pos (show (i : Int) < (ss.length : Int) by omega), if_pos (show (0 : Int) ≤ (i : Int) by omega), rdSh_at ss i hil, if_pos (show u ≥ ss[i].f1 by omega)]
      refine Ev.bind ci ?_
      simp only [wi.out, if_pos (show u ≤ lastOf ss[i] by omega)]
      exact evNow _
    · have h' : ¬ (ss[i].f1 ≤ u ∧ u - ss[i].f1 < cnt (sets ss[i].f0)) := fun h => by
        have : hitC u (C ss[i]) = true := hitC_iff.2 h
        rw [hh] at this; cases this
      simp only [leadtrailref10_Find.l0, if_pos (show (i : Int) < (ss.length : Int) by omega), if_pos (show (0 : Int) ≤ (i : Int) by omega), rdSh_at ss i hil, hw.out]
      by_cases c : u ≥ ss[i].f1
      · simp only [if_pos c]
        refine Ev.bind ci ?_
        simp only [wi.out, if_neg (show ¬ u ≤ lastOf ss[i] by omega)]
        exact ih
      · simp only [if_neg c]; exact ih
def ofR : Option (List Int) → List Int × Bool
  | some b => (b, true)
  | none => ([], false)
theorem refOf_is (ss : List Sh) (u : Int) (hI : InS ss) (h : vScheme ss = true) (hu : (Lit.int .i64 u).wf = true) : Ev (fun k => leadtrailref10_Of.f k ss u) (ofR (encC (cs ss) u)) := by
  obtain ⟨h1, h2, _⟩ := vScheme_facts h
  obtain ⟨r, g1, g2⟩ := find_loop ss u hI h1 h2 ss.length 0 (by omega)
  rw [List.drop_zero] at g2
  have hur := wf_range hu
  simp only [leadtrailref10_Of.f]
  refine Ev.bind (show Ev (fun k => leadtrailref10_Find.f k ss u) r from g1) ?_
  rcases g2 with ⟨rfl, e⟩ | ⟨j, hj, rfl, hh, e⟩
  · rw [e]; simp only [if_pos (show (-1 : Int) < 0 by omega)]; exact evNow _
  · have vj := h2 _ (List.getElem_mem hj)
    have vg := vShape_good vj
    have h' := hitC_iff.1 hh
    have w1 : Aside0 (wrap64 (u - ss[j].f1) = u - ss[j].f1) := Aside0.mk (by
      have h3 : ss[j].f1 ≤ u := h'.1
      exact w64 (by omega) (by omega))
    have eo := okB_hit (u := u) vj
    rw [show (sets ss[j].f0, ss[j].f1) = C ss[j] from rfl, hh] at eo
    rw [e]
    simp only [if_neg (show ¬ (j : Int) < 0 by omega), if_pos (show (0 : Int) ≤ (j : Int) by omega), if_pos (show (j : Int) < (ss.length : Int) by omega), rdSh_at ss j hj, w1.out]
    refine Ev.bind (refUnrank_is _ _ _ (hI.2 _ (List.getElem_mem _))) ?_
    simp only [unS, eo, if_true]
    exact evNow _
def decR : Option Int → Int × Int
  | some v => (v, 0)
  | none => (0, 100)
def bst : Option Int → Int
  | some v => v
  | none => -1
theorem decode_loop (ss : List Sh) (bs : List Int) (hI : InS ss) (hb : ∀ b ∈ bs, 0 ≤ b ∧ b ≤ 255) (hs : ss.length ≤ 32) (hv : ∀ p ∈ ss, vShape p.f0 p.f1 = true) : ∀ (n i : Nat) (best : Option Int), i + n = ss.length → (∀ v, best = some v → 0 ≤ v) →
    Ev (fun k => code_Decode.l0 k bs (bst best) ss (ss.length : Int) (i : Int)) (decR (decC bs best (cs (ss.drop i))))
  | 0, i, best, hi, hp => by
    refine evSucc ?_
    simp only [code_Decode.l0, if_neg (show ¬ (i : Int) < (ss.length : Int) by omega)]
    rw [List.drop_of_length_le (by omega)]
    cases best with
    | none => simp only [bst, if_pos (show (-1 : Int) < 0 by omega)]; exact evNow (decR none)
    | some v => have := hp v rfl; simp only [if_neg (show ¬ bst (some v) < 0 from (show ¬ v < 0 by omega))]; exact evNow (decR (some v))
  | n + 1, i, best, hi, hp => by
    have hil : i < ss.length := by omega
    have hw := succ_wrap i (by omega)
    have vi := hv _ (List.getElem_mem hil)
    have vg := vShape_good vi
    rw [cs_drop ss i hil]
    show Ev _ (decR (decC bs (stepD bs (C ss[i]) best) (cs (ss.drop (i + 1)))))
    refine evSucc ?_
    simp only [code_Decode.l0, if_pos (show (i : Int) < (ss.length : Int) by omega), if_pos (show (0 : Int) ≤ (i : Int) by omega), rdSh_at ss i hil, hw.out]
    refine Ev.bind (Rank_is _ _ bs (hI.2 _ (List.getElem_mem _)) hb) ?_
    unfold rkS
    rw [if_pos vi]
    have e1 : (C ss[i]).2 = ss[i].f1 ∧ (C ss[i]).1 = sets ss[i].f0 := ⟨rfl, rfl⟩
    unfold stepD
    rw [e1.1, e1.2]
    cases hr : rnk (sets ss[i].f0) bs with
    | none =>
      simp only [rkR, Bool.false_eq_true, if_false]
      exact decode_loop ss bs hI hb hs hv n (i + 1) best (by omega) hp
    | some r =>
      obtain ⟨r0, r1, _⟩ := unr_rnk vg.2.2.2.1 hr
      have w1 : Aside0 (wrap64 (ss[i].f1 + r) = ss[i].f1 + r) := Aside0.mk (w64 (by omega) (by omega))
      simp only [rkR, if_true, w1.out]
      cases best with
      | none =>
        simp only [bst, if_pos (show (-1 : Int) < 0 by omega)]
        exact decode_loop ss bs hI hb hs hv n (i + 1) (some (ss[i].f1 + r)) (by omega) (fun v h => by obtain rfl := Option.some.inj h; omega)
      | some v =>
        have hv0 := hp v rfl
        simp only [if_neg (show ¬ bst (some v) < 0 from (show ¬ v < 0 by omega))]
        by_cases c : ss[i].f1 + r < v
        · simp only [if_pos c, if_pos (show ss[i].f1 + r < bst (some v) from c)]
          exact decode_loop ss bs hI hb hs hv n (i + 1) (some (ss[i].f1 + r)) (by omega) (fun v h => by obtain rfl := Option.some.inj h; omega)
        · simp only [if_neg c, if_neg (show ¬ ss[i].f1 + r < bst (some v) from c)]
          exact decode_loop ss bs hI hb hs hv n (i + 1) (some v) (by omega) hp
def decS (ss : List Sh) (bs : List Int) : Int × Int := if vScheme ss = true then decR (decC bs none (cs ss)) else (0, 84)
theorem Decode_is (ss : List Sh) (bs : List Int) (hI : InS ss) (hb : ∀ b ∈ bs, 0 ≤ b ∧ b ≤ 255) : Ev (fun k => code_Decode.f k ss bs) (decS ss bs) := by
  simp only [code_Decode.f]
  refine Ev.bind (schemeValid_is ss hI) ?_
  unfold decS
  cases h : vScheme ss
  · simp only [Bool.false_eq_true, if_false]; exact evNow _
  · obtain ⟨h1, h2, _⟩ := vScheme_facts h
    simp only [if_true]
    have := decode_loop ss bs hI hb h1 h2 ss.length 0 none (by omega) (fun v h => by cases h)
    rw [List.drop_zero] at this
    exact this
theorem enc_range {ss : List Sh} (h : vScheme ss = true) {u : Int} {x : List Int} (he : encC (cs ss) u = some x) : (0 ≤ u ∧ u ≤ 1073741823) ∧ (∀ b ∈ x, 0 ≤ b ∧ b ≤ 255) ∧ 1 ≤ x.length ∧ x.length ≤ 8 := by
  obtain ⟨h1, h2, _, h4⟩ := vScheme_facts h
  obtain ⟨p, hp, hh, rfl⟩ := encC_mem he
  obtain ⟨q, hq, rfl⟩ := List.mem_map.1 hp
  have vg := vShape_good (h2 q hq)
  have h' := hitC_iff.1 hh
  have e1 : (C q).2 = q.f1 ∧ (C q).1 = sets q.f0 := ⟨rfl, rfl⟩
  rw [e1.1, e1.2] at h'
  rw [e1.1, e1.2]
  refine ⟨by omega, unr_range vg.2.2.2.1 (by omega) h'.2, ?_⟩
  rw [unr_len, sets_len]
  exact vg.1
end Go.Proofs.Ytkcklnmbeinfkaa.PBS
end
section
namespace Go.Proofs.Ytkcklnmbeinfkaa.PBS
open Go.RowKit Go.Proofs.YtkcklnmbeinfkaaW.PrintWords Go.Proofs.YtkcklnmbeinfkaaW.PrintLast Go.Proofs.YtkcklnmbeinfkaaW.PrintMore Go.Proofs.Ytkcklnmbeinfkaa.B Go.Proofs.LT Go.Proofs.Ytkcklnmbeinfkaa.PB3
set_option linter.unusedVariables false
set_option linter.unusedSimpArgs false
def encR : Option (List Int) → List Int × Int
  | some b => (b, 0)
  | none => ([], 100)
noncomputable def encS (ss : List Sh) (u : Int) : List Int × Int := if vScheme ss = true then encR (encC (cs ss) u) else ([], 84)
theorem Encode_is (ss : List Sh) (u : Int) (hI : InS ss) (hu : (Lit.int .i64 u).wf = true) : Ev (fun k => code_Encode.f k ss u) (encS ss u) := by
  simp only [code_Encode.f]
  refine Ev.bind (schemeValid_is ss hI) ?_
  unfold encS
  cases h : vScheme ss
  · simp only [Bool.false_eq_true, if_false]; exact evNow _
  · simp only [if_true]
    refine Ev.bind (encode_is ss u hI h hu) ?_
    cases he : encC (cs ss) u with
    | none => simp only [Option.getD_none, List.length_nil, encR]; rw [if_pos (by rfl)]; exact evNow _
    | some b =>
      have := (enc_range h he).2.2
      simp only [Option.getD_some, encR, if_neg (show ¬ (b.length : Int) = 0 by omega)]; exact evNow _
def one1 (lo hi : Int) : List Sp := [⟨lo, hi⟩]
theorem one_valid {lo hi : Int} (h0 : 0 ≤ lo) (h1 : lo ≤ hi) (h2 : hi ≤ 255) : ValidFrom 255 (-2) (runs (one1 lo hi)) := ⟨h0, h1, h2, by show (-2 : Int) < lo - 1; omega, trivial⟩
theorem one_size (lo hi : Int) : size (runs (one1 lo hi)) = hi - lo + 1 := by
  show size [(lo, hi)] = _
  rw [size_cons, size_nil]; omega
theorem one_ok {lo hi : Int} (h0 : 0 ≤ lo) (h1 : lo ≤ hi) (h2 : hi ≤ 255) : okPart (one1 lo hi) = true := by
  simp only [okPart, (validB_iff _ _ _).2 (one_valid h0 h1 h2)]; rfl
theorem one_in (lo hi : Int) : In1 (one1 lo hi) := by show 1 * 16 ≤ 140737488351232; omega
theorem one_memB {lo hi x : Int} (h1 : lo ≤ x) (h2 : x ≤ hi) : memB (runs (one1 lo hi)) x = true := memB_iff.2 ⟨(lo, hi), List.mem_cons_self, h1, h2⟩
theorem one_cd {lo hi x : Int} (h0 : 0 ≤ lo) (h1 : lo ≤ x) (h2 : x ≤ hi) (h3 : hi ≤ 255) : (cd (memB (runs (one1 lo hi))) x.toNat : Int) = x - lo :=
  cd_in_first (r := (lo, hi)) (t := []) (one_valid h0 (by omega) h3) h1 (by show x ≤ hi + 1; omega)
def some10 : List Sh := [⟨[one1 194 223, one1 128 191], 128⟩, ⟨[one1 0 127], 0⟩]
theorem c10a : cnt (sets [one1 194 223, one1 128 191]) = 1920 := by
  show cnt [runs (one1 194 223), runs (one1 128 191)] = 1920
  rw [cnt_cons, cnt_cons, cnt_nil, one_size, one_size]; rfl
theorem c10b : cnt (sets [one1 0 127]) = 128 := by
  show cnt [runs (one1 0 127)] = 128
  rw [cnt_cons, cnt_nil, one_size]; rfl
theorem v10 : vScheme some10 = true := by
  have h1 : vShape [one1 194 223, one1 128 191] 128 = true := by
    unfold vShape
    rw [c10a]
    simp [one_ok (show (0 : Int) ≤ 194 by decide) (show (194 : Int) ≤ 223 by decide) (by decide), one_ok (show (0 : Int) ≤ 128 by decide) (show (128 : Int) ≤ 191 by decide) (by decide)]
  have h2 : vShape [one1 0 127] 0 = true := by
    unfold vShape
    rw [c10b]
    simp [one_ok (show (0 : Int) ≤ 0 by decide) (show (0 : Int) ≤ 127 by decide) (by decide)]
  have h3 : meetsB ⟨[one1 0 127], 0⟩ ⟨[one1 194 223, one1 128 191], 128⟩ = false := by
    simp only [meetsB, lastOf, c10a, c10b]; decide
  show (decide (2 ≤ 32) && (vShape [one1 194 223, one1 128 191] 128 && (!([] : List Sh).any (meetsB _) && (vShape [one1 0 127] 0 && (!([⟨[one1 194 223, one1 128 191], 128⟩] : List Sh).any (meetsB ⟨[one1 0 127], 0⟩) && true))))) = true
  rw [h1, h2]
  simp [h3]
theorem in10 : InS some10 := ⟨by decide, fun p hp => by
  rcases List.mem_cons.1 hp with rfl | hp
  · refine ⟨by decide, fun q hq => ?_⟩
    rcases List.mem_cons.1 hq with rfl | hq
    · exact one_in _ _
    · rw [List.mem_singleton.1 hq]; exact one_in _ _
  · rw [List.mem_singleton.1 hp]
    refine ⟨by decide, fun q hq => ?_⟩
    rw [List.mem_singleton.1 hq]; exact one_in _ _⟩
theorem rk10 : rnk (sets [one1 194 223, one1 128 191]) [195, 169] = some 105 := by
  show rnk [runs (one1 194 223), runs (one1 128 191)] [195, 169] = some 105
  rw [rnk_cons, if_pos (one_memB (by decide) (by decide)), rnk_cons, if_pos (one_memB (by decide) (by decide)), rnk_nil]
  simp only [Option.map_some, cnt_cons, cnt_nil, one_size, one_cd (show (0 : Int) ≤ 194 by decide) (show (194 : Int) ≤ 195 by decide) (show (195 : Int) ≤ 223 by decide) (by decide), one_cd (show (0 : Int) ≤ 128 by decide) (show (128 : Int) ≤ 169 by decide) (show (169 : Int) ≤ 191 by decide) (by decide)]
  rfl
theorem en10 : encC (cs some10) 233 = some [195, 169] := by
  obtain ⟨_, _, ha, hg⟩ := vScheme_facts v10
  have hm : ((sets [one1 194 223, one1 128 191], 128) : Cs) ∈ cs some10 := List.mem_cons_self
  have h := rnk_hit (hg _ hm) rk10
  have e : (128 : Int) + 105 = 233 := rfl
  simp only [e] at h
  rw [encC_of ha hm h.1, ← h.2]
theorem de10 : decC [195, 169] none (cs some10) = some 233 := by
  have h2 : rnk (sets [one1 0 127]) [195, 169] = none := by
    cases h : rnk (sets [one1 0 127]) [195, 169] with
    | none => rfl
    | some r => have := rnk_len h; simp [sets_len] at this
  show decC [195, 169] (stepD [195, 169] (sets [one1 0 127], 0) (stepD [195, 169] (sets [one1 194 223, one1 128 191], 128) none)) [] = _
  show stepD [195, 169] (sets [one1 0 127], 0) (stepD [195, 169] (sets [one1 194 223, one1 128 191], 128) none) = _
  simp only [stepD, rk10, h2]
  rfl
theorem fixed10 : Ev (fun k => leadtraillaw10_fixed.f k) true := by
  have hE := Encode_is some10 233 in10 (by decide)
  rw [show encS some10 233 = ([195, 169], 0) by unfold encS; rw [if_pos v10, en10]; rfl] at hE
  have hD := Decode_is some10 [195, 169] in10 (by decide)
  rw [show decS some10 [195, 169] = (233, 0) by unfold decS; rw [if_pos v10, de10]; rfl] at hD
  simp only [leadtraillaw10_fixed.f, leadtraillaw10_some.f, Option.bind_some]
  refine Ev.bind hE (Ev.bind hD ?_)
  have e : (strOfNums [195, 169]).toList = ([195, 169] : List UInt8) := by rw [Lib.strOfNums_toList]; decide
  simp only [if_true, e]
  exact evNow _
end Go.Proofs.Ytkcklnmbeinfkaa.PBS
end
section
namespace Go.Proofs.Ytkcklnmbeinfkaa.PBS
open Go.RowKit Go.Proofs.YtkcklnmbeinfkaaW.PrintWords Go.Proofs.YtkcklnmbeinfkaaW.PrintLast Go.Proofs.YtkcklnmbeinfkaaW.PrintMore Go.Proofs.Ytkcklnmbeinfkaa.B Go.Proofs.LT Go.Proofs.Ytkcklnmbeinfkaa.PB3
set_option linter.unusedVariables false
set_option linter.unusedSimpArgs false
noncomputable def textR (l : List Cs) : List Int → Int → List Int → List Int × Int × Int
  | out, _, [] => (out, 0, 0)
  | out, i, u :: t => match encC l u with
    | some b => textR l (out ++ b) (i + 1) t
    | none => ([], i, 100)
theorem text_loop (ss : List Sh) (us : List Int) (hI : InS ss) (h : vScheme ss = true) (hu : ∀ u ∈ us, (Lit.int .i64 u).wf = true) (hl : us.length * 8 ≤ 140737488351232) : ∀ (n i : Nat) (out : List Int), i + n = us.length → out.length ≤ 8 * i →
    Ev (fun k => code_Text.l0 k out us (us.length : Int) (i : Int) ss) (textR (cs ss) out (i : Int) (us.drop i)) ∧ Ev (fun k => leadtrailref10_Text.l0 k us out (i : Int) ss) (textR (cs ss) out (i : Int) (us.drop i))
  | 0, i, out, hi, ho => by
    rw [List.drop_of_length_le (by omega)]
    refine ⟨evSucc ?_, evSucc ?_⟩
    · simp only [code_Text.l0, if_neg (show ¬ (i : Int) < (us.length : Int) by omega)]; exact evNow _
    · simp only [leadtrailref10_Text.l0, if_neg (show ¬ (i : Int) < (us.length : Int) by omega)]; exact evNow _
  | n + 1, i, out, hi, ho => by
    have hil : i < us.length := by omega
    have hw := succ_wrap i (by omega)
    have hw1 := hu _ (List.getElem_mem hil)
    have hE := encode_is ss us[i] hI h hw1
    have hO := refOf_is ss us[i] hI h hw1
    have hrd := rd_get us i hil
    rw [List.drop_eq_getElem_cons hil]
    cases he : encC (cs ss) us[i] with
    | none =>
      rw [he] at hE hO
      have e : textR (cs ss) out (i : Int) (us[i] :: us.drop (i + 1)) = ([], (i : Int), 100) := by show (match encC (cs ss) us[i] with | some b => _ | none => _) = _; rw [he]
      rw [e]
      refine ⟨evSucc ?_, evSucc ?_⟩
      · simp only [code_Text.l0, if_pos (show (i : Int) < (us.length : Int) by omega), if_pos (show (0 : Int) ≤ (i : Int) by omega), hrd]
        refine Ev.bind hE ?_
        simp only [Option.getD_none, List.length_nil, if_pos (show ((0 : Nat) : Int) = 0 from rfl)]; exact evNow _
      · simp only [leadtrailref10_Text.l0, if_pos (show (i : Int) < (us.length : Int) by omega), if_pos (show (0 : Int) ≤ (i : Int) by omega), hrd]
        refine Ev.bind hO ?_
        simp only [ofR, Bool.false_eq_true, if_false]; exact evNow _
    | some b =>
      rw [he] at hE hO
      have hr := (enc_range h he).2.2
      have e : textR (cs ss) out (i : Int) (us[i] :: us.drop (i + 1)) = textR (cs ss) (out ++ b) ((i : Int) + 1) (us.drop (i + 1)) := by show (match encC (cs ss) us[i] with | some b => _ | none => _) = _; rw [he]
      rw [e, show (i : Int) + 1 = ((i + 1 : Nat) : Int) by omega]
      obtain ⟨ih1, ih2⟩ := text_loop ss us hI h hu hl n (i + 1) (out ++ b) (by omega) (by rw [List.length_append]; omega)
      refine ⟨evSucc ?_, evSucc ?_⟩
      · simp only [code_Text.l0, if_pos (show (i : Int) < (us.length : Int) by omega), if_pos (show (0 : Int) ≤ (i : Int) by omega), hrd]
        refine Ev.bind hE ?_
        simp only [Option.getD_some, if_neg (show ¬ (b.length : Int) = 0 by omega), if_pos (show out.length + b.length < 140737488355328 by omega), hw.out]
        exact ih1
      · simp only [leadtrailref10_Text.l0, if_pos (show (i : Int) < (us.length : Int) by omega), if_pos (show (0 : Int) ≤ (i : Int) by omega), hrd]
        refine Ev.bind hO ?_
        simp only [ofR, if_true, if_pos (show out.length + b.length < 140737488355328 by omega), hw.out]
        exact ih2
noncomputable def textS (ss : List Sh) (us : List Int) : List Int × Int × Int := if vScheme ss = true then textR (cs ss) [] 0 us else ([], 0, 84)
theorem Text_is (ss : List Sh) (us : List Int) (hI : InS ss) (hu : ∀ u ∈ us, (Lit.int .i64 u).wf = true) (hl : us.length * 8 ≤ 140737488351232) : Ev (fun k => code_Text.f k ss us) (textS ss us) ∧ Ev (fun k => leadtrailref10_Text.f k ss us) (textS ss us) := by
  unfold textS
  cases h : vScheme ss
  · refine ⟨?_, ?_⟩
    · simp only [code_Text.f]
      refine Ev.bind (schemeValid_is ss hI) ?_
      simp only [h, Bool.false_eq_true, if_false]; exact evNow _
    · simp only [leadtrailref10_Text.f]
      refine Ev.bind (refValid8_is ss hI) ?_
      simp only [h, Bool.false_eq_true, if_false]; exact evNow _
  · obtain ⟨h1, h2⟩ := text_loop ss us hI h hu hl us.length 0 [] (by omega) (by simp)
    rw [List.drop_zero] at h1 h2
    refine ⟨?_, ?_⟩
    · simp only [code_Text.f]
      refine Ev.bind (schemeValid_is ss hI) ?_
      simp only [h, if_true]; exact h1
    · simp only [leadtrailref10_Text.f]
      refine Ev.bind (refValid8_is ss hI) ?_
      simp only [h, if_true]; exact h2
theorem leadtraillaw10_CodeText_ev (ss : List Sh) (us : List Int) (hI : InS ss) (hu : ∀ u ∈ us, (Lit.int .i64 u).wf = true) (hl : us.length * 8 ≤ 140737488351232) : Ev (fun k => leadtraillaw10_CodeText.f k ss us) true := by
  simp only [leadtraillaw10_CodeText.f]
  refine Ev.bind fixed10 ?_
  simp only [if_true]
  refine Ev.bind (CopyS_is ss hI) ?_
  simp only [Option.bind_some, List.length_nil, Nat.zero_add, if_pos (show us.length < 17592186044416 by omega), List.nil_append]
  obtain ⟨h1, h2⟩ := Text_is ss us hI hu hl
  refine Ev.bind h1 (Ev.bind h2 ?_)
  simp only [if_true, beq_self_eq_true]
  exact evNow _
end Go.Proofs.Ytkcklnmbeinfkaa.PBS
namespace Go.Proofs.Ytkcklnmbeinfkaa.Pure
open Go.Proofs.Ytkcklnmbeinfkaa.B Go.Proofs.YtkcklnmbeinfkaaW.PrintWords
theorem CodeText : ∀ (l0_0 : List S50) (l1 : List Int), (l0_0.length * 32 ≤ 140737488351232 ∧ ∀ x ∈ l0_0, ((x.f0.length * 24 ≤ 140737488351232 ∧ ∀ y ∈ x.f0, (y.length * 16 ≤ 140737488351232 ∧ ∀ x ∈ y, ((Lit.int .i64 x.f0).wf = true ∧ (Lit.int .i64 x.f1).wf = true))) ∧ (Lit.int .i64 x.f1).wf = true)) → (l1.length * 8 ≤ 140737488351232 ∧ ∀ x ∈ l1, (Lit.int .i64 x).wf = true) → ∃ k, leadtraillaw10_CodeText.f k l0_0 l1 = some true :=
  fun l0 l1 h h1 => Ev.rounds (PBS.leadtraillaw10_CodeText_ev l0 l1 ⟨h.1, fun p hp => ⟨(h.2 p hp).1.1, fun x hx => ((h.2 p hp).1.2 x hx).1⟩⟩ h1.2 h1.1)
end Go.Proofs.Ytkcklnmbeinfkaa.Pure
end
