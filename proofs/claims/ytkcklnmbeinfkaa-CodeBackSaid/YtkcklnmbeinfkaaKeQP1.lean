/- Words and laws of this claim, of 5 texts. -/
import Derived.Test.YtkcklnmbeinfkaaKeBx0
import Derived.Test.YtkcklnmbeinfkaaKeBx9
import Derived.Test.YtkcklnmbeinfkaaKeBx10
import Derived.Test.YtkcklnmbeinfkaaKeQP0
import Derived.Lib.Bytes
import Derived.Test.YtkcklnmbeinfkaaKeBx20
import Derived.Test.YtkcklnmbeinfkaaKeBx13
import Derived.Test.YtkcklnmbeinfkaaKeBx23
import Derived.Test.YtkcklnmbeinfkaaKeBx28
import Derived.Test.YtkcklnmbeinfkaaKeBx29
import Derived.Test.YtkcklnmbeinfkaaKeBx14
import Derived.Test.YtkcklnmbeinfkaaKeBx15
import Derived.Test.YtkcklnmbeinfkaaKeBx3
import Derived.Test.YtkcklnmbeinfkaaKeQW1
section
namespace Go.Proofs.Ytkcklnmbeinfkaa.PBS
open Go.RowKit Go.Proofs.YtkcklnmbeinfkaaW.PrintWords Go.Proofs.YtkcklnmbeinfkaaW.PrintLast Go.Proofs.YtkcklnmbeinfkaaW.PrintMore Go.Proofs.Ytkcklnmbeinfkaa.B Go.Proofs.LT Go.Proofs.Ytkcklnmbeinfkaa.PB3
set_option linter.unusedVariables false
set_option linter.unusedSimpArgs false
theorem wf64 {x : Int} (h0 : -9223372036854775808 ≤ x) (h1 : x ≤ 9223372036854775807) : (Lit.int .i64 x).wf = true := by
  have h := wf_wrap .i64 x
  rwa [show IntKind.i64.wrap x = x from by rw [IntKind.wrap_i64]; omega] at h
theorem rdL_at (ps : List (List Sp)) (i : Nat) (h : i < ps.length) : rd_L4 ps (i : Int) = ps[i] := by simp [rd_L4, List.getD, h]
theorem rd_at (l : List Int) (i : Nat) (x : Int) (h : l[i]? = some x) : rd l (i : Int) = x := by simp [rd, List.getD, h]
theorem good_part {ps : List (List Sp)} (h : ps.all okPart = true) {i : Nat} (hi : i < ps.length) : okPart ps[i] = true := List.all_eq_true.1 h _ (List.getElem_mem hi)
theorem cnt_step (ps : List (List Sp)) (i : Nat) (hi : i < ps.length) : cnt (sets (ps.drop i)) = size (runs ps[i]) * cnt (sets (ps.drop (i + 1))) := by
  rw [List.drop_eq_getElem_cons hi]; exact cnt_cons _ _
theorem SP_step (ps : List (List Sp)) (i : Nat) (hi : i < ps.length) : SP (sets (ps.drop i)) = cnt (sets (ps.drop i)) :: SP (sets (ps.drop (i + 1))) := by
  rw [cnt_step ps i hi, List.drop_eq_getElem_cons hi]; exact (by rw [← cnt_cons]; exact SP_cons _)
theorem set_mid (i : Nat) (n : Int) (t : List Int) : (List.replicate (i + 1) 0 ++ t).set i n = List.replicate i 0 ++ n :: t := by
  rw [List.replicate_succ', List.append_assoc, List.set_append, if_neg (by simp), List.length_replicate, Nat.sub_self]; rfl
theorem steps_loop (ps : List (List Sp)) (a : Int) (hI : In2 ps) (hk : ps.all okPart = true) (hl : ps.length ≤ 8) (hc : cnt (sets ps) ≤ 1073741824) : ∀ (i : Nat), i ≤ ps.length →
    Ev (fun k => shape_steps.l0 k (cnt (sets (ps.drop i))) (i : Int) (List.replicate (i + 1) 0 ++ (SP (sets (ps.drop i))).tail) ps a) (SP (sets ps))
  | 0, _ => by
    refine evSucc ?_
    rw [List.drop_zero]
    have c : (0 : Int) < ((List.replicate (0 + 1) (0 : Int) ++ (SP (sets ps)).tail).length : Nat) := by simp
    simp only [shape_steps.l0, if_neg (show ¬ ((0 : Nat) : Int) > 0 by omega), if_pos c]
    have e : (List.replicate (0 + 1) (0 : Int) ++ (SP (sets ps)).tail).set (0 : Int).toNat (cnt (sets ps)) = SP (sets ps) := by
      rw [show (0 : Int).toNat = 0 from rfl, set_mid 0, ← SP_cons]
      first | done | rfl
    rw [e]
    exact evNow _
  | i + 1, hi => by
    have ih := steps_loop ps a hI hk hl hc i (by omega)
    have hg := good_of hk
    have hp := good_part hk (show i < ps.length by omega)
    have hs := okPart_good hp
    have hz := size_256 hs.1
    have hd := cnt_drop i hg
    rw [sets_drop, cnt_step ps i (by omega)] at hd
    have h1 : 1 ≤ cnt (sets (ps.drop (i + 1))) := by have := cnt_pos (hg.drop (i + 1)); rwa [sets_drop] at this
    have e1 : cnt (sets (ps.drop (i + 1))) * size (runs ps[i]) = cnt (sets (ps.drop i)) := by rw [cnt_step ps i (by omega), Int.mul_comm]
    have hpos : 0 ≤ size (runs ps[i]) * cnt (sets (ps.drop (i + 1))) := Int.mul_nonneg (by omega) (by omega)
    have hw : Aside0 (wrap64 (cnt (sets (ps.drop (i + 1))) * size (runs ps[i])) = cnt (sets (ps.drop i))) := Aside0.mk (by rw [w64 (by rw [Int.mul_comm]; omega) (by rw [Int.mul_comm]; omega), e1])
    have hw2 : Aside0 (wrap64 (((i + 1 : Nat) : Int) - 1) = (i : Int)) := Aside0.mk (by rw [w64 (by omega) (by omega)]; omega)
    have hlen : ((List.replicate (i + 1 + 1) (0 : Int) ++ (SP (sets (ps.drop (i + 1)))).tail).length : Nat) = ps.length + 1 := by
      simp [SP_len, sets_len]; omega
    have c1 : ((i + 1 : Nat) : Int) < ((List.replicate (i + 1 + 1) (0 : Int) ++ (SP (sets (ps.drop (i + 1)))).tail).length : Nat) := by rw [hlen]; omega
    refine evSucc ?_
    simp only [shape_steps.l0, if_pos (show ((i + 1 : Nat) : Int) > 0 by omega), if_pos (show (0 : Int) ≤ ((i + 1 : Nat) : Int) by omega), if_pos c1, hw2.out, if_pos (show (0 : Int) ≤ (i : Int) by omega), if_pos (show (i : Int) < (ps.length : Int) by omega), rdL_at ps i (by omega)]
    refine Ev.bind (size_is3 _ (hI.2 _ (List.getElem_mem _)) hp) ?_
    simp only [hw.out]
    have e2 : (List.replicate (i + 1 + 1) (0 : Int) ++ (SP (sets (ps.drop (i + 1)))).tail).set (((i + 1 : Nat) : Int)).toNat (cnt (sets (ps.drop (i + 1)))) = List.replicate (i + 1) 0 ++ (SP (sets (ps.drop i))).tail := by
      rw [Int.toNat_natCast, set_mid (i + 1), ← SP_cons, SP_step ps i (by omega)]; rfl
    rw [e2]
    exact ih
theorem steps_is {ps : List (List Sp)} {a : Int} (hI : In2 ps) (hv : vShape ps a = true) : Ev (fun k => shape_steps.f k ps a) (SP (sets ps)) := by
  obtain ⟨⟨l1, l2⟩, ⟨a1, a2⟩, hk, hg, hc⟩ := vShape_good hv
  have h := steps_loop ps a hI hk l2 (by omega) ps.length (Nat.le_refl _)
  rw [List.drop_length] at h
  have hw : Aside0 (wrap64 ((ps.length : Int) + 1) = ((ps.length + 1 : Nat) : Int)) := Aside0.mk (by rw [w64 (by omega) (by omega)]; simp)
  simp only [shape_steps.f, hw.out, if_pos (show (0 : Int) ≤ ((ps.length + 1 : Nat) : Int) by omega), Int.toNat_natCast, if_pos (show ps.length + 1 ≤ 35184372088832 by omega)]
  simpa [sets, SP, cnt_nil] using h
theorem Count_is (ps : List (List Sp)) (a : Int) (hI : In2 ps) : Ev (fun k => shape_Count.f k ps a) (if vShape ps a = true then cnt (sets ps) else 0) := by
  simp only [shape_Count.f]
  refine Ev.bind (shapeValid_is ps a hI) ?_
  cases hv : vShape ps a
  · simp only [Bool.false_eq_true, if_false]; exact evNow _
  · simp only [if_true]
    refine Ev.bind (steps_is hI hv) ?_
    rw [if_pos (show (0 : Int) < ((SP (sets ps)).length : Nat) by rw [SP_len]; omega), show rd (SP (sets ps)) 0 = cnt (sets ps) by rw [SP_cons]; rfl]
    exact evNow _
theorem select_at (p : List Sp) (d : Int) (hi : In1 p) (hk : okPart p = true) (h0 : 0 ≤ d) (h1 : d < size (runs p)) : Ev (fun k => spans_Select.f k p d) (selV (runs p) d, true) := by
  have hs := okPart_good hk
  have hz := size_256 hs.1
  obtain ⟨r, r1, r2⟩ := spans_Select_is p d (wf64 (by omega) (by omega)) hi
  rw [show p.map L113 = runs p from rfl, setL_of hs.1] at r2
  have hS := selV_spec hs.1 h0 h1
  obtain rfl := Sel.uniq hs.1 r2 (.inl ⟨_, hS.1, hS.2, rfl⟩)
  exact r1
theorem tail_at (ps : List (List Sp)) (i : Nat) (hi : i < ps.length) : (SP (sets ps)).tail[i]? = some (cnt (sets (ps.drop (i + 1)))) := by
  have := SP_at (sets ps) (i + 1) (by rw [sets_len]; omega)
  rw [sets_drop] at this
  rw [← this, List.getElem?_tail]
theorem unrank_loop (ps : List (List Sp)) (a : Int) (hI : In2 ps) (hk : ps.all okPart = true) (hl : ps.length ≤ 8) (hc : cnt (sets ps) ≤ 1073741824) : ∀ (n i : Nat) (kk : Int) (out : List Int), i + n = ps.length → out.length ≤ i → 0 ≤ kk → kk < cnt (sets (ps.drop i)) →
    Ev (fun k => shape_Unrank.l0 k kk out (SP (sets ps)).tail ((SP (sets ps)).tail.length : Int) (i : Int) ps a) (out ++ unr (sets (ps.drop i)) kk, true)
  | 0, i, kk, out, hi, _, _, _ => by
    refine evSucc ?_
    have hlen : (SP (sets ps)).tail.length = ps.length := by rw [List.length_tail, SP_len, sets_len]; rfl
    simp only [shape_Unrank.l0, hlen, if_neg (show ¬ (i : Int) < ((ps.length : Nat) : Int) by omega)]
    rw [List.drop_of_length_le (by omega), show unr (sets []) kk = [] from unr_nil _, List.append_nil]
    exact evNow _
  | n + 1, i, kk, out, hi, ho, h0, h1 => by
    have hlen : (SP (sets ps)).tail.length = ps.length := by rw [List.length_tail, SP_len, sets_len]; rfl
    have hil : i < ps.length := by omega
    have hg := good_of hk
    have hp := good_part hk hil
    have hs := okPart_good hp
    have hpos : 1 ≤ cnt (sets (ps.drop (i + 1))) := by have := cnt_pos (hg.drop (i + 1)); rwa [sets_drop] at this
    rw [cnt_step ps i hil] at h1
    obtain ⟨d0, d1, d2, d3⟩ := digit hpos h0 h1
    have hz := size_256 hs.1
    have ih := unrank_loop ps a hI hk hl hc n (i + 1) (kk % cnt (sets (ps.drop (i + 1)))) (out ++ [selV (runs ps[i]) (kk / cnt (sets (ps.drop (i + 1))))]) (by omega) (by simp; omega) d2 d3
    have hr := hs.1.range (selV_spec hs.1 d0 d1).1
    have r1 := rd_at _ i _ (tail_at ps i hil)
    have t1 : Int.tdiv kk (cnt (sets (ps.drop (i + 1)))) = kk / cnt (sets (ps.drop (i + 1))) := Int.tdiv_eq_ediv_of_nonneg h0
    have t2 : Int.tmod kk (cnt (sets (ps.drop (i + 1)))) = kk % cnt (sets (ps.drop (i + 1))) := Int.tmod_eq_emod_of_nonneg h0
    have hw : Aside0 (wrap64 (kk / cnt (sets (ps.drop (i + 1)))) = kk / cnt (sets (ps.drop (i + 1)))) := Aside0.mk (w64 (by omega) (by omega))
    have hw2 : Aside0 (wrap64 ((i : Int) + 1) = ((i + 1 : Nat) : Int)) := Aside0.mk (by rw [w64 (by omega) (by omega)]; simp)
    have hm : selV (runs ps[i]) (kk / cnt (sets (ps.drop (i + 1)))) % 256 = selV (runs ps[i]) (kk / cnt (sets (ps.drop (i + 1)))) := Int.emod_eq_of_lt hr.1 (by omega)
    refine evSucc ?_
    simp only [shape_Unrank.l0, hlen, if_pos (show (i : Int) < ((ps.length : Nat) : Int) by omega), if_pos (show (0 : Int) ≤ (i : Int) by omega), r1, if_neg (show ¬ cnt (sets (ps.drop (i + 1))) = 0 by omega), rdL_at ps i hil, t1, t2, hw.out]
    refine Ev.bind (select_at _ _ (hI.2 _ (List.getElem_mem _)) hp d0 d1) ?_
    simp only [if_pos (show out.length < 140737488355328 by omega), hw2.out, hm]
    have e : unr (sets (ps.drop i)) kk = selV (runs ps[i]) (kk / cnt (sets (ps.drop (i + 1)))) :: unr (sets (ps.drop (i + 1))) (kk % cnt (sets (ps.drop (i + 1)))) := by
      rw [List.drop_eq_getElem_cons hil]; exact unr_cons _ _ _
    rw [e]
    rw [hlen, List.append_assoc] at ih
    exact ih
theorem Unrank_no (ps : List (List Sp)) (a kk : Int) (hI : In2 ps) (h : ¬ (0 ≤ kk ∧ kk < (if vShape ps a = true then cnt (sets ps) else 0))) : Ev (fun k => shape_Unrank.f k ps a kk) ([], false) := by
  have j : Ev (fun k => shape_Unrank.j0 k kk true ps a) ([], false) := by
    refine evSucc ?_
    simp only [shape_Unrank.j0, if_true]; exact evNow _
  simp only [shape_Unrank.f]
  by_cases c : kk < 0
  · simp only [if_pos c]; exact j
  · simp only [if_neg c]
    refine Ev.bind (Count_is ps a hI) ?_
    rw [decide_eq_true (show kk ≥ (if vShape ps a = true then cnt (sets ps) else 0) by omega)]
    exact j
theorem Unrank_yes {ps : List (List Sp)} {a kk : Int} (hI : In2 ps) (hv : vShape ps a = true) (h0 : 0 ≤ kk) (h1 : kk < cnt (sets ps)) : Ev (fun k => shape_Unrank.f k ps a kk) (unr (sets ps) kk, true) := by
  obtain ⟨⟨l1, l2⟩, ⟨a1, a2⟩, hk, hg, hc⟩ := vShape_good hv
  simp only [shape_Unrank.f, if_neg (show ¬ kk < 0 by omega)]
  have hC := Count_is ps a hI
  rw [if_pos hv] at hC
  refine Ev.bind hC ?_
  rw [decide_eq_false (show ¬ kk ≥ cnt (sets ps) by omega)]
  refine evSucc ?_
  simp only [shape_Unrank.j0, Bool.false_eq_true, if_false]
  refine Ev.bind (steps_is hI hv) ?_
  simp only [if_pos (show (1 : Int) ≤ ((SP (sets ps)).length : Nat) by rw [SP_len]; omega)]
  simp only [Option.bind_some, show (1 : Int).toNat = 1 from rfl, List.drop_one]
  have := unrank_loop ps a hI hk l2 (by omega) ps.length 0 kk [] (by omega) (by simp) h0 (by rw [List.drop_zero]; exact h1)
  rw [List.drop_zero, List.nil_append] at this
  exact this
def rkR : Option Int → Int × Bool
  | some r => (r, true)
  | none => (0, false)
theorem rank_loop3 (ps : List (List Sp)) (a : Int) (bs : List Int) (hb : ∀ b ∈ bs, 0 ≤ b ∧ b ≤ 255) (hbl : bs.length = ps.length) (hI : In2 ps) (hk : ps.all okPart = true) (hl : ps.length ≤ 8) (hc : cnt (sets ps) ≤ 1073741824) : ∀ (n i : Nat) (acc : Int), i + n = ps.length → 0 ≤ acc → acc + cnt (sets (ps.drop i)) ≤ 1073741824 →
    Ev (fun k => shape_Rank.l0 k bs acc (SP (sets ps)).tail ((SP (sets ps)).tail.length : Int) (i : Int) ps a) (rkR ((rnk (sets (ps.drop i)) (bs.drop i)).map (acc + ·)))
  | 0, i, acc, hi, _, _ => by
    refine evSucc ?_
    have hlen : (SP (sets ps)).tail.length = ps.length := by rw [List.length_tail, SP_len, sets_len]; rfl
    simp only [shape_Rank.l0, hlen, if_neg (show ¬ (i : Int) < ((ps.length : Nat) : Int) by omega)]
    rw [List.drop_of_length_le (show ps.length ≤ i by omega), List.drop_of_length_le (show bs.length ≤ i by omega), show rnk (sets []) [] = some 0 from rnk_nil]
    simpa [rkR] using evNow (acc, true)
  | n + 1, i, acc, hi, h0, h1 => by
    have hlen : (SP (sets ps)).tail.length = ps.length := by rw [List.length_tail, SP_len, sets_len]; rfl
    have hil : i < ps.length := by omega
    have hbi : i < bs.length := by omega
    have hg := good_of hk
    have hp := good_part hk hil
    have hs := okPart_good hp
    have hz := size_256 hs.1
    have hpos : 1 ≤ cnt (sets (ps.drop (i + 1))) := by have := cnt_pos (hg.drop (i + 1)); rwa [sets_drop] at this
    have hbb := hb _ (List.getElem_mem hbi)
    rw [cnt_step ps i hil] at h1
    have r1 := rd_at _ i _ (tail_at ps i hil)
    have r2 := rd_at bs i _ (List.getElem?_eq_getElem hbi)
    have hw : Aside0 (wrap64 (bs[i]) = bs[i]) := Aside0.mk (w64 (by omega) (by omega))
    have hw2 : Aside0 (wrap64 ((i : Int) + 1) = ((i + 1 : Nat) : Int)) := Aside0.mk (by rw [w64 (by omega) (by omega)]; simp)
    have hR := spans_Rank_is ps[i] bs[i] (wf64 (by omega) (by omega)) (hI.2 _ (List.getElem_mem _))
    rw [show ps[i].map L113 = runs ps[i] from rfl, setL_of hs.1] at hR
    have e : rnk (sets (ps.drop i)) (bs.drop i) = if memB (runs ps[i]) bs[i] = true then (rnk (sets (ps.drop (i + 1))) (bs.drop (i + 1))).map (fun r => (cd (memB (runs ps[i])) bs[i].toNat : Int) * cnt (sets (ps.drop (i + 1))) + r) else none := by
      rw [List.drop_eq_getElem_cons hil, List.drop_eq_getElem_cons hbi]; exact rnk_cons _ _ _ _
    refine evSucc ?_
    simp only [shape_Rank.l0, hlen, if_pos (show (i : Int) < ((ps.length : Nat) : Int) by omega), if_pos (show (0 : Int) ≤ (i : Int) by omega), if_pos (show (i : Int) < ((bs.length : Nat) : Int) by omega), r1, r2, rdL_at ps i hil, hw.out]
    refine Ev.bind hR ?_
    by_cases hm : memB (runs ps[i]) bs[i] = true
    · rw [e, if_pos hm]
      simp only [rankL, if_pos hm, if_true]
      have hd := cd_less hs.1 (memB_iff.1 hm)
      have m0 : 0 ≤ (cd (memB (runs ps[i])) bs[i].toNat : Int) * cnt (sets (ps.drop (i + 1))) := Int.mul_nonneg (by omega) (by omega)
      have m1 := Int.mul_le_mul_of_nonneg_right (show (cd (memB (runs ps[i])) bs[i].toNat : Int) + 1 ≤ size (runs ps[i]) by omega) (show 0 ≤ cnt (sets (ps.drop (i + 1))) by omega)
      rw [Int.add_mul, Int.one_mul] at m1
      have w1 : Aside0 (wrap64 (acc + wrap64 ((cd (memB (runs ps[i])) bs[i].toNat : Int) * cnt (sets (ps.drop (i + 1))))) = acc + (cd (memB (runs ps[i])) bs[i].toNat : Int) * cnt (sets (ps.drop (i + 1)))) := Aside0.mk (by
        rw [w64 (x := (cd (memB (runs ps[i])) bs[i].toNat : Int) * cnt (sets (ps.drop (i + 1)))) (by omega) (by omega), w64 (by omega) (by omega)])
      simp only [w1.out, hw2.out]
      have ih := rank_loop3 ps a bs hb hbl hI hk hl hc n (i + 1) (acc + (cd (memB (runs ps[i])) bs[i].toNat : Int) * cnt (sets (ps.drop (i + 1)))) (by omega) (by omega) (by omega)
      rw [hlen] at ih
      have e3 : ((rnk (sets (ps.drop (i + 1))) (bs.drop (i + 1))).map (fun r => (cd (memB (runs ps[i])) bs[i].toNat : Int) * cnt (sets (ps.drop (i + 1))) + r)).map (acc + ·) = (rnk (sets (ps.drop (i + 1))) (bs.drop (i + 1))).map (acc + (cd (memB (runs ps[i])) bs[i].toNat : Int) * cnt (sets (ps.drop (i + 1))) + ·) := by
        cases rnk (sets (ps.drop (i + 1))) (bs.drop (i + 1)) with
        | none => rfl
        | some r => simp [Int.add_assoc]
      rw [e3]
      exact ih
    · rw [e, if_neg hm]
      simp only [rankL, if_neg hm, Bool.false_eq_true, if_false]
      exact evNow _
def rkS (ps : List (List Sp)) (a : Int) (bs : List Int) : Int × Bool := if vShape ps a = true then rkR (rnk (sets ps) bs) else (0, false)
theorem Rank_is (ps : List (List Sp)) (a : Int) (bs : List Int) (hI : In2 ps) (hb : ∀ b ∈ bs, 0 ≤ b ∧ b ≤ 255) : Ev (fun k => shape_Rank.f k ps a bs) (rkS ps a bs) := by
  have jT : Ev (fun k => shape_Rank.j0 k bs true ps a) (0, false) := by
    refine evSucc ?_
    simp only [shape_Rank.j0, if_true]; exact evNow _
  simp only [shape_Rank.f]
  refine Ev.bind (shapeValid_is ps a hI) ?_
  unfold rkS
  cases hv : vShape ps a
  · simp only [Bool.false_eq_true, if_false]; exact jT
  · simp only [if_true]
    obtain ⟨⟨l1, l2⟩, ⟨a1, a2⟩, hk, hg, hc⟩ := vShape_good hv
    by_cases c : bs.length = ps.length
    · rw [show ((bs.length : Int) != (ps.length : Int)) = false by simp [c]]
      refine evSucc ?_
      simp only [shape_Rank.j0, Bool.false_eq_true, if_false]
      refine Ev.bind (steps_is hI hv) ?_
      simp only [if_pos (show (1 : Int) ≤ ((SP (sets ps)).length : Nat) by rw [SP_len]; omega)]
      simp only [Option.bind_some, show (1 : Int).toNat = 1 from rfl, List.drop_one]
      have := rank_loop3 ps a bs hb c hI hk l2 (by omega) ps.length 0 0 (by omega) (by omega) (by rw [List.drop_zero]; omega)
      rw [List.drop_zero, List.drop_zero] at this
      have e : (rnk (sets ps) bs).map ((0 : Int) + ·) = rnk (sets ps) bs := by cases rnk (sets ps) bs <;> simp
      rw [e] at this
      exact this
    · rw [show ((bs.length : Int) != (ps.length : Int)) = true by simp; omega]
      have e : rnk (sets ps) bs = none := by
        cases hr : rnk (sets ps) bs with
        | none => rfl
        | some r => exact (c (by have := rnk_len hr; rwa [sets_len] at this)).elim
      rw [e]
      exact jT
end Go.Proofs.Ytkcklnmbeinfkaa.PBS
end
section
namespace Go.Proofs.Ytkcklnmbeinfkaa.PBS
open Go.RowKit Go.Proofs.YtkcklnmbeinfkaaW.PrintWords Go.Proofs.YtkcklnmbeinfkaaW.PrintLast Go.Proofs.YtkcklnmbeinfkaaW.PrintMore Go.Proofs.Ytkcklnmbeinfkaa.B Go.Proofs.LT Go.Proofs.Ytkcklnmbeinfkaa.PB3
set_option linter.unusedVariables false
set_option linter.unusedSimpArgs false
noncomputable def cntS (ps : List (List Sp)) (a : Int) : Int := if vShape ps a = true then cnt (sets ps) else 0
noncomputable def okB (ps : List (List Sp)) (a k : Int) : Bool := decide (0 ≤ k ∧ k < cntS ps a)
noncomputable def unS (ps : List (List Sp)) (a k : Int) : List Int := if okB ps a k = true then unr (sets ps) k else []
theorem okB_of {ps : List (List Sp)} {a k : Int} (h : okB ps a k = true) : vShape ps a = true ∧ 0 ≤ k ∧ k < cnt (sets ps) := by
  have h := of_decide_eq_true h
  by_cases hv : vShape ps a = true
  · have e : cntS ps a = cnt (sets ps) := if_pos hv
    exact ⟨hv, h.1, by omega⟩
  · have e : cntS ps a = 0 := if_neg hv
    omega
theorem Unrank_is (ps : List (List Sp)) (a k : Int) (hI : In2 ps) : Ev (fun n => shape_Unrank.f n ps a k) (unS ps a k, okB ps a k) := by
  cases h : okB ps a k
  · have := Unrank_no ps a k hI (of_decide_eq_false h)
    simpa [unS, h] using this
  · obtain ⟨hv, h0, h1⟩ := okB_of h
    have := Unrank_yes hI hv h0 h1
    simpa [unS, h] using this
end Go.Proofs.Ytkcklnmbeinfkaa.PBS
namespace Go.Proofs.Ytkcklnmbeinfkaa.Pure
open Go.Proofs.Ytkcklnmbeinfkaa.B Go.Proofs.YtkcklnmbeinfkaaW.PrintWords
end Go.Proofs.Ytkcklnmbeinfkaa.Pure
end
section
namespace Go.Proofs.Ytkcklnmbeinfkaa.PBS
open Go.RowKit Go.Proofs.YtkcklnmbeinfkaaW.PrintWords Go.Proofs.YtkcklnmbeinfkaaW.PrintLast Go.Proofs.YtkcklnmbeinfkaaW.PrintMore Go.Proofs.Ytkcklnmbeinfkaa.B Go.Proofs.LT Go.Proofs.Ytkcklnmbeinfkaa.PB3
set_option linter.unusedVariables false
set_option linter.unusedSimpArgs false
def C (p : Sh) : Cs := (sets p.f0, p.f1)
def cs (ss : List Sh) : List Cs := ss.map C
theorem last_C (p : Sh) : lastC (C p) = lastOf p := rfl
theorem vS_facts : ∀ (t pre : List Sh), vS pre t = true → (∀ p ∈ t, vShape p.f0 p.f1 = true) ∧ (∀ q ∈ pre, ∀ p ∈ t, meetsB p q = false) ∧ Apart (cs t)
  | [], _, _ => ⟨fun _ h => (by cases h), fun _ _ _ h => (by cases h), trivial⟩
  | p :: t, pre, h => by
    have h' : (vShape p.f0 p.f1 && (!(pre.any (meetsB p)) && vS (pre ++ [p]) t)) = true := h
    simp only [Bool.and_eq_true, Bool.not_eq_true'] at h'
    obtain ⟨h1, h2, h3⟩ := h'
    obtain ⟨k1, k2, k3⟩ := vS_facts t (pre ++ [p]) h3
    refine ⟨fun q hq => ?_, fun q hq r hr => ?_, fun r hr => ?_, k3⟩
    · rcases List.mem_cons.1 hq with rfl | hq
      · exact h1
      · exact k1 q hq
    · rcases List.mem_cons.1 hr with rfl | hr
      · cases e : meetsB r q
        · rfl
        · rw [List.any_eq_true.2 ⟨q, hq, e⟩] at h2; cases h2
      · exact k2 q (List.mem_append_left _ hq) r hr
    · obtain ⟨q, hq, rfl⟩ := List.mem_map.1 hr
      have e := k2 p (List.mem_append_right _ (List.mem_singleton.2 rfl)) q hq
      simp only [meetsB, Bool.and_eq_false_iff, decide_eq_false_iff_not] at e
      rw [last_C, last_C]
      show lastOf p < q.f1 ∨ lastOf q < p.f1
      omega
theorem vScheme_facts {ss : List Sh} (h : vScheme ss = true) : ss.length ≤ 32 ∧ (∀ p ∈ ss, vShape p.f0 p.f1 = true) ∧ Apart (cs ss) ∧ AllGood (cs ss) := by
  simp only [vScheme, Bool.and_eq_true, decide_eq_true_eq] at h
  obtain ⟨k1, k2, k3⟩ := vS_facts ss [] h.2
  refine ⟨h.1, k1, k3, fun p hp => ?_⟩
  obtain ⟨q, hq, rfl⟩ := List.mem_map.1 hp
  exact (vShape_good (k1 q hq)).2.2.2.1
theorem rdSh_at (ss : List Sh) (i : Nat) (h : i < ss.length) : rd_T50 ss (i : Int) = ss[i] := by simp [rd_T50, List.getD, h]
theorem succ_wrap (i : Nat) (h : i ≤ 4611686018427387904) : Aside0 (wrap64 ((i : Int) + 1) = ((i + 1 : Nat) : Int)) := Aside0.mk (by rw [w64 (by omega) (by omega)]; simp)
theorem okB_hit {ps : List (List Sp)} {a u : Int} (hv : vShape ps a = true) : okB ps a (u - a) = hitC u (sets ps, a) := by
  unfold okB hitC cntS
  rw [if_pos hv, Bool.eq_iff_iff, decide_eq_true_iff, Bool.and_eq_true, decide_eq_true_iff, decide_eq_true_iff]
  show 0 ≤ u - a ∧ _ ↔ a ≤ u ∧ _
  constructor <;> rintro ⟨h1, h2⟩ <;> exact ⟨by omega, h2⟩
theorem encC_cons (p : Cs) (t : List Cs) (u : Int) : encC (p :: t) u = if hitC u p = true then some (unr p.1 (u - p.2)) else encC t u := rfl
theorem cs_drop (ss : List Sh) (i : Nat) (h : i < ss.length) : cs (ss.drop i) = C ss[i] :: cs (ss.drop (i + 1)) := by rw [List.drop_eq_getElem_cons h]; rfl
theorem wf_range {x : Int} (h : (Lit.int .i64 x).wf = true) : -9223372036854775808 ≤ x ∧ x ≤ 9223372036854775807 := by
  simp [Lit.wf] at h
  exact ⟨h.1, h.2⟩
theorem encode_loop (ss : List Sh) (u : Int) (hI : InS ss) (hs : ss.length ≤ 32) (hv : ∀ p ∈ ss, vShape p.f0 p.f1 = true) (hu : (Lit.int .i64 u).wf = true) : ∀ (n i : Nat), i + n = ss.length →
    Ev (fun k => code_encode.l0 k u ss (ss.length : Int) (i : Int)) ((encC (cs (ss.drop i)) u).getD [])
  | 0, i, hi => by
    refine evSucc ?_
    simp only [code_encode.l0, if_neg (show ¬ (i : Int) < (ss.length : Int) by omega)]
    rw [List.drop_of_length_le (by omega)]; exact evNow _
  | n + 1, i, hi => by
    have hil : i < ss.length := by omega
    have hw := succ_wrap i (by omega)
    have hur := wf_range hu
    have vi := hv _ (List.getElem_mem hil)
    have vg := vShape_good vi
    have ih := encode_loop ss u hI hs hv hu n (i + 1) (by omega)
    rw [cs_drop ss i hil, encC_cons]
    refine evSucc ?_
    simp only [code_encode.l0, if_pos (show (i : Int) < (ss.length : Int) by omega), if_pos (show (0 : Int) ≤ (i : Int) by omega), rdSh_at ss i hil, hw.out]
    by_cases c : u < ss[i].f1
    · simp only [if_pos c, if_neg (show ¬ hitC u (C ss[i]) = true by rw [hitC_iff]; show ¬ (ss[i].f1 ≤ u ∧ _); omega)]
      exact ih
    · have w1 : Aside0 (wrap64 (u - ss[i].f1) = u - ss[i].f1) := Aside0.mk (w64 (by omega) (by omega))
      simp only [if_neg c, w1.out]
      refine Ev.bind (Unrank_is _ _ _ (hI.2 _ (List.getElem_mem _))) ?_
      have e := okB_hit (u := u) vi
      rw [show (sets ss[i].f0, ss[i].f1) = C ss[i] from rfl] at e
      simp only [unS, e]
      cases h : hitC u (C ss[i])
      · simp only [Bool.false_eq_true, if_false]; exact ih
      · have hlen : ¬ (unr (sets ss[i].f0) (u - ss[i].f1)).length = 0 := by rw [unr_len, sets_len]; have := vg.1; omega
        simp only [if_true, if_neg hlen]; exact evNow _
theorem encode_is (ss : List Sh) (u : Int) (hI : InS ss) (h : vScheme ss = true) (hu : (Lit.int .i64 u).wf = true) : Ev (fun k => code_encode.f k ss u) ((encC (cs ss) u).getD []) := by
  obtain ⟨h1, h2, _⟩ := vScheme_facts h
  have := encode_loop ss u hI h1 h2 hu ss.length 0 (by omega)
  rw [List.drop_zero] at this
  exact this
def decR : Option Int → Int × Int
  | some v => (v, 0)
  | none => (0, 100)
def bst : Option Int → Int
  | some v => v
  | none => -1
theorem decode_loop (ss : List Sh) (bs : List Int) (hI : InS ss) (hb : ∀ b ∈ bs, 0 ≤ b ∧ b ≤ 255) (hs : ss.length ≤ 32) (hv : ∀ p ∈ ss, vShape p.f0 p.f1 = true) : ∀ (n i : Nat) (best : Option Int), i + n = ss.length → (∀ v, best = some v → 0 ≤ v) →
    Ev (fun k => code_Decode.l0 k bs (bst best) ss (ss.length : Int) (i : Int)) (decR (decC bs best (cs (ss.drop i))))
  | 0, i, best, hi, hp => by
    refine evSucc ?_
    simp only [code_Decode.l0, if_neg (show ¬ (i : Int) < (ss.length : Int) by omega)]
    rw [List.drop_of_length_le (by omega)]
    cases best with
    | none => simp only [bst, if_pos (show (-1 : Int) < 0 by omega)]; exact evNow (decR none)
    | some v => have := hp v rfl; simp only [if_neg (show ¬ bst (some v) < 0 from (show ¬ v < 0 by omega))]; exact evNow (decR (some v))
  | n + 1, i, best, hi, hp => by
    have hil : i < ss.length := by omega
    have hw := succ_wrap i (by omega)
    have vi := hv _ (List.getElem_mem hil)
    have vg := vShape_good vi
    rw [cs_drop ss i hil]
    show Ev _ (decR (decC bs (stepD bs (C ss[i]) best) (cs (ss.drop (i + 1)))))
    refine evSucc ?_
    simp only [code_Decode.l0, if_pos (show (i : Int) < (ss.length : Int) by omega), if_pos (show (0 : Int) ≤ (i : Int) by omega), rdSh_at ss i hil, hw.out]
    refine Ev.bind (Rank_is _ _ bs (hI.2 _ (List.getElem_mem _)) hb) ?_
    unfold rkS
    rw [if_pos vi]
    have e1 : (C ss[i]).2 = ss[i].f1 ∧ (C ss[i]).1 = sets ss[i].f0 := ⟨rfl, rfl⟩
    unfold stepD
    rw [e1.1, e1.2]
    cases hr : rnk (sets ss[i].f0) bs with
    | none =>
      simp only [rkR, Bool.false_eq_true, if_false]
      exact decode_loop ss bs hI hb hs hv n (i + 1) best (by omega) hp
    | some r =>
      obtain ⟨r0, r1, _⟩ := unr_rnk vg.2.2.2.1 hr
      have w1 : Aside0 (wrap64 (ss[i].f1 + r) = ss[i].f1 + r) := Aside0.mk (w64 (by omega) (by omega))
      simp only [rkR, if_true, w1.out]
      cases best with
      | none =>
        simp only [bst, if_pos (show (-1 : Int) < 0 by omega)]
        exact decode_loop ss bs hI hb hs hv n (i + 1) (some (ss[i].f1 + r)) (by omega) (fun v h => by obtain rfl := Option.some.inj h; omega)
      | some v =>
        have hv0 := hp v rfl
        simp only [if_neg (show ¬ bst (some v) < 0 from (show ¬ v < 0 by omega))]
        by_cases c : ss[i].f1 + r < v
        · simp only [if_pos c, if_pos (show ss[i].f1 + r < bst (some v) from c)]
          exact decode_loop ss bs hI hb hs hv n (i + 1) (some (ss[i].f1 + r)) (by omega) (fun v h => by obtain rfl := Option.some.inj h; omega)
        · simp only [if_neg c, if_neg (show ¬ ss[i].f1 + r < bst (some v) from c)]
          exact decode_loop ss bs hI hb hs hv n (i + 1) (some v) (by omega) hp
def decS (ss : List Sh) (bs : List Int) : Int × Int := if vScheme ss = true then decR (decC bs none (cs ss)) else (0, 84)
theorem Decode_is (ss : List Sh) (bs : List Int) (hI : InS ss) (hb : ∀ b ∈ bs, 0 ≤ b ∧ b ≤ 255) : Ev (fun k => code_Decode.f k ss bs) (decS ss bs) := by
  simp only [code_Decode.f]
  refine Ev.bind (schemeValid_is ss hI) ?_
  unfold decS
  cases h : vScheme ss
  · simp only [Bool.false_eq_true, if_false]; exact evNow _
  · obtain ⟨h1, h2, _⟩ := vScheme_facts h
    simp only [if_true]
    have := decode_loop ss bs hI hb h1 h2 ss.length 0 none (by omega) (fun v h => by cases h)
    rw [List.drop_zero] at this
    exact this
theorem enc_range {ss : List Sh} (h : vScheme ss = true) {u : Int} {x : List Int} (he : encC (cs ss) u = some x) : (0 ≤ u ∧ u ≤ 1073741823) ∧ (∀ b ∈ x, 0 ≤ b ∧ b ≤ 255) ∧ 1 ≤ x.length ∧ x.length ≤ 8 := by
  obtain ⟨h1, h2, _, h4⟩ := vScheme_facts h
  obtain ⟨p, hp, hh, rfl⟩ := encC_mem he
  obtain ⟨q, hq, rfl⟩ := List.mem_map.1 hp
  have vg := vShape_good (h2 q hq)
  have h' := hitC_iff.1 hh
  have e1 : (C q).2 = q.f1 ∧ (C q).1 = sets q.f0 := ⟨rfl, rfl⟩
  rw [e1.1, e1.2] at h'
  rw [e1.1, e1.2]
  refine ⟨by omega, unr_range vg.2.2.2.1 (by omega) h'.2, ?_⟩
  rw [unr_len, sets_len]
  exact vg.1
end Go.Proofs.Ytkcklnmbeinfkaa.PBS
end
section
namespace Go.Proofs.Ytkcklnmbeinfkaa.PBS
open Go.RowKit Go.Proofs.YtkcklnmbeinfkaaW.PrintWords Go.Proofs.YtkcklnmbeinfkaaW.PrintLast Go.Proofs.YtkcklnmbeinfkaaW.PrintMore Go.Proofs.Ytkcklnmbeinfkaa.B Go.Proofs.LT Go.Proofs.Ytkcklnmbeinfkaa.PB3
set_option linter.unusedVariables false
set_option linter.unusedSimpArgs false
def encR : Option (List Int) → List Int × Int
  | some b => (b, 0)
  | none => ([], 100)
noncomputable def encS (ss : List Sh) (u : Int) : List Int × Int := if vScheme ss = true then encR (encC (cs ss) u) else ([], 84)
theorem Encode_is (ss : List Sh) (u : Int) (hI : InS ss) (hu : (Lit.int .i64 u).wf = true) : Ev (fun k => code_Encode.f k ss u) (encS ss u) := by
  simp only [code_Encode.f]
  refine Ev.bind (schemeValid_is ss hI) ?_
  unfold encS
  cases h : vScheme ss
  · simp only [Bool.false_eq_true, if_false]; exact evNow _
  · simp only [if_true]
    refine Ev.bind (encode_is ss u hI h hu) ?_
    cases he : encC (cs ss) u with
    | none => simp only [Option.getD_none, List.length_nil, encR]; rw [if_pos (by rfl)]; exact evNow _
    | some b =>
      have := (enc_range h he).2.2
      simp only [Option.getD_some, encR, if_neg (show ¬ (b.length : Int) = 0 by omega)]; exact evNow _
def one1 (lo hi : Int) : List Sp := [⟨lo, hi⟩]
theorem one_valid {lo hi : Int} (h0 : 0 ≤ lo) (h1 : lo ≤ hi) (h2 : hi ≤ 255) : ValidFrom 255 (-2) (runs (one1 lo hi)) := ⟨h0, h1, h2, by show (-2 : Int) < lo - 1; omega, trivial⟩
theorem one_size (lo hi : Int) : size (runs (one1 lo hi)) = hi - lo + 1 := by
  show size [(lo, hi)] = _
  rw [size_cons, size_nil]; omega
theorem one_ok {lo hi : Int} (h0 : 0 ≤ lo) (h1 : lo ≤ hi) (h2 : hi ≤ 255) : okPart (one1 lo hi) = true := by
  simp only [okPart, (validB_iff _ _ _).2 (one_valid h0 h1 h2)]; rfl
theorem one_in (lo hi : Int) : In1 (one1 lo hi) := by show 1 * 16 ≤ 140737488351232; omega
theorem one_memB {lo hi x : Int} (h1 : lo ≤ x) (h2 : x ≤ hi) : memB (runs (one1 lo hi)) x = true := memB_iff.2 ⟨(lo, hi), List.mem_cons_self, h1, h2⟩
theorem one_cd {lo hi x : Int} (h0 : 0 ≤ lo) (h1 : lo ≤ x) (h2 : x ≤ hi) (h3 : hi ≤ 255) : (cd (memB (runs (one1 lo hi))) x.toNat : Int) = x - lo :=
  cd_in_first (r := (lo, hi)) (t := []) (one_valid h0 (by omega) h3) h1 (by show x ≤ hi + 1; omega)
def some10 : List Sh := [⟨[one1 194 223, one1 128 191], 128⟩, ⟨[one1 0 127], 0⟩]
theorem c10a : cnt (sets [one1 194 223, one1 128 191]) = 1920 := by
  show cnt [runs (one1 194 223), runs (one1 128 191)] = 1920
  rw [cnt_cons, cnt_cons, cnt_nil, one_size, one_size]; rfl
theorem c10b : cnt (sets [one1 0 127]) = 128 := by
  show cnt [runs (one1 0 127)] = 128
  rw [cnt_cons, cnt_nil, one_size]; rfl
theorem v10 : vScheme some10 = true := by
  have h1 : vShape [one1 194 223, one1 128 191] 128 = true := by
    unfold vShape
    rw [c10a]
    simp [one_ok (show (0 : Int) ≤ 194 by decide) (show (194 : Int) ≤ 223 by decide) (by decide), one_ok (show (0 : Int) ≤ 128 by decide) (show (128 : Int) ≤ 191 by decide) (by decide)]
  have h2 : vShape [one1 0 127] 0 = true := by
    unfold vShape
    rw [c10b]
    simp [one_ok (show (0 : Int) ≤ 0 by decide) (show (0 : Int) ≤ 127 by decide) (by decide)]
  have h3 : meetsB ⟨[one1 0 127], 0⟩ ⟨[one1 194 223, one1 128 191], 128⟩ = false := by
    simp only [meetsB, lastOf, c10a, c10b]; decide
  show (decide (2 ≤ 32) && (vShape [one1 194 223, one1 128 191] 128 && (!([] : List Sh).any (meetsB _) && (vShape [one1 0 127] 0 && (!([⟨[one1 194 223, one1 128 191], 128⟩] : List Sh).any (meetsB ⟨[one1 0 127], 0⟩) && true))))) = true
  rw [h1, h2]
  simp [h3]
theorem in10 : InS some10 := ⟨by decide, fun p hp => by
  rcases List.mem_cons.1 hp with rfl | hp
  · refine ⟨by decide, fun q hq => ?_⟩
    rcases List.mem_cons.1 hq with rfl | hq
    · exact one_in _ _
    · rw [List.mem_singleton.1 hq]; exact one_in _ _
  · rw [List.mem_singleton.1 hp]
    refine ⟨by decide, fun q hq => ?_⟩
    rw [List.mem_singleton.1 hq]; exact one_in _ _⟩
theorem rk10 : rnk (sets [one1 194 223, one1 128 191]) [195, 169] = some 105 := by
  show rnk [runs (one1 194 223), runs (one1 128 191)] [195, 169] = some 105
  rw [rnk_cons, if_pos (one_memB (by decide) (by decide)), rnk_cons, if_pos (one_memB (by decide) (by decide)), rnk_nil]
  simp only [Option.map_some, cnt_cons, cnt_nil, one_size, one_cd (show (0 : Int) ≤ 194 by decide) (show (194 : Int) ≤ 195 by decide) (show (195 : Int) ≤ 223 by decide) (by decide), one_cd (show (0 : Int) ≤ 128 by decide) (show (128 : Int) ≤ 169 by decide) (show (169 : Int) ≤ 191 by decide) (by decide)]
  rfl
theorem en10 : encC (cs some10) 233 = some [195, 169] := by
  obtain ⟨_, _, ha, hg⟩ := vScheme_facts v10
  have hm : ((sets [one1 194 223, one1 128 191], 128) : Cs) ∈ cs some10 := List.mem_cons_self
  have h := rnk_hit (hg _ hm) rk10
  have e : (128 : Int) + 105 = 233 := rfl
  simp only [e] at h
  rw [encC_of ha hm h.1, ← h.2]
theorem de10 : decC [195, 169] none (cs some10) = some 233 := by
  have h2 : rnk (sets [one1 0 127]) [195, 169] = none := by
    cases h : rnk (sets [one1 0 127]) [195, 169] with
    | none => rfl
    | some r => have := rnk_len h; simp [sets_len] at this
  show decC [195, 169] (stepD [195, 169] (sets [one1 0 127], 0) (stepD [195, 169] (sets [one1 194 223, one1 128 191], 128) none)) [] = _
  show stepD [195, 169] (sets [one1 0 127], 0) (stepD [195, 169] (sets [one1 194 223, one1 128 191], 128) none) = _
  simp only [stepD, rk10, h2]
  rfl
theorem fixed10 : Ev (fun k => leadtraillaw10_fixed.f k) true := by
  have hE := Encode_is some10 233 in10 (by decide)
  rw [show encS some10 233 = ([195, 169], 0) by unfold encS; rw [if_pos v10, en10]; rfl] at hE
  have hD := Decode_is some10 [195, 169] in10 (by decide)
  rw [show decS some10 [195, 169] = (233, 0) by unfold decS; rw [if_pos v10, de10]; rfl] at hD
  simp only [leadtraillaw10_fixed.f, leadtraillaw10_some.f, Option.bind_some]
  refine Ev.bind hE (Ev.bind hD ?_)
  have e : (strOfNums [195, 169]).toList = ([195, 169] : List UInt8) := by rw [Lib.strOfNums_toList]; decide
  simp only [if_true, e]
  exact evNow _
theorem i64_small {x : Int} (h0 : 0 ≤ x) (h1 : x ≤ 1073741823) : (Lit.int .i64 x).wf = true := wf64 (by omega) (by omega)
end Go.Proofs.Ytkcklnmbeinfkaa.PBS
end
section
namespace Go.Proofs.Ytkcklnmbeinfkaa.PBS
open Go.RowKit Go.Proofs.YtkcklnmbeinfkaaW.PrintWords Go.Proofs.YtkcklnmbeinfkaaW.PrintLast Go.Proofs.YtkcklnmbeinfkaaW.PrintMore Go.Proofs.Ytkcklnmbeinfkaa.B Go.Proofs.LT Go.Proofs.Ytkcklnmbeinfkaa.PB3
set_option linter.unusedVariables false
set_option linter.unusedSimpArgs false
theorem back_j (ss : List Sh) (bs : List Int) (e : Int) (hI : InS ss) (hb : ∀ b ∈ bs, 0 ≤ b ∧ b ≤ 255) (he : (e == 84) = !vScheme ss) : Ev (fun k => leadtraillaw10_CodeBack.j0 k bs e ss) true := by
  refine evSucc ?_
  simp only [leadtraillaw10_CodeBack.j0]
  refine Ev.bind (Decode_is ss bs hI hb) ?_
  cases h : vScheme ss
  · rw [show decS ss bs = (0, 84) by unfold decS; rw [h]; rfl]
    rw [h] at he
    simp only [if_neg (show ¬ (84 : Int) = 0 by omega), if_true, he]
    exact evNow _
  · rw [h] at he
    cases hd : decC bs none (cs ss) with
    | none =>
      rw [show decS ss bs = (0, 100) by unfold decS; rw [if_pos h, hd]; rfl]
      simp only [if_neg (show ¬ (100 : Int) = 0 by omega), if_true, he]
      exact evNow _
    | some v =>
      obtain ⟨_, _, ha, hg⟩ := vScheme_facts h
      rw [show decS ss bs = (v, 0) by unfold decS; rw [if_pos h, hd]; rfl]
      have hx := dec_enc ha hg hd
      have hr := enc_range h hx
      simp only [if_true]
      refine Ev.bind (Encode_is ss v hI (i64_small hr.1.1 hr.1.2)) ?_
      rw [show encS ss v = (bs, 0) by unfold encS; rw [if_pos h, hx]; rfl]
      simp only [if_true, beq_self_eq_true]
      exact evNow _
theorem leadtraillaw10_CodeBack_ev (ss : List Sh) (u : Int) (bs : List Int) (hI : InS ss) (hu : (Lit.int .i64 u).wf = true) (hb : ∀ b ∈ bs, 0 ≤ b ∧ b ≤ 255) : Ev (fun k => leadtraillaw10_CodeBack.f k ss u bs) true := by
  simp only [leadtraillaw10_CodeBack.f]
  refine Ev.bind fixed10 ?_
  simp only [if_true]
  refine Ev.bind (Encode_is ss u hI hu) ?_
  cases h : vScheme ss
  · rw [show encS ss u = ([], 84) by unfold encS; rw [h]; rfl]
    simp only [if_neg (show ¬ (84 : Int) = 0 by omega)]
    exact back_j ss bs 84 hI hb (by rw [h]; rfl)
  · cases he : encC (cs ss) u with
    | none =>
      rw [show encS ss u = ([], 100) by unfold encS; rw [if_pos h, he]; rfl]
      simp only [if_neg (show ¬ (100 : Int) = 0 by omega)]
      exact back_j ss bs 100 hI hb (by rw [h]; rfl)
    | some x =>
      obtain ⟨_, _, ha, hg⟩ := vScheme_facts h
      rw [show encS ss u = (x, 0) by unfold encS; rw [if_pos h, he]; rfl]
      have hr := enc_range h he
      obtain ⟨v, d1, d2, d3⟩ := enc_dec ha hg he
      have hv := enc_range h d3
      simp only [if_true]
      refine Ev.bind (Decode_is ss x hI hr.2.1) ?_
      rw [show decS ss x = (v, 0) by unfold decS; rw [if_pos h, d1]; rfl]
      refine Ev.bind (Encode_is ss v hI (i64_small hv.1.1 hv.1.2)) ?_
      rw [show encS ss v = (x, 0) by unfold encS; rw [if_pos h, d3]; rfl]
      simp only [if_true, if_neg (show ¬ v > u by omega), if_neg (show ¬ v < 0 by have := hv.1.1; omega), if_neg (show ¬ (x.length : Int) < 1 by omega), if_neg (show ¬ (x.length : Int) > 8 by omega)]
      exact back_j ss bs 0 hI hb (by rw [h]; rfl)
end Go.Proofs.Ytkcklnmbeinfkaa.PBS
namespace Go.Proofs.Ytkcklnmbeinfkaa.Pure
open Go.Proofs.Ytkcklnmbeinfkaa.B Go.Proofs.YtkcklnmbeinfkaaW.PrintWords
theorem byteWf {x : Int} (h : (Lit.int .u8 x).wf = true) : 0 ≤ x ∧ x ≤ 255 := by
  simp [Lit.wf] at h
  exact ⟨h.1, h.2⟩
theorem CodeBack : ∀ (l0_0 : List S50) (a1 : Int) (l2 : List Int), (l0_0.length * 32 ≤ 140737488351232 ∧ ∀ x ∈ l0_0, ((x.f0.length * 24 ≤ 140737488351232 ∧ ∀ y ∈ x.f0, (y.length * 16 ≤ 140737488351232 ∧ ∀ x ∈ y, ((Lit.int .i64 x.f0).wf = true ∧ (Lit.int .i64 x.f1).wf = true))) ∧ (Lit.int .i64 x.f1).wf = true)) → (Lit.int .i64 a1).wf = true → (l2.length * 1 ≤ 140737488351232 ∧ ∀ x ∈ l2, (Lit.int .u8 x).wf = true) → ∃ k, leadtraillaw10_CodeBack.f k l0_0 a1 l2 = some true :=
  fun l0 u l2 h hu hb => Ev.rounds (PBS.leadtraillaw10_CodeBack_ev l0 u l2 ⟨h.1, fun p hp => ⟨(h.2 p hp).1.1, fun x hx => ((h.2 p hp).1.2 x hx).1⟩⟩ hu (fun b hb' => byteWf (hb.2 b hb')))
end Go.Proofs.Ytkcklnmbeinfkaa.Pure
end
