/- Words and walks of this claim, of the text PBSShapeR. -/
import Derived.Test.YtkcklnmbeinfkaaKdBx0
import Derived.Test.YtkcklnmbeinfkaaKdBx8
import Derived.Test.YtkcklnmbeinfkaaKdBx9
import Derived.Test.YtkcklnmbeinfkaaKdPBSShape
namespace Go.Proofs.Ytkcklnmbeinfkaa.PBS
open Go.RowKit Go.Proofs.YtkcklnmbeinfkaaW.PrintWords Go.Proofs.YtkcklnmbeinfkaaW.PrintLast Go.Proofs.YtkcklnmbeinfkaaW.PrintMore Go.Proofs.Ytkcklnmbeinfkaa.B Go.Proofs.LT Go.Proofs.Ytkcklnmbeinfkaa.PB3
set_option linter.unusedVariables false
set_option linter.unusedSimpArgs false
theorem wf64 {x : Int} (h0 : -9223372036854775808 ≤ x) (h1 : x ≤ 9223372036854775807) : (Lit.int .i64 x).wf = true := by
  have h := wf_wrap .i64 x
  rwa [show IntKind.i64.wrap x = x from by rw [IntKind.wrap_i64]; omega] at h
theorem rdL_at (ps : List (List Sp)) (i : Nat) (h : i < ps.length) : rd_L4 ps (i : Int) = ps[i] := by simp [rd_L4, List.getD, h]
theorem rd_at (l : List Int) (i : Nat) (x : Int) (h : l[i]? = some x) : rd l (i : Int) = x := by simp [rd, List.getD, h]
theorem good_part {ps : List (List Sp)} (h : ps.all okPart = true) {i : Nat} (hi : i < ps.length) : okPart ps[i] = true := List.all_eq_true.1 h _ (List.getElem_mem hi)
theorem cnt_step (ps : List (List Sp)) (i : Nat) (hi : i < ps.length) : cnt (sets (ps.drop i)) = size (runs ps[i]) * cnt (sets (ps.drop (i + 1))) := by
  rw [List.drop_eq_getElem_cons hi]; exact cnt_cons _ _
theorem SP_step (ps : List (List Sp)) (i : Nat) (hi : i < ps.length) : SP (sets (ps.drop i)) = cnt (sets (ps.drop i)) :: SP (sets (ps.drop (i + 1))) := by
  rw [cnt_step ps i hi, List.drop_eq_getElem_cons hi]; exact (by rw [← cnt_cons]; exact SP_cons _)
theorem set_mid (i : Nat) (n : Int) (t : List Int) : (List.replicate (i + 1) 0 ++ t).set i n = List.replicate i 0 ++ n :: t := by
  rw [List.replicate_succ', List.append_assoc, List.set_append, if_neg (by simp), List.length_replicate, Nat.sub_self]; rfl
theorem steps_loop (ps : List (List Sp)) (a : Int) (hI : In2 ps) (hk : ps.all okPart = true) (hl : ps.length ≤ 8) (hc : cnt (sets ps) ≤ 1073741824) : ∀ (i : Nat), i ≤ ps.length →
    Ev (fun k => shape_steps.l0 k (cnt (sets (ps.drop i))) (i : Int) (List.replicate (i + 1) 0 ++ (SP (sets (ps.drop i))).tail) ps a) (SP (sets ps))
  | 0, _ => by
    refine evSucc ?_
    rw [List.drop_zero]
    have c : (0 : Int) < ((List.replicate (0 + 1) (0 : Int) ++ (SP (sets ps)).tail).length : Nat) := by simp
    simp only [shape_steps.l0, if_neg (show ¬ ((0 : Nat) : Int) > 0 by omega), if_pos c]
    have e : (List.replicate (0 + 1) (0 : Int) ++ (SP (sets ps)).tail).set (0 : Int).toNat (cnt (sets ps)) = SP (sets ps) := by
      rw [show (0 : Int).toNat = 0 from rfl, set_mid 0, ← SP_cons]
      first | done | rfl
    rw [e]
    exact evNow _
  | i + 1, hi => by
    have ih := steps_loop ps a hI hk hl hc i (by omega)
    have hg := good_of hk
    have hp := good_part hk (show i < ps.length by omega)
    have hs := okPart_good hp
    have hz := size_256 hs.1
    have hd := cnt_drop i hg
    rw [sets_drop, cnt_step ps i (by omega)] at hd
    have h1 : 1 ≤ cnt (sets (ps.drop (i + 1))) := by have := cnt_pos (hg.drop (i + 1)); rwa [sets_drop] at this
    have e1 : cnt (sets (ps.drop (i + 1))) * size (runs ps[i]) = cnt (sets (ps.drop i)) := by rw [cnt_step ps i (by omega), Int.mul_comm]
    have hpos : 0 ≤ size (runs ps[i]) * cnt (sets (ps.drop (i + 1))) := Int.mul_nonneg (by omega) (by omega)
    have hw : Aside0 (wrap64 (cnt (sets (ps.drop (i + 1))) * size (runs ps[i])) = cnt (sets (ps.drop i))) := Aside0.mk (by rw [w64 (by rw [Int.mul_comm]; omega) (by rw [Int.mul_comm]; omega), e1])
    have hw2 : Aside0 (wrap64 (((i + 1 : Nat) : Int) - 1) = (i : Int)) := Aside0.mk (by rw [w64 (by omega) (by omega)]; omega)
    have hlen : ((List.replicate (i + 1 + 1) (0 : Int) ++ (SP (sets (ps.drop (i + 1)))).tail).length : Nat) = ps.length + 1 := by
      simp [SP_len, sets_len]; omega
    have c1 : ((i + 1 : Nat) : Int) < ((List.replicate (i + 1 + 1) (0 : Int) ++ (SP (sets (ps.drop (i + 1)))).tail).length : Nat) := by rw [hlen]; omega
    refine evSucc ?_
    simp only [shape_steps.l0, if_pos (show ((i + 1 : Nat) : Int) > 0 by omega), if_pos (show (0 : Int) ≤ ((i + 1 : Nat) : Int) by omega), if_pos c1, hw2.out, if_pos (show (0 : Int) ≤ (i : Int) by omega), if_pos (show (i : Int) < (ps.length : Int) by omega), rdL_at ps i (by omega)]
    refine Ev.bind (size_is3 _ (hI.2 _ (List.getElem_mem _)) hp) ?_
    simp only [hw.out]
    have e2 : (List.replicate (i + 1 + 1) (0 : Int) ++ (SP (sets (ps.drop (i + 1)))).tail).set (((i + 1 : Nat) : Int)).toNat (cnt (sets (ps.drop (i + 1)))) = List.replicate (i + 1) 0 ++ (SP (sets (ps.drop i))).tail := by
      rw [Int.toNat_natCast, set_mid (i + 1), ← SP_cons, SP_step ps i (by omega)]; rfl
    rw [e2]
    exact ih
theorem steps_is {ps : List (List Sp)} {a : Int} (hI : In2 ps) (hv : vShape ps a = true) : Ev (fun k => shape_steps.f k ps a) (SP (sets ps)) := by
  obtain ⟨⟨l1, l2⟩, ⟨a1, a2⟩, hk, hg, hc⟩ := vShape_good hv
  have h := steps_loop ps a hI hk l2 (by omega) ps.length (Nat.le_refl _)
  rw [List.drop_length] at h
  have hw : Aside0 (wrap64 ((ps.length : Int) + 1) = ((ps.length + 1 : Nat) : Int)) := Aside0.mk (by rw [w64 (by omega) (by omega)]; simp)
  simp only [shape_steps.f, hw.out, if_pos (show (0 : Int) ≤ ((ps.length + 1 : Nat) : Int) by omega), Int.toNat_natCast, if_pos (show ps.length + 1 ≤ 35184372088832 by omega)]
  simpa [sets, SP, cnt_nil] using h
theorem Count_is (ps : List (List Sp)) (a : Int) (hI : In2 ps) : Ev (fun k => shape_Count.f k ps a) (if vShape ps a = true then cnt (sets ps) else 0) := by
  simp only [shape_Count.f]
  refine Ev.bind (shapeValid_is ps a hI) ?_
  cases hv : vShape ps a
  · simp only [Bool.false_eq_true, if_false]; exact evNow _
  · simp only [if_true]
    refine Ev.bind (steps_is hI hv) ?_
    rw [if_pos (show (0 : Int) < ((SP (sets ps)).length : Nat) by rw [SP_len]; omega), show rd (SP (sets ps)) 0 = cnt (sets ps) by rw [SP_cons]; rfl]
    exact evNow _
theorem select_at (p : List Sp) (d : Int) (hi : In1 p) (hk : okPart p = true) (h0 : 0 ≤ d) (h1 : d < size (runs p)) : Ev (fun k => spans_Select.f k p d) (selV (runs p) d, true) := by
  have hs := okPart_good hk
  have hz := size_256 hs.1
  obtain ⟨r, r1, r2⟩ := spans_Select_is p d (wf64 (by omega) (by omega)) hi
  rw [show p.map L113 = runs p from rfl, setL_of hs.1] at r2
  have hS := selV_spec hs.1 h0 h1
  obtain rfl := Sel.uniq hs.1 r2 (.inl ⟨_, hS.1, hS.2, rfl⟩)
  exact r1
theorem tail_at (ps : List (List Sp)) (i : Nat) (hi : i < ps.length) : (SP (sets ps)).tail[i]? = some (cnt (sets (ps.drop (i + 1)))) := by
  have := SP_at (sets ps) (i + 1) (by rw [sets_len]; omega)
  rw [sets_drop] at this
  rw [← this, List.getElem?_tail]
theorem unrank_loop (ps : List (List Sp)) (a : Int) (hI : In2 ps) (hk : ps.all okPart = true) (hl : ps.length ≤ 8) (hc : cnt (sets ps) ≤ 1073741824) : ∀ (n i : Nat) (kk : Int) (out : List Int), i + n = ps.length → out.length ≤ i → 0 ≤ kk → kk < cnt (sets (ps.drop i)) →
    Ev (fun k => shape_Unrank.l0 k kk out (SP (sets ps)).tail ((SP (sets ps)).tail.length : Int) (i : Int) ps a) (out ++ unr (sets (ps.drop i)) kk, true)
  | 0, i, kk, out, hi, _, _, _ => by
    refine evSucc ?_
    have hlen : (SP (sets ps)).tail.length = ps.length := by rw [List.length_tail, SP_len, sets_len]; rfl
    simp only [shape_Unrank.l0, hlen, if_neg (show ¬ (i : Int) < ((ps.length : Nat) : Int) by omega)]
    rw [List.drop_of_length_le (by omega), show unr (sets []) kk = [] from unr_nil _, List.append_nil]
    exact evNow _
  | n + 1, i, kk, out, hi, ho, h0, h1 => by
    have hlen : (SP (sets ps)).tail.length = ps.length := by rw [List.length_tail, SP_len, sets_len]; rfl
    have hil : i < ps.length := by omega
    have hg := good_of hk
    have hp := good_part hk hil
    have hs := okPart_good hp
    have hpos : 1 ≤ cnt (sets (ps.drop (i + 1))) := by have := cnt_pos (hg.drop (i + 1)); rwa [sets_drop] at this
    rw [cnt_step ps i hil] at h1
    obtain ⟨d0, d1, d2, d3⟩ := digit hpos h0 h1
    have hz := size_256 hs.1
    have ih := unrank_loop ps a hI hk hl hc n (i + 1) (kk % cnt (sets (ps.drop (i + 1)))) (out ++ [selV (runs ps[i]) (kk / cnt (sets (ps.drop (i + 1))))]) (by omega) (by simp; omega) d2 d3
    have hr := hs.1.range (selV_spec hs.1 d0 d1).1
    have r1 := rd_at _ i _ (tail_at ps i hil)
    have t1 : Int.tdiv kk (cnt (sets (ps.drop (i + 1)))) = kk / cnt (sets (ps.drop (i + 1))) := Int.tdiv_eq_ediv_of_nonneg h0
    have t2 : Int.tmod kk (cnt (sets (ps.drop (i + 1)))) = kk % cnt (sets (ps.drop (i + 1))) := Int.tmod_eq_emod_of_nonneg h0
    have hw : Aside0 (wrap64 (kk / cnt (sets (ps.drop (i + 1)))) = kk / cnt (sets (ps.drop (i + 1)))) := Aside0.mk (w64 (by omega) (by omega))
    have hw2 : Aside0 (wrap64 ((i : Int) + 1) = ((i + 1 : Nat) : Int)) := Aside0.mk (by rw [w64 (by omega) (by omega)]; simp)
    have hm : selV (runs ps[i]) (kk / cnt (sets (ps.drop (i + 1)))) % 256 = selV (runs ps[i]) (kk / cnt (sets (ps.drop (i + 1)))) := Int.emod_eq_of_lt hr.1 (by omega)
    refine evSucc ?_
    simp only [shape_Unrank.l0, hlen, if_pos (show (i : Int) < ((ps.length : Nat) : Int) by omega), if_pos (show (0 : Int) ≤ (i : Int) by omega), r1, if_neg (show ¬ cnt (sets (ps.drop (i + 1))) = 0 by omega), rdL_at ps i hil, t1, t2, hw.out]
    refine Ev.bind (select_at _ _ (hI.2 _ (List.getElem_mem _)) hp d0 d1) ?_
    simp only [if_pos (show out.length < 140737488355328 by omega), hw2.out, hm]
    have e : unr (sets (ps.drop i)) kk = selV (runs ps[i]) (kk / cnt (sets (ps.drop (i + 1)))) :: unr (sets (ps.drop (i + 1))) (kk % cnt (sets (ps.drop (i + 1)))) := by
      rw [List.drop_eq_getElem_cons hil]; exact unr_cons _ _ _
    rw [e]
    rw [hlen, List.append_assoc] at ih
    exact ih
theorem Unrank_no (ps : List (List Sp)) (a kk : Int) (hI : In2 ps) (h : ¬ (0 ≤ kk ∧ kk < (if vShape ps a = true then cnt (sets ps) else 0))) : Ev (fun k => shape_Unrank.f k ps a kk) ([], false) := by
  have j : Ev (fun k => shape_Unrank.j0 k kk true ps a) ([], false) := by
    refine evSucc ?_
    simp only [shape_Unrank.j0, if_true]; exact evNow _
  simp only [shape_Unrank.f]
  by_cases c : kk < 0
  · simp only [if_pos c]; exact j
  · simp only [if_neg c]
    refine Ev.bind (Count_is ps a hI) ?_
    rw [decide_eq_true (show kk ≥ (if vShape ps a = true then cnt (sets ps) else 0) by omega)]
    exact j
theorem Unrank_yes {ps : List (List Sp)} {a kk : Int} (hI : In2 ps) (hv : vShape ps a = true) (h0 : 0 ≤ kk) (h1 : kk < cnt (sets ps)) : Ev (fun k => shape_Unrank.f k ps a kk) (unr (sets ps) kk, true) := by
  obtain ⟨⟨l1, l2⟩, ⟨a1, a2⟩, hk, hg, hc⟩ := vShape_good hv
  simp only [shape_Unrank.f, if_neg (show ¬ kk < 0 by omega)]
  have hC := Count_is ps a hI
  rw [if_pos hv] at hC
  refine Ev.bind hC ?_
  rw [decide_eq_false (show ¬ kk ≥ cnt (sets ps) by omega)]
  refine evSucc ?_
  simp only [shape_Unrank.j0, Bool.false_eq_true, if_false]
  refine Ev.bind (steps_is hI hv) ?_
  simp only [if_pos (show (1 : Int) ≤ ((SP (sets ps)).length : Nat) by rw [SP_len]; omega)]
  simp only [Option.bind_some, show (1 : Int).toNat = 1 from rfl, List.drop_one]
  have := unrank_loop ps a hI hk l2 (by omega) ps.length 0 kk [] (by omega) (by simp) h0 (by rw [List.drop_zero]; exact h1)
  rw [List.drop_zero, List.nil_append] at this
  exact this
def rkR : Option Int → Int × Bool
  | some r => (r, true)
  | none => (0, false)
theorem rank_loop3 (ps : List (List Sp)) (a : Int) (bs : List Int) (hb : ∀ b ∈ bs, 0 ≤ b ∧ b ≤ 255) (hbl : bs.length = ps.length) (hI : In2 ps) (hk : ps.all okPart = true) (hl : ps.length ≤ 8) (hc : cnt (sets ps) ≤ 1073741824) : ∀ (n i : Nat) (acc : Int), i + n = ps.length → 0 ≤ acc → acc + cnt (sets (ps.drop i)) ≤ 1073741824 →
    Ev (fun k => shape_Rank.l0 k bs acc (SP (sets ps)).tail ((SP (sets ps)).tail.length : Int) (i : Int) ps a) (rkR ((rnk (sets (ps.drop i)) (bs.drop i)).map (acc + ·)))
  | 0, i, acc, hi, _, _ => by
    refine evSucc ?_
    have hlen : (SP (sets ps)).tail.length = ps.length := by rw [List.length_tail, SP_len, sets_len]; rfl
    simp only [shape_Rank.l0, hlen, if_neg (show ¬ (i : Int) < ((ps.length : Nat) : Int) by omega)]
    rw [List.drop_of_length_le (show ps.length ≤ i by omega), List.drop_of_length_le (show bs.length ≤ i by omega), show rnk (sets []) [] = some 0 from rnk_nil]
    simpa [rkR] using evNow (acc, true)
  | n + 1, i, acc, hi, h0, h1 => by
    have hlen : (SP (sets ps)).tail.length = ps.length := by rw [List.length_tail, SP_len, sets_len]; rfl
    have hil : i < ps.length := by omega
    have hbi : i < bs.length := by omega
    have hg := good_of hk
    have hp := good_part hk hil
    have hs := okPart_good hp
    have hz := size_256 hs.1
    have hpos : 1 ≤ cnt (sets (ps.drop (i + 1))) := by have := cnt_pos (hg.drop (i + 1)); rwa [sets_drop] at this
    have hbb := hb _ (List.getElem_mem hbi)
    rw [cnt_step ps i hil] at h1
    have r1 := rd_at _ i _ (tail_at ps i hil)
    have r2 := rd_at bs i _ (List.getElem?_eq_getElem hbi)
    have hw : Aside0 (wrap64 (bs[i]) = bs[i]) := Aside0.mk (w64 (by omega) (by omega))
    have hw2 : Aside0 (wrap64 ((i : Int) + 1) = ((i + 1 : Nat) : Int)) := Aside0.mk (by rw [w64 (by omega) (by omega)]; simp)
    have hR := spans_Rank_is ps[i] bs[i] (wf64 (by omega) (by omega)) (hI.2 _ (List.getElem_mem _))
    rw [show ps[i].map L113 = runs ps[i] from rfl, setL_of hs.1] at hR
    have e : rnk (sets (ps.drop i)) (bs.drop i) = if memB (runs ps[i]) bs[i] = true then (rnk (sets (ps.drop (i + 1))) (bs.drop (i + 1))).map (fun r => (cd (memB (runs ps[i])) bs[i].toNat : Int) * cnt (sets (ps.drop (i + 1))) + r) else none := by
      rw [List.drop_eq_getElem_cons hil, List.drop_eq_getElem_cons hbi]; exact rnk_cons _ _ _ _
    refine evSucc ?_
    simp only [shape_Rank.l0, hlen, if_pos (show (i : Int) < ((ps.length : Nat) : Int) by omega), if_pos (show (0 : Int) ≤ (i : Int) by omega), if_pos (show (i : Int) < ((bs.length : Nat) : Int) by omega), r1, r2, rdL_at ps i hil, hw.out]
    refine Ev.bind hR ?_
    by_cases hm : memB (runs ps[i]) bs[i] = true
    · rw [e, if_pos hm]
      simp only [rankL, if_pos hm, if_true]
      have hd := cd_less hs.1 (memB_iff.1 hm)
      have m0 : 0 ≤ (cd (memB (runs ps[i])) bs[i].toNat : Int) * cnt (sets (ps.drop (i + 1))) := Int.mul_nonneg (by omega) (by omega)
      have m1 := Int.mul_le_mul_of_nonneg_right (show (cd (memB (runs ps[i])) bs[i].toNat : Int) + 1 ≤ size (runs ps[i]) by omega) (show 0 ≤ cnt (sets (ps.drop (i + 1))) by omega)
      rw [Int.add_mul, Int.one_mul] at m1
      have w1 : Aside0 (wrap64 (acc + wrap64 ((cd (memB (runs ps[i])) bs[i].toNat : Int) * cnt (sets (ps.drop (i + 1))))) = acc + (cd (memB (runs ps[i])) bs[i].toNat : Int) * cnt (sets (ps.drop (i + 1)))) := Aside0.mk (by
        rw [w64 (x := (cd (memB (runs ps[i])) bs[i].toNat : Int) * cnt (sets (ps.drop (i + 1)))) (by omega) (by omega), w64 (by omega) (by omega)])
      simp only [w1.out, hw2.out]
      have ih := rank_loop3 ps a bs hb hbl hI hk hl hc n (i + 1) (acc + (cd (memB (runs ps[i])) bs[i].toNat : Int) * cnt (sets (ps.drop (i + 1)))) (by omega) (by omega) (by omega)
      rw [hlen] at ih
      have e3 : ((rnk (sets (ps.drop (i + 1))) (bs.drop (i + 1))).map (fun r => (cd (memB (runs ps[i])) bs[i].toNat : Int) * cnt (sets (ps.drop (i + 1))) + r)).map (acc + ·) = (rnk (sets (ps.drop (i + 1))) (bs.drop (i + 1))).map (acc + (cd (memB (runs ps[i])) bs[i].toNat : Int) * cnt (sets (ps.drop (i + 1))) + ·) := by
        cases rnk (sets (ps.drop (i + 1))) (bs.drop (i + 1)) with
        | none => rfl
        | some r => simp [Int.add_assoc]
      rw [e3]
      exact ih
    · rw [e, if_neg hm]
      simp only [rankL, if_neg hm, Bool.false_eq_true, if_false]
      exact evNow _
def rkS (ps : List (List Sp)) (a : Int) (bs : List Int) : Int × Bool := if vShape ps a = true then rkR (rnk (sets ps) bs) else (0, false)
theorem Rank_is (ps : List (List Sp)) (a : Int) (bs : List Int) (hI : In2 ps) (hb : ∀ b ∈ bs, 0 ≤ b ∧ b ≤ 255) : Ev (fun k => shape_Rank.f k ps a bs) (rkS ps a bs) := by
  have jT : Ev (fun k => shape_Rank.j0 k bs true ps a) (0, false) := by
    refine evSucc ?_
    simp only [shape_Rank.j0, if_true]; exact evNow _
  simp only [shape_Rank.f]
  refine Ev.bind (shapeValid_is ps a hI) ?_
  unfold rkS
  cases hv : vShape ps a
  · simp only [Bool.false_eq_true, if_false]; exact jT
  · simp only [if_true]
    obtain ⟨⟨l1, l2⟩, ⟨a1, a2⟩, hk, hg, hc⟩ := vShape_good hv
    by_cases c : bs.length = ps.length
    · rw [show ((bs.length : Int) != (ps.length : Int)) = false by simp [c]]
      refine evSucc ?_
      simp only [shape_Rank.j0, Bool.false_eq_true, if_false]
      refine Ev.bind (steps_is hI hv) ?_
      simp only [if_pos (show (1 : Int) ≤ ((SP (sets ps)).length : Nat) by rw [SP_len]; omega)]
      simp only [Option.bind_some, show (1 : Int).toNat = 1 from rfl, List.drop_one]
      have := rank_loop3 ps a bs hb c hI hk l2 (by omega) ps.length 0 0 (by omega) (by omega) (by rw [List.drop_zero]; omega)
      rw [List.drop_zero, List.drop_zero] at this
      have e : (rnk (sets ps) bs).map ((0 : Int) + ·) = rnk (sets ps) bs := by cases rnk (sets ps) bs <;> simp
      rw [e] at this
      exact this
    · rw [show ((bs.length : Int) != (ps.length : Int)) = true by simp; omega]
      have e : rnk (sets ps) bs = none := by
        cases hr : rnk (sets ps) bs with
        | none => rfl
        | some r => exact (c (by have := rnk_len hr; rwa [sets_len] at this)).elim
      rw [e]
      exact jT
end Go.Proofs.Ytkcklnmbeinfkaa.PBS
