/- Words and laws of this claim, of 9 texts. -/
import Derived.Test.YtkcklnmbeinfkaaKjBx0
import Derived.Test.YtkcklnmbeinfkaaKjBx9
import Derived.Test.YtkcklnmbeinfkaaKjBx10
import Derived.Test.YtkcklnmbeinfkaaKjQP0
import Derived.Test.YtkcklnmbeinfkaaKjBx11
import Derived.Lib.Bytes
import Derived.Test.YtkcklnmbeinfkaaKjBx22
import Derived.Test.YtkcklnmbeinfkaaKjBx23
import Derived.Test.YtkcklnmbeinfkaaKjBx12
import Derived.Test.YtkcklnmbeinfkaaKjBx13
import Derived.Test.YtkcklnmbeinfkaaKjBx28
import Derived.Test.YtkcklnmbeinfkaaKjBx8
import Derived.Test.YtkcklnmbeinfkaaKjBx14
import Derived.Test.YtkcklnmbeinfkaaKjBx15
import Derived.Test.YtkcklnmbeinfkaaKjBx3
import Derived.Test.YtkcklnmbeinfkaaKjQW1
import Derived.Test.YtkcklnmbeinfkaaKjBx20
import Derived.Test.YtkcklnmbeinfkaaKjBx30
import Derived.Test.YtkcklnmbeinfkaaKjBx31
import Derived.Test.YtkcklnmbeinfkaaKjBx33
import Derived.Test.YtkcklnmbeinfkaaKjBx34
import Derived.Test.YtkcklnmbeinfkaaKjBx32
import Derived.Test.YtkcklnmbeinfkaaKjBx38
section
namespace Go.Proofs.Ytkcklnmbeinfkaa.PBS
open Go.RowKit Go.Proofs.YtkcklnmbeinfkaaW.PrintWords Go.Proofs.YtkcklnmbeinfkaaW.PrintLast Go.Proofs.YtkcklnmbeinfkaaW.PrintMore Go.Proofs.Ytkcklnmbeinfkaa.B Go.Proofs.LT Go.Proofs.Ytkcklnmbeinfkaa.PB3
set_option linter.unusedVariables false
set_option linter.unusedSimpArgs false
theorem wf64 {x : Int} (h0 : -9223372036854775808 ≤ x) (h1 : x ≤ 9223372036854775807) : (Lit.int .i64 x).wf = true := by
 have h := wf_wrap .i64 x
 rwa [show IntKind.i64.wrap x = x from by rw [IntKind.wrap_i64]; omega] at h
theorem rdL_at (ps : List (List Sp)) (i : Nat) (h : i < ps.length) : rd_L4 ps (i : Int) = ps[i] := by simp [rd_L4, List.getD, h]
theorem rd_at (l : List Int) (i : Nat) (x : Int) (h : l[i]? = some x) : rd l (i : Int) = x := by simp [rd, List.getD, h]
theorem good_part {ps : List (List Sp)} (h : ps.all okPart = true) {i : Nat} (hi : i < ps.length) : okPart ps[i] = true := List.all_eq_true.1 h _ (List.getElem_mem hi)
theorem cnt_step (ps : List (List Sp)) (i : Nat) (hi : i < ps.length) : cnt (sets (ps.drop i)) = size (runs ps[i]) * cnt (sets (ps.drop (i + 1))) := by
 rw [List.drop_eq_getElem_cons hi]; exact cnt_cons _ _
theorem SP_step (ps : List (List Sp)) (i : Nat) (hi : i < ps.length) : SP (sets (ps.drop i)) = cnt (sets (ps.drop i)) :: SP (sets (ps.drop (i + 1))) := by
 rw [cnt_step ps i hi, List.drop_eq_getElem_cons hi]; exact (by rw [← cnt_cons]; exact SP_cons _)
theorem set_mid (i : Nat) (n : Int) (t : List Int) : (List.replicate (i + 1) 0 ++ t).set i n = List.replicate i 0 ++ n :: t := by
 rw [List.replicate_succ', List.append_assoc, List.set_append, if_neg (by simp), List.length_replicate, Nat.sub_self]; rfl
theorem steps_loop (ps : List (List Sp)) (a : Int) (hI : In2 ps) (hk : ps.all okPart = true) (hl : ps.length ≤ 8) (hc : cnt (sets ps) ≤ 1073741824) : ∀ (i : Nat), i ≤ ps.length →
 Ev (fun k => shape_steps.l0 k (cnt (sets (ps.drop i))) (i : Int) (List.replicate (i + 1) 0 ++ (SP (sets (ps.drop i))).tail) ps a) (SP (sets ps))
 | 0, _ => by
  refine evSucc ?_
  rw [List.drop_zero]
  have c : (0 : Int) < ((List.replicate (0 + 1) (0 : Int) ++ (SP (sets ps)).tail).length : Nat) := by simp
  simp only [shape_steps.l0, if_neg (show ¬ ((0 : Nat) : Int) > 0 by omega), if_pos c]
  have e : (List.replicate (0 + 1) (0 : Int) ++ (SP (sets ps)).tail).set (0 : Int).toNat (cnt (sets ps)) = SP (sets ps) := by
   rw [show (0 : Int).toNat = 0 from rfl, set_mid 0, ← SP_cons]
   first | done | rfl
  rw [e]
  exact evNow _
 | i + 1, hi => by
  have ih := steps_loop ps a hI hk hl hc i (by omega)
  have hg := good_of hk
  have hp := good_part hk (show i < ps.length by omega)
  have hs := okPart_good hp
  have hz := size_256 hs.1
  have hd := cnt_drop i hg
  rw [sets_drop, cnt_step ps i (by omega)] at hd
  have h1 : 1 ≤ cnt (sets (ps.drop (i + 1))) := by have := cnt_pos (hg.drop (i + 1)); rwa [sets_drop] at this
  have e1 : cnt (sets (ps.drop (i + 1))) * size (runs ps[i]) = cnt (sets (ps.drop i)) := by rw [cnt_step ps i (by omega), Int.mul_comm]
  have hpos : 0 ≤ size (runs ps[i]) * cnt (sets (ps.drop (i + 1))) := Int.mul_nonneg (by omega) (by omega)
  have hw : Aside0 (wrap64 (cnt (sets (ps.drop (i + 1))) * size (runs ps[i])) = cnt (sets (ps.drop i))) := Aside0.mk (by rw [w64 (by rw [Int.mul_comm]; omega) (by rw [Int.mul_comm]; omega), e1])
  have hw2 : Aside0 (wrap64 (((i + 1 : Nat) : Int) - 1) = (i : Int)) := Aside0.mk (by rw [w64 (by omega) (by omega)]; omega)
  have hlen : ((List.replicate (i + 1 + 1) (0 : Int) ++ (SP (sets (ps.drop (i + 1)))).tail).length : Nat) = ps.length + 1 := by
   simp [SP_len, sets_len]; omega
  have c1 : ((i + 1 : Nat) : Int) < ((List.replicate (i + 1 + 1) (0 : Int) ++ (SP (sets (ps.drop (i + 1)))).tail).length : Nat) := by rw [hlen]; omega
  refine evSucc ?_
  simp only [shape_steps.l0, if_pos (show ((i + 1 : Nat) : Int) > 0 by omega), if_pos (show (0 : Int) ≤ ((i + 1 : Nat) : Int) by omega), if_pos c1, hw2.out, if_pos (show (0 : Int) ≤ (i : Int) by omega), if_pos (show (i : Int) < (ps.length : Int) by omega), rdL_at ps i (by omega)]
  refine Ev.bind (size_is3 _ (hI.2 _ (List.getElem_mem _)) hp) ?_
  simp only [hw.out]
  have e2 : (List.replicate (i + 1 + 1) (0 : Int) ++ (SP (sets (ps.drop (i + 1)))).tail).set (((i + 1 : Nat) : Int)).toNat (cnt (sets (ps.drop (i + 1)))) = List.replicate (i + 1) 0 ++ (SP (sets (ps.drop i))).tail := by
   rw [Int.toNat_natCast, set_mid (i + 1), ← SP_cons, SP_step ps i (by omega)]; rfl
  rw [e2]
  exact ih
theorem steps_is {ps : List (List Sp)} {a : Int} (hI : In2 ps) (hv : vShape ps a = true) : Ev (fun k => shape_steps.f k ps a) (SP (sets ps)) := by
 obtain ⟨⟨l1, l2⟩, ⟨a1, a2⟩, hk, hg, hc⟩ := vShape_good hv
 have h := steps_loop ps a hI hk l2 (by omega) ps.length (Nat.le_refl _)
 rw [List.drop_length] at h
 have hw : Aside0 (wrap64 ((ps.length : Int) + 1) = ((ps.length + 1 : Nat) : Int)) := Aside0.mk (by rw [w64 (by omega) (by omega)]; simp)
 simp only [shape_steps.f, hw.out, if_pos (show (0 : Int) ≤ ((ps.length + 1 : Nat) : Int) by omega), Int.toNat_natCast, if_pos (show ps.length + 1 ≤ 35184372088832 by omega)]
 simpa [sets, SP, cnt_nil] using h
theorem Count_is (ps : List (List Sp)) (a : Int) (hI : In2 ps) : Ev (fun k => shape_Count.f k ps a) (if vShape ps a = true then cnt (sets ps) else 0) := by
 simp only [shape_Count.f]
 refine Ev.bind (shapeValid_is ps a hI) ?_
 cases hv : vShape ps a
 ·simp only [Bool.false_eq_true, if_false]; exact evNow _
 ·simp only [if_true]
  refine Ev.bind (steps_is hI hv) ?_
  rw [if_pos (show (0 : Int) < ((SP (sets ps)).length : Nat) by rw [SP_len]; omega), show rd (SP (sets ps)) 0 = cnt (sets ps) by rw [SP_cons]; rfl]
  exact evNow _
theorem select_at (p : List Sp) (d : Int) (hi : In1 p) (hk : okPart p = true) (h0 : 0 ≤ d) (h1 : d < size (runs p)) : Ev (fun k => spans_Select.f k p d) (selV (runs p) d, true) := by
 have hs := okPart_good hk
 have hz := size_256 hs.1
 obtain ⟨r, r1, r2⟩ := spans_Select_is p d (wf64 (by omega) (by omega)) hi
 rw [show p.map L113 = runs p from rfl, setL_of hs.1] at r2
 have hS := selV_spec hs.1 h0 h1
 obtain rfl := Sel.uniq hs.1 r2 (.inl ⟨_, hS.1, hS.2, rfl⟩)
 exact r1
theorem tail_at (ps : List (List Sp)) (i : Nat) (hi : i < ps.length) : (SP (sets ps)).tail[i]? = some (cnt (sets (ps.drop (i + 1)))) := by
 have := SP_at (sets ps) (i + 1) (by rw [sets_len]; omega)
 rw [sets_drop] at this
 rw [← this, List.getElem?_tail]
theorem unrank_loop (ps : List (List Sp)) (a : Int) (hI : In2 ps) (hk : ps.all okPart = true) (hl : ps.length ≤ 8) (hc : cnt (sets ps) ≤ 1073741824) : ∀ (n i : Nat) (kk : Int) (out : List Int), i + n = ps.length → out.length ≤ i → 0 ≤ kk → kk < cnt (sets (ps.drop i)) →
 Ev (fun k => shape_Unrank.l0 k kk out (SP (sets ps)).tail ((SP (sets ps)).tail.length : Int) (i : Int) ps a) (out ++ unr (sets (ps.drop i)) kk, true)
 | 0, i, kk, out, hi, _, _, _ => by
  refine evSucc ?_
  have hlen : (SP (sets ps)).tail.length = ps.length := by rw [List.length_tail, SP_len, sets_len]; rfl
  simp only [shape_Unrank.l0, hlen, if_neg (show ¬ (i : Int) < ((ps.length : Nat) : Int) by omega)]
  rw [List.drop_of_length_le (by omega), show unr (sets []) kk = [] from unr_nil _, List.append_nil]
  exact evNow _
 | n + 1, i, kk, out, hi, ho, h0, h1 => by
  have hlen : (SP (sets ps)).tail.length = ps.length := by rw [List.length_tail, SP_len, sets_len]; rfl
  have hil : i < ps.length := by omega
  have hg := good_of hk
  have hp := good_part hk hil
  have hs := okPart_good hp
  have hpos : 1 ≤ cnt (sets (ps.drop (i + 1))) := by have := cnt_pos (hg.drop (i + 1)); rwa [sets_drop] at this
  rw [cnt_step ps i hil] at h1
  obtain ⟨d0, d1, d2, d3⟩ := digit hpos h0 h1
  have hz := size_256 hs.1
  have ih := unrank_loop ps a hI hk hl hc n (i + 1) (kk % cnt (sets (ps.drop (i + 1)))) (out ++ [selV (runs ps[i]) (kk / cnt (sets (ps.drop (i + 1))))]) (by omega) (by simp; omega) d2 d3
  have hr := hs.1.range (selV_spec hs.1 d0 d1).1
  have r1 := rd_at _ i _ (tail_at ps i hil)
  have t1 : Int.tdiv kk (cnt (sets (ps.drop (i + 1)))) = kk / cnt (sets (ps.drop (i + 1))) := Int.tdiv_eq_ediv_of_nonneg h0
  have t2 : Int.tmod kk (cnt (sets (ps.drop (i + 1)))) = kk % cnt (sets (ps.drop (i + 1))) := Int.tmod_eq_emod_of_nonneg h0
  have hw : Aside0 (wrap64 (kk / cnt (sets (ps.drop (i + 1)))) = kk / cnt (sets (ps.drop (i + 1)))) := Aside0.mk (w64 (by omega) (by omega))
  have hw2 : Aside0 (wrap64 ((i : Int) + 1) = ((i + 1 : Nat) : Int)) := Aside0.mk (by rw [w64 (by omega) (by omega)]; simp)
  have hm : selV (runs ps[i]) (kk / cnt (sets (ps.drop (i + 1)))) % 256 = selV (runs ps[i]) (kk / cnt (sets (ps.drop (i + 1)))) := Int.emod_eq_of_lt hr.1 (by omega)
  refine evSucc ?_
  simp only [shape_Unrank.l0, hlen, if_pos (show (i : Int) < ((ps.length : Nat) : Int) by omega), if_pos (show (0 : Int) ≤ (i : Int) by omega), r1, if_neg (show ¬ cnt (sets (ps.drop (i + 1))) = 0 by omega), rdL_at ps i hil, t1, t2, hw.out]
  refine Ev.bind (select_at _ _ (hI.2 _ (List.getElem_mem _)) hp d0 d1) ?_
  simp only [if_pos (show out.length < 140737488355328 by omega), hw2.out, hm]
  have e : unr (sets (ps.drop i)) kk = selV (runs ps[i]) (kk / cnt (sets (ps.drop (i + 1)))) :: unr (sets (ps.drop (i + 1))) (kk % cnt (sets (ps.drop (i + 1)))) := by
   rw [List.drop_eq_getElem_cons hil]; exact unr_cons _ _ _
  rw [e]
  rw [hlen, List.append_assoc] at ih
  exact ih
theorem Unrank_no (ps : List (List Sp)) (a kk : Int) (hI : In2 ps) (h : ¬ (0 ≤ kk ∧ kk < (if vShape ps a = true then cnt (sets ps) else 0))) : Ev (fun k => shape_Unrank.f k ps a kk) ([], false) := by
 have j : Ev (fun k => shape_Unrank.j0 k kk true ps a) ([], false) := by
  refine evSucc ?_
  simp only [shape_Unrank.j0, if_true]; exact evNow _
 simp only [shape_Unrank.f]
 by_cases c : kk < 0
 ·simp only [if_pos c]; exact j
 ·simp only [if_neg c]
  refine Ev.bind (Count_is ps a hI) ?_
  rw [decide_eq_true (show kk ≥ (if vShape ps a = true then cnt (sets ps) else 0) by omega)]
  exact j
theorem Unrank_yes {ps : List (List Sp)} {a kk : Int} (hI : In2 ps) (hv : vShape ps a = true) (h0 : 0 ≤ kk) (h1 : kk < cnt (sets ps)) : Ev (fun k => shape_Unrank.f k ps a kk) (unr (sets ps) kk, true) := by
 obtain ⟨⟨l1, l2⟩, ⟨a1, a2⟩, hk, hg, hc⟩ := vShape_good hv
 simp only [shape_Unrank.f, if_neg (show ¬ kk < 0 by omega)]
 have hC := Count_is ps a hI
 rw [if_pos hv] at hC
 refine Ev.bind hC ?_
 rw [decide_eq_false (show ¬ kk ≥ cnt (sets ps) by omega)]
 refine evSucc ?_
 simp only [shape_Unrank.j0, Bool.false_eq_true, if_false]
 refine Ev.bind (steps_is hI hv) ?_
 simp only [if_pos (show (1 : Int) ≤ ((SP (sets ps)).length : Nat) by rw [SP_len]; omega)]
 simp only [Option.bind_some, show (1 : Int).toNat = 1 from rfl, List.drop_one]
 have := unrank_loop ps a hI hk l2 (by omega) ps.length 0 kk [] (by omega) (by simp) h0 (by rw [List.drop_zero]; exact h1)
 rw [List.drop_zero, List.nil_append] at this
 exact this
def rkR : Option Int → Int × Bool
 | some r => (r, true)
 | none => (0, false)
theorem rank_loop3 (ps : List (List Sp)) (a : Int) (bs : List Int) (hb : ∀ b ∈ bs, 0 ≤ b ∧ b ≤ 255) (hbl : bs.length = ps.length) (hI : In2 ps) (hk : ps.all okPart = true) (hl : ps.length ≤ 8) (hc : cnt (sets ps) ≤ 1073741824) : ∀ (n i : Nat) (acc : Int), i + n = ps.length → 0 ≤ acc → acc + cnt (sets (ps.drop i)) ≤ 1073741824 →
 Ev (fun k => shape_Rank.l0 k bs acc (SP (sets ps)).tail ((SP (sets ps)).tail.length : Int) (i : Int) ps a) (rkR ((rnk (sets (ps.drop i)) (bs.drop i)).map (acc + ·)))
 | 0, i, acc, hi, _, _ => by
  refine evSucc ?_
  have hlen : (SP (sets ps)).tail.length = ps.length := by rw [List.length_tail, SP_len, sets_len]; rfl
  simp only [shape_Rank.l0, hlen, if_neg (show ¬ (i : Int) < ((ps.length : Nat) : Int) by omega)]
  rw [List.drop_of_length_le (show ps.length ≤ i by omega), List.drop_of_length_le (show bs.length ≤ i by omega), show rnk (sets []) [] = some 0 from rnk_nil]
  simpa [rkR] using evNow (acc, true)
 | n + 1, i, acc, hi, h0, h1 => by
  have hlen : (SP (sets ps)).tail.length = ps.length := by rw [List.length_tail, SP_len, sets_len]; rfl
  have hil : i < ps.length := by omega
  have hbi : i < bs.length := by omega
  have hg := good_of hk
  have hp := good_part hk hil
  have hs := okPart_good hp
  have hz := size_256 hs.1
  have hpos : 1 ≤ cnt (sets (ps.drop (i + 1))) := by have := cnt_pos (hg.drop (i + 1)); rwa [sets_drop] at this
  have hbb := hb _ (List.getElem_mem hbi)
  rw [cnt_step ps i hil] at h1
  have r1 := rd_at _ i _ (tail_at ps i hil)
  have r2 := rd_at bs i _ (List.getElem?_eq_getElem hbi)
  have hw : Aside0 (wrap64 (bs[i]) = bs[i]) := Aside0.mk (w64 (by omega) (by omega))
  have hw2 : Aside0 (wrap64 ((i : Int) + 1) = ((i + 1 : Nat) : Int)) := Aside0.mk (by rw [w64 (by omega) (by omega)]; simp)
  have hR := spans_Rank_is ps[i] bs[i] (wf64 (by omega) (by omega)) (hI.2 _ (List.getElem_mem _))
  rw [show ps[i].map L113 = runs ps[i] from rfl, setL_of hs.1] at hR
  have e : rnk (sets (ps.drop i)) (bs.drop i) = if memB (runs ps[i]) bs[i] = true then (rnk (sets (ps.drop (i + 1))) (bs.drop (i + 1))).map (fun r => (cd (memB (runs ps[i])) bs[i].toNat : Int) * cnt (sets (ps.drop (i + 1))) + r) else none := by
   rw [List.drop_eq_getElem_cons hil, List.drop_eq_getElem_cons hbi]; exact rnk_cons _ _ _ _
  refine evSucc ?_
  simp only [shape_Rank.l0, hlen, if_pos (show (i : Int) < ((ps.length : Nat) : Int) by omega), if_pos (show (0 : Int) ≤ (i : Int) by omega), if_pos (show (i : Int) < ((bs.length : Nat) : Int) by omega), r1, r2, rdL_at ps i hil, hw.out]
  refine Ev.bind hR ?_
  by_cases hm : memB (runs ps[i]) bs[i] = true
  ·rw [e, if_pos hm]
   simp only [rankL, if_pos hm, if_true]
   have hd := cd_less hs.1 (memB_iff.1 hm)
   have m0 : 0 ≤ (cd (memB (runs ps[i])) bs[i].toNat : Int) * cnt (sets (ps.drop (i + 1))) := Int.mul_nonneg (by omega) (by omega)
   have m1 := Int.mul_le_mul_of_nonneg_right (show (cd (memB (runs ps[i])) bs[i].toNat : Int) + 1 ≤ size (runs ps[i]) by omega) (show 0 ≤ cnt (sets (ps.drop (i + 1))) by omega)
   rw [Int.add_mul, Int.one_mul] at m1
   have w1 : Aside0 (wrap64 (acc + wrap64 ((cd (memB (runs ps[i])) bs[i].toNat : Int) * cnt (sets (ps.drop (i + 1))))) = acc + (cd (memB (runs ps[i])) bs[i].toNat : Int) * cnt (sets (ps.drop (i + 1)))) := Aside0.mk (by
    rw [w64 (x := (cd (memB (runs ps[i])) bs[i].toNat : Int) * cnt (sets (ps.drop (i + 1)))) (by omega) (by omega), w64 (by omega) (by omega)])
   simp only [w1.out, hw2.out]
   have ih := rank_loop3 ps a bs hb hbl hI hk hl hc n (i + 1) (acc + (cd (memB (runs ps[i])) bs[i].toNat : Int) * cnt (sets (ps.drop (i + 1)))) (by omega) (by omega) (by omega)
   rw [hlen] at ih
   have e3 : ((rnk (sets (ps.drop (i + 1))) (bs.drop (i + 1))).map (fun r => (cd (memB (runs ps[i])) bs[i].toNat : Int) * cnt (sets (ps.drop (i + 1))) + r)).map (acc + ·) = (rnk (sets (ps.drop (i + 1))) (bs.drop (i + 1))).map (acc + (cd (memB (runs ps[i])) bs[i].toNat : Int) * cnt (sets (ps.drop (i + 1))) + ·) := by
    cases rnk (sets (ps.drop (i + 1))) (bs.drop (i + 1)) with
    | none => rfl
    | some r => simp [Int.add_assoc]
   rw [e3]
   exact ih
  ·rw [e, if_neg hm]
   simp only [rankL, if_neg hm, Bool.false_eq_true, if_false]
   exact evNow _
def rkS (ps : List (List Sp)) (a : Int) (bs : List Int) : Int × Bool := if vShape ps a = true then rkR (rnk (sets ps) bs) else (0, false)
theorem Rank_is (ps : List (List Sp)) (a : Int) (bs : List Int) (hI : In2 ps) (hb : ∀ b ∈ bs, 0 ≤ b ∧ b ≤ 255) : Ev (fun k => shape_Rank.f k ps a bs) (rkS ps a bs) := by
 have jT : Ev (fun k => shape_Rank.j0 k bs true ps a) (0, false) := by
  refine evSucc ?_
  simp only [shape_Rank.j0, if_true]; exact evNow _
 simp only [shape_Rank.f]
 refine Ev.bind (shapeValid_is ps a hI) ?_
 unfold rkS
 cases hv : vShape ps a
 ·simp only [Bool.false_eq_true, if_false]; exact jT
 ·simp only [if_true]
  obtain ⟨⟨l1, l2⟩, ⟨a1, a2⟩, hk, hg, hc⟩ := vShape_good hv
  by_cases c : bs.length = ps.length
  ·rw [show ((bs.length : Int) != (ps.length : Int)) = false by simp [c]]
   refine evSucc ?_
   simp only [shape_Rank.j0, Bool.false_eq_true, if_false]
   refine Ev.bind (steps_is hI hv) ?_
   simp only [if_pos (show (1 : Int) ≤ ((SP (sets ps)).length : Nat) by rw [SP_len]; omega)]
   simp only [Option.bind_some, show (1 : Int).toNat = 1 from rfl, List.drop_one]
   have := rank_loop3 ps a bs hb c hI hk l2 (by omega) ps.length 0 0 (by omega) (by omega) (by rw [List.drop_zero]; omega)
   rw [List.drop_zero, List.drop_zero] at this
   have e : (rnk (sets ps) bs).map ((0 : Int) + ·) = rnk (sets ps) bs := by cases rnk (sets ps) bs <;> simp
   rw [e] at this
   exact this
  ·rw [show ((bs.length : Int) != (ps.length : Int)) = true by simp; omega]
   have e : rnk (sets ps) bs = none := by
    cases hr : rnk (sets ps) bs with
    | none => rfl
    | some r => exact (c (by have := rnk_len hr; rwa [sets_len] at this)).elim
   rw [e]
   exact jT
end Go.Proofs.Ytkcklnmbeinfkaa.PBS
end
section
namespace Go.Proofs.Ytkcklnmbeinfkaa.PBS
open Go.RowKit Go.Proofs.YtkcklnmbeinfkaaW.PrintWords Go.Proofs.YtkcklnmbeinfkaaW.PrintLast Go.Proofs.YtkcklnmbeinfkaaW.PrintMore Go.Proofs.Ytkcklnmbeinfkaa.B Go.Proofs.LT Go.Proofs.Ytkcklnmbeinfkaa.PB3
set_option linter.unusedVariables false
set_option linter.unusedSimpArgs false
theorem byte_eq {a b : Int} (ha : 0 ≤ a ∧ a ≤ 255) (hb : 0 ≤ b ∧ b ≤ 255) : (UInt8.ofNat a.toNat = UInt8.ofNat b.toNat) ↔ a = b := by
 constructor
 ·intro h
  have := congrArg UInt8.toNat h
  rw [UInt8.toNat_ofNat', UInt8.toNat_ofNat', Nat.mod_eq_of_lt (by omega), Nat.mod_eq_of_lt (by omega)] at this
  omega
 ·intro h; rw [h]
theorem bytes_inj : ∀ (x y : List Int), (∀ a ∈ x, 0 ≤ a ∧ a ≤ 255) → (∀ a ∈ y, 0 ≤ a ∧ a ≤ 255) → (Lib.bytesOf x = Lib.bytesOf y ↔ x = y)
 | [], [], _, _ => ⟨fun _ => rfl, fun _ => rfl⟩
 | [], b :: t, _, _ => ⟨fun h => (by cases h), fun h => (by cases h)⟩
 | a :: s, [], _, _ => ⟨fun h => (by cases h), fun h => (by cases h)⟩
 | a :: s, b :: t, hx, hy => by
  have h1 := hx a List.mem_cons_self
  have h2 := hy b List.mem_cons_self
  have ih := bytes_inj s t (fun z hz => hx z (List.mem_cons_of_mem _ hz)) (fun z hz => hy z (List.mem_cons_of_mem _ hz))
  show (UInt8.ofNat a.toNat :: Lib.bytesOf s = UInt8.ofNat b.toNat :: Lib.bytesOf t) ↔ _
  rw [List.cons.injEq, List.cons.injEq, ih, byte_eq h1 h2]
end Go.Proofs.Ytkcklnmbeinfkaa.PBS
end
section
namespace Go.Proofs.Ytkcklnmbeinfkaa.PBS
open Go.RowKit Go.Proofs.YtkcklnmbeinfkaaW.PrintWords Go.Proofs.YtkcklnmbeinfkaaW.PrintLast Go.Proofs.YtkcklnmbeinfkaaW.PrintMore Go.Proofs.Ytkcklnmbeinfkaa.B Go.Proofs.LT Go.Proofs.Ytkcklnmbeinfkaa.PB3
set_option linter.unusedVariables false
set_option linter.unusedSimpArgs false
noncomputable def cntS (ps : List (List Sp)) (a : Int) : Int := if vShape ps a = true then cnt (sets ps) else 0
noncomputable def okB (ps : List (List Sp)) (a k : Int) : Bool := decide (0 ≤ k ∧ k < cntS ps a)
noncomputable def unS (ps : List (List Sp)) (a k : Int) : List Int := if okB ps a k = true then unr (sets ps) k else []
theorem okB_of {ps : List (List Sp)} {a k : Int} (h : okB ps a k = true) : vShape ps a = true ∧ 0 ≤ k ∧ k < cnt (sets ps) := by
 have h := of_decide_eq_true h
 by_cases hv : vShape ps a = true
 ·have e : cntS ps a = cnt (sets ps) := if_pos hv
  exact ⟨hv, h.1, by omega⟩
 ·have e : cntS ps a = 0 := if_neg hv
  omega
theorem Unrank_is (ps : List (List Sp)) (a k : Int) (hI : In2 ps) : Ev (fun n => shape_Unrank.f n ps a k) (unS ps a k, okB ps a k) := by
 cases h : okB ps a k
 ·have := Unrank_no ps a k hI (of_decide_eq_false h)
  simpa [unS, h] using this
 ·obtain ⟨hv, h0, h1⟩ := okB_of h
  have := Unrank_yes hI hv h0 h1
  simpa [unS, h] using this
end Go.Proofs.Ytkcklnmbeinfkaa.PBS
namespace Go.Proofs.Ytkcklnmbeinfkaa.Pure
open Go.Proofs.Ytkcklnmbeinfkaa.B Go.Proofs.YtkcklnmbeinfkaaW.PrintWords
end Go.Proofs.Ytkcklnmbeinfkaa.Pure
end
section
namespace Go.Proofs.Ytkcklnmbeinfkaa.PBS
open Go.RowKit Go.Proofs.YtkcklnmbeinfkaaW.PrintWords Go.Proofs.YtkcklnmbeinfkaaW.PrintLast Go.Proofs.YtkcklnmbeinfkaaW.PrintMore Go.Proofs.Ytkcklnmbeinfkaa.B Go.Proofs.LT Go.Proofs.Ytkcklnmbeinfkaa.PB3
set_option linter.unusedVariables false
set_option linter.unusedSimpArgs false
def C (p : Sh) : Cs := (sets p.f0, p.f1)
def cs (ss : List Sh) : List Cs := ss.map C
theorem last_C (p : Sh) : lastC (C p) = lastOf p := rfl
theorem vS_facts : ∀ (t pre : List Sh), vS pre t = true → (∀ p ∈ t, vShape p.f0 p.f1 = true) ∧ (∀ q ∈ pre, ∀ p ∈ t, meetsB p q = false) ∧ Apart (cs t)
 | [], _, _ => ⟨fun _ h => (by cases h), fun _ _ _ h => (by cases h), trivial⟩
 | p :: t, pre, h => by
  have h' : (vShape p.f0 p.f1 && (!(pre.any (meetsB p)) && vS (pre ++ [p]) t)) = true := h
  simp only [Bool.and_eq_true, Bool.not_eq_true'] at h'
  obtain ⟨h1, h2, h3⟩ := h'
  obtain ⟨k1, k2, k3⟩ := vS_facts t (pre ++ [p]) h3
  refine ⟨fun q hq => ?_, fun q hq r hr => ?_, fun r hr => ?_, k3⟩
  ·rcases List.mem_cons.1 hq with rfl | hq
   ·exact h1
   ·exact k1 q hq
  ·rcases List.mem_cons.1 hr with rfl | hr
   ·cases e : meetsB r q
    ·rfl
    ·rw [List.any_eq_true.2 ⟨q, hq, e⟩] at h2; cases h2
   ·exact k2 q (List.mem_append_left _ hq) r hr
  ·obtain ⟨q, hq, rfl⟩ := List.mem_map.1 hr
   have e := k2 p (List.mem_append_right _ (List.mem_singleton.2 rfl)) q hq
   simp only [meetsB, Bool.and_eq_false_iff, decide_eq_false_iff_not] at e
   rw [last_C, last_C]
   show lastOf p < q.f1 ∨ lastOf q < p.f1
   omega
theorem vScheme_facts {ss : List Sh} (h : vScheme ss = true) : ss.length ≤ 32 ∧ (∀ p ∈ ss, vShape p.f0 p.f1 = true) ∧ Apart (cs ss) ∧ AllGood (cs ss) := by
 simp only [vScheme, Bool.and_eq_true, decide_eq_true_eq] at h
 obtain ⟨k1, k2, k3⟩ := vS_facts ss [] h.2
 refine ⟨h.1, k1, k3, fun p hp => ?_⟩
 obtain ⟨q, hq, rfl⟩ := List.mem_map.1 hp
 exact (vShape_good (k1 q hq)).2.2.2.1
theorem rdSh_at (ss : List Sh) (i : Nat) (h : i < ss.length) : rd_T50 ss (i : Int) = ss[i] := by simp [rd_T50, List.getD, h]
theorem succ_wrap (i : Nat) (h : i ≤ 4611686018427387904) : Aside0 (wrap64 ((i : Int) + 1) = ((i + 1 : Nat) : Int)) := Aside0.mk (by rw [w64 (by omega) (by omega)]; simp)
theorem okB_hit {ps : List (List Sp)} {a u : Int} (hv : vShape ps a = true) : okB ps a (u - a) = hitC u (sets ps, a) := by
 unfold okB hitC cntS
 rw [if_pos hv, Bool.eq_iff_iff, decide_eq_true_iff, Bool.and_eq_true, decide_eq_true_iff, decide_eq_true_iff]
 show 0 ≤ u - a ∧ _ ↔ a ≤ u ∧ _
 constructor <;> rintro ⟨h1, h2⟩ <;> exact ⟨by omega, h2⟩
theorem encC_cons (p : Cs) (t : List Cs) (u : Int) : encC (p :: t) u = if hitC u p = true then some (unr p.1 (u - p.2)) else encC t u := rfl
theorem cs_drop (ss : List Sh) (i : Nat) (h : i < ss.length) : cs (ss.drop i) = C ss[i] :: cs (ss.drop (i + 1)) := by rw [List.drop_eq_getElem_cons h]; rfl
theorem wf_range {x : Int} (h : (Lit.int .i64 x).wf = true) : -9223372036854775808 ≤ x ∧ x ≤ 9223372036854775807 := by
 simp [Lit.wf] at h
 exact ⟨h.1, h.2⟩
theorem encode_loop (ss : List Sh) (u : Int) (hI : InS ss) (hs : ss.length ≤ 32) (hv : ∀ p ∈ ss, vShape p.f0 p.f1 = true) (hu : (Lit.int .i64 u).wf = true) : ∀ (n i : Nat), i + n = ss.length →
 Ev (fun k => code_encode.l0 k u ss (ss.length : Int) (i : Int)) ((encC (cs (ss.drop i)) u).getD [])
 | 0, i, hi => by
  refine evSucc ?_
  simp only [code_encode.l0, if_neg (show ¬ (i : Int) < (ss.length : Int) by omega)]
  rw [List.drop_of_length_le (by omega)]; exact evNow _
 | n + 1, i, hi => by
  have hil : i < ss.length := by omega
  have hw := succ_wrap i (by omega)
  have hur := wf_range hu
  have vi := hv _ (List.getElem_mem hil)
  have vg := vShape_good vi
  have ih := encode_loop ss u hI hs hv hu n (i + 1) (by omega)
  rw [cs_drop ss i hil, encC_cons]
  refine evSucc ?_
  simp only [code_encode.l0, if_pos (show (i : Int) < (ss.length : Int) by omega), if_pos (show (0 : Int) ≤ (i : Int) by omega), rdSh_at ss i hil, hw.out]
  by_cases c : u < ss[i].f1
  ·simp only [if_pos c, if_neg (show ¬ hitC u (C ss[i]) = true by rw [hitC_iff]; show ¬ (ss[i].f1 ≤ u ∧ _); omega)]
   exact ih
  ·have w1 : Aside0 (wrap64 (u - ss[i].f1) = u - ss[i].f1) := Aside0.mk (w64 (by omega) (by omega))
   simp only [if_neg c, w1.out]
   refine Ev.bind (Unrank_is _ _ _ (hI.2 _ (List.getElem_mem _))) ?_
   have e := okB_hit (u := u) vi
   rw [show (sets ss[i].f0, ss[i].f1) = C ss[i] from rfl] at e
   simp only [unS, e]
   cases h : hitC u (C ss[i])
   ·simp only [Bool.false_eq_true, if_false]; exact ih
   ·have hlen : ¬ (unr (sets ss[i].f0) (u - ss[i].f1)).length = 0 := by rw [unr_len, sets_len]; have := vg.1; omega
    simp only [if_true, if_neg hlen]; exact evNow _
theorem encode_is (ss : List Sh) (u : Int) (hI : InS ss) (h : vScheme ss = true) (hu : (Lit.int .i64 u).wf = true) : Ev (fun k => code_encode.f k ss u) ((encC (cs ss) u).getD []) := by
 obtain ⟨h1, h2, _⟩ := vScheme_facts h
 have := encode_loop ss u hI h1 h2 hu ss.length 0 (by omega)
 rw [List.drop_zero] at this
 exact this
theorem enc_range {ss : List Sh} (h : vScheme ss = true) {u : Int} {x : List Int} (he : encC (cs ss) u = some x) : (0 ≤ u ∧ u ≤ 1073741823) ∧ (∀ b ∈ x, 0 ≤ b ∧ b ≤ 255) ∧ 1 ≤ x.length ∧ x.length ≤ 8 := by
 obtain ⟨h1, h2, _, h4⟩ := vScheme_facts h
 obtain ⟨p, hp, hh, rfl⟩ := encC_mem he
 obtain ⟨q, hq, rfl⟩ := List.mem_map.1 hp
 have vg := vShape_good (h2 q hq)
 have h' := hitC_iff.1 hh
 have e1 : (C q).2 = q.f1 ∧ (C q).1 = sets q.f0 := ⟨rfl, rfl⟩
 rw [e1.1, e1.2] at h'
 rw [e1.1, e1.2]
 refine ⟨by omega, unr_range vg.2.2.2.1 (by omega) h'.2, ?_⟩
 rw [unr_len, sets_len]
 exact vg.1
end Go.Proofs.Ytkcklnmbeinfkaa.PBS
end
section
namespace Go.Proofs.Ytkcklnmbeinfkaa.PBS
open Go.RowKit Go.Proofs.YtkcklnmbeinfkaaW.PrintWords Go.Proofs.YtkcklnmbeinfkaaW.PrintLast Go.Proofs.YtkcklnmbeinfkaaW.PrintMore Go.Proofs.Ytkcklnmbeinfkaa.B Go.Proofs.LT Go.Proofs.Ytkcklnmbeinfkaa.PB3
set_option linter.unusedVariables false
set_option linter.unusedSimpArgs false
def encR : Option (List Int) → List Int × Int
 | some b => (b, 0)
 | none => ([], 100)
noncomputable def encS (ss : List Sh) (u : Int) : List Int × Int := if vScheme ss = true then encR (encC (cs ss) u) else ([], 84)
theorem Encode_is (ss : List Sh) (u : Int) (hI : InS ss) (hu : (Lit.int .i64 u).wf = true) : Ev (fun k => code_Encode.f k ss u) (encS ss u) := by
 simp only [code_Encode.f]
 refine Ev.bind (schemeValid_is ss hI) ?_
 unfold encS
 cases h : vScheme ss
 ·simp only [Bool.false_eq_true, if_false]; exact evNow _
 ·simp only [if_true]
  refine Ev.bind (encode_is ss u hI h hu) ?_
  cases he : encC (cs ss) u with
  | none => simp only [Option.getD_none, List.length_nil, encR]; rw [if_pos (by rfl)]; exact evNow _
  | some b =>
   have := (enc_range h he).2.2
   simp only [Option.getD_some, encR, if_neg (show ¬ (b.length : Int) = 0 by omega)]; exact evNow _
def one1 (lo hi : Int) : List Sp := [⟨lo, hi⟩]
theorem one_valid {lo hi : Int} (h0 : 0 ≤ lo) (h1 : lo ≤ hi) (h2 : hi ≤ 255) : ValidFrom 255 (-2) (runs (one1 lo hi)) := ⟨h0, h1, h2, by show (-2 : Int) < lo - 1; omega, trivial⟩
theorem one_size (lo hi : Int) : size (runs (one1 lo hi)) = hi - lo + 1 := by
 show size [(lo, hi)] = _
 rw [size_cons, size_nil]; omega
theorem one_ok {lo hi : Int} (h0 : 0 ≤ lo) (h1 : lo ≤ hi) (h2 : hi ≤ 255) : okPart (one1 lo hi) = true := by
 simp only [okPart, (validB_iff _ _ _).2 (one_valid h0 h1 h2)]; rfl
theorem one_in (lo hi : Int) : In1 (one1 lo hi) := by show 1 * 16 ≤ 140737488351232; omega
theorem one_memB {lo hi x : Int} (h1 : lo ≤ x) (h2 : x ≤ hi) : memB (runs (one1 lo hi)) x = true := memB_iff.2 ⟨(lo, hi), List.mem_cons_self, h1, h2⟩
theorem one_cd {lo hi x : Int} (h0 : 0 ≤ lo) (h1 : lo ≤ x) (h2 : x ≤ hi) (h3 : hi ≤ 255) : (cd (memB (runs (one1 lo hi))) x.toNat : Int) = x - lo :=
 cd_in_first (r := (lo, hi)) (t := []) (one_valid h0 (by omega) h3) h1 (by show x ≤ hi + 1; omega)
def some10 : List Sh := [⟨[one1 194 223, one1 128 191], 128⟩, ⟨[one1 0 127], 0⟩]
theorem c10a : cnt (sets [one1 194 223, one1 128 191]) = 1920 := by
 show cnt [runs (one1 194 223), runs (one1 128 191)] = 1920
 rw [cnt_cons, cnt_cons, cnt_nil, one_size, one_size]; rfl
theorem c10b : cnt (sets [one1 0 127]) = 128 := by
 show cnt [runs (one1 0 127)] = 128
 rw [cnt_cons, cnt_nil, one_size]; rfl
theorem v10 : vScheme some10 = true := by
 have h1 : vShape [one1 194 223, one1 128 191] 128 = true := by
  unfold vShape
  rw [c10a]
  simp [one_ok (show (0 : Int) ≤ 194 by decide) (show (194 : Int) ≤ 223 by decide) (by decide), one_ok (show (0 : Int) ≤ 128 by decide) (show (128 : Int) ≤ 191 by decide) (by decide)]
 have h2 : vShape [one1 0 127] 0 = true := by
  unfold vShape
  rw [c10b]
  simp [one_ok (show (0 : Int) ≤ 0 by decide) (show (0 : Int) ≤ 127 by decide) (by decide)]
 have h3 : meetsB ⟨[one1 0 127], 0⟩ ⟨[one1 194 223, one1 128 191], 128⟩ = false := by
  simp only [meetsB, lastOf, c10a, c10b]; decide
 show (decide (2 ≤ 32) && (vShape [one1 194 223, one1 128 191] 128 && (!([] : List Sh).any (meetsB _) && (vShape [one1 0 127] 0 && (!([⟨[one1 194 223, one1 128 191], 128⟩] : List Sh).any (meetsB ⟨[one1 0 127], 0⟩) && true))))) = true
 rw [h1, h2]
 simp [h3]
end Go.Proofs.Ytkcklnmbeinfkaa.PBS
end
section
namespace Go.Proofs.Ytkcklnmbeinfkaa.PBS
open Go.RowKit Go.Proofs.YtkcklnmbeinfkaaW.PrintWords Go.Proofs.YtkcklnmbeinfkaaW.PrintLast Go.Proofs.YtkcklnmbeinfkaaW.PrintMore Go.Proofs.Ytkcklnmbeinfkaa.B Go.Proofs.LT Go.Proofs.Ytkcklnmbeinfkaa.PB3
set_option linter.unusedVariables false
set_option linter.unusedSimpArgs false
open Classical in
noncomputable def comO (n : Nat) (p q : List (List Run)) : Option (List Int) := if h : ∃ b, Com n p q b then some (Classical.choose h) else none
theorem comO_of {n : Nat} {p q : List (List Run)} {b : List Int} (h : Com n p q b) : comO n p q = some b := by
 have h' : ∃ b, Com n p q b := ⟨b, h⟩
 unfold comO
 rw [dif_pos h', Com.uniq (Classical.choose_spec h') h]
theorem comO_some {n : Nat} {p q : List (List Run)} {b : List Int} (h : comO n p q = some b) : Com n p q b := by
 unfold comO at h
 split at h
 ·rename_i h'
  obtain rfl := Option.some.inj h
  exact Classical.choose_spec h'
 ·cases h
theorem comO_none {n : Nat} {p q : List (List Run)} (h : comO n p q = none) (b : List Int) : ¬ Com n p q b := fun hb => by rw [comO_of hb] at h; cases h
theorem comO_no {n : Nat} {p q : List (List Run)} (h : ∀ b, ¬ Com n p q b) : comO n p q = none := by
 cases e : comO n p q with
 | none => rfl
 | some b => exact (h b (comO_some e)).elim
theorem comO_zero (p q : List (List Run)) : comO 0 p q = some [] := comO_of (show Com 0 p q [] from rfl)
theorem comO_yes {n : Nat} {s t : List Run} {p q : List (List Run)} {x : Int} (h1 : Mem s x) (h2 : Mem t x) (h3 : ∀ y, Mem s y → Mem t y → x ≤ y) : comO (n + 1) (s :: p) (t :: q) = (comO n p q).map (x :: ·) := by
 cases e : comO n p q with
 | none =>
  refine comO_no fun b hb => ?_
  cases b with
  | nil => exact hb.elim
  | cons y b => exact comO_none e b hb.2.2.2
 | some b => exact comO_of ⟨h1, h2, h3, comO_some e⟩
theorem comO_bar {n : Nat} {s t : List Run} {p q : List (List Run)} (h : ∀ y, Mem s y → ¬ Mem t y) : comO (n + 1) (s :: p) (t :: q) = none :=
 comO_no fun b hb => by
  cases b with
  | nil => exact hb.elim
  | cons y b => exact h y hb.1 hb.2.1
def cmR (out : List Int) : Option (List Int) → List Int × Bool
 | some b => (out ++ b, true)
 | none => ([], false)
theorem cmR_cons (out : List Int) (x : Int) (r : Option (List Int)) : cmR (out ++ [x]) r = cmR out (r.map (x :: ·)) := by
 cases r with
 | none => rfl
 | some b => simp [cmR]
theorem common_loop (ps qs : List (List Sp)) (a c : Int) (hI : In2 ps) (hJ : In2 qs) (hk : ps.all okPart = true) (hk2 : qs.all okPart = true) (m : Nat) (hm : m ≤ ps.length) (hm2 : m ≤ qs.length) (hl : m ≤ 8) : ∀ (n i : Nat) (out : List Int), i + n = m → out.length = i →
 Ev (fun k => shape_Common.l0 k out (m : Int) (i : Int) ps a qs c) (cmR out (comO n (sets (ps.drop i)) (sets (qs.drop i))))
 | 0, i, out, hi, ho => by
  refine evSucc ?_
  simp only [shape_Common.l0, if_neg (show ¬ (i : Int) < (m : Int) by omega)]
  rw [comO_zero]
  simpa [cmR] using evNow (out, true)
 | n + 1, i, out, hi, ho => by
  have hil : i < ps.length := by omega
  have hjl : i < qs.length := by omega
  have hp := okPart_good (good_part hk hil)
  have hq := okPart_good (good_part hk2 hjl)
  obtain ⟨t, t1, t2⟩ := spans_Meet_is ps[i] qs[i] (hI.2 _ (List.getElem_mem _)) (hJ.2 _ (List.getElem_mem _))
  rw [show ps[i].map L113 = runs ps[i] from rfl, show qs[i].map L113 = runs qs[i] from rfl, setL_of hp.1, setL_of hq.1] at t2
  have hw2 : Aside0 (wrap64 ((i : Int) + 1) = ((i + 1 : Nat) : Int)) := Aside0.mk (by rw [w64 (by omega) (by omega)]; simp)
  rw [show sets (ps.drop i) = runs ps[i] :: sets (ps.drop (i + 1)) by rw [List.drop_eq_getElem_cons hil]; rfl, show sets (qs.drop i) = runs qs[i] :: sets (qs.drop (i + 1)) by rw [List.drop_eq_getElem_cons hjl]; rfl]
  refine evSucc ?_
  simp only [shape_Common.l0, if_pos (show (i : Int) < (m : Int) by omega), if_pos (show (0 : Int) ≤ (i : Int) by omega), if_pos (show (i : Int) < ((ps.length : Nat) : Int) by omega), if_pos (show (i : Int) < ((qs.length : Nat) : Int) by omega), rdL_at ps i hil, rdL_at qs i hjl]
  refine Ev.bind t1 ?_
  cases t with
  | nil =>
   simp only [List.length_nil, if_pos (show ((0 : Nat) : Int) = 0 by omega)]
   rw [comO_bar (fun y h1 h2 => Mem.nil ((t2.2.2 y).2 ⟨h1, h2⟩))]
   exact evNow _
  | cons r u =>
   have hr := t2.1
   have hmem : Mem ((r :: u).map L113) r.f0 := ⟨L113 r, List.mem_cons_self, Int.le_refl _, hr.2.1⟩
   have hb := (t2.2.2 r.f0).1 hmem
   have hrg := hr.range hmem
   have hlow : ∀ y, Mem (runs ps[i]) y → Mem (runs qs[i]) y → r.f0 ≤ y := fun y h1 h2 => by
    rcases mem_cons.1 ((t2.2.2 y).2 ⟨h1, h2⟩) with h | h
    ·exact h.1
    ·have h3 : (L113 r).2 + 1 < y := ValidFrom.gt hr.2.2.2.2 h
     have h4 : (L113 r).1 ≤ (L113 r).2 := hr.2.1
     have h5 : (L113 r).1 = r.f0 := rfl
     omega
   have hrd : (rd_T113 (r :: u) 0).f0 = r.f0 := rfl
   have hmod : r.f0 % 256 = r.f0 := Int.emod_eq_of_lt hrg.1 (by omega)
   have ih := common_loop ps qs a c hI hJ hk hk2 m hm hm2 hl n (i + 1) (out ++ [r.f0]) (by omega) (by simp [ho])
   rw [comO_yes hb.1 hb.2 hlow, ← cmR_cons]
   simp only [List.length_cons, if_neg (show ¬ ((u.length + 1 : Nat) : Int) = 0 by omega), if_pos (show (0 : Int) < ((u.length + 1 : Nat) : Int) by omega), if_pos (show out.length < 140737488355328 by omega), hrd, hmod, hw2.out]
   exact ih
open Classical in
noncomputable def cmS (ps : List (List Sp)) (a : Int) (qs : List (List Sp)) (c n : Int) : List Int × Bool :=
 if vShape ps a = true ∧ vShape qs c = true ∧ 0 ≤ n ∧ n ≤ ps.length ∧ n ≤ qs.length then cmR [] (comO n.toNat (sets ps) (sets qs)) else ([], false)
theorem Common_is (ps : List (List Sp)) (a : Int) (qs : List (List Sp)) (c n : Int) (hI : In2 ps) (hJ : In2 qs) : Ev (fun k => shape_Common.f k ps a qs c n) (cmS ps a qs c n) := by
 have jT : Ev (fun k => shape_Common.j0 k n true ps a qs c) ([], false) := by
  refine evSucc ?_
  simp only [shape_Common.j0, if_true]; exact evNow _
 simp only [shape_Common.f]
 refine Ev.bind (shapeValid_is ps a hI) ?_
 cases hv : vShape ps a
 ·simp only [Bool.false_eq_true, if_false, cmS, hv, false_and]; exact jT
 simp only [if_true]
 refine Ev.bind (shapeValid_is qs c hJ) ?_
 cases hv2 : vShape qs c
 ·simp only [Bool.false_eq_true, if_false, cmS, hv2, false_and, and_false]; exact jT
 simp only [if_true, cmS, hv, hv2, true_and, mn_eq]
 by_cases c0 : n < 0
 ·simp only [if_pos c0, if_neg (show ¬ (0 ≤ n ∧ n ≤ (ps.length : Int) ∧ n ≤ (qs.length : Int)) by omega)]; exact jT
 simp only [if_neg c0]
 by_cases c1 : n ≤ ps.length ∧ n ≤ qs.length
 ·obtain ⟨⟨l1, l2⟩, _, hk, hg, hc⟩ := vShape_good hv
  obtain ⟨⟨l3, l4⟩, _, hk2, hg2, hc2⟩ := vShape_good hv2
  rw [decide_eq_false (show ¬ n > min (ps.length : Int) (qs.length : Int) by omega), if_pos ⟨by omega, c1⟩]
  refine evSucc ?_
  simp only [shape_Common.j0, Bool.false_eq_true, if_false]
  obtain ⟨m, rfl⟩ := Int.eq_ofNat_of_zero_le (show 0 ≤ n by omega)
  simpa using common_loop ps qs a c hI hJ hk hk2 m (by omega) (by omega) (by omega) m 0 [] (by omega) rfl
 ·rw [decide_eq_true (show n > min (ps.length : Int) (qs.length : Int) by omega), if_neg (by omega)]
  exact jT
end Go.Proofs.Ytkcklnmbeinfkaa.PBS
end
section
namespace Go.Proofs.Ytkcklnmbeinfkaa.PBS
open Go.RowKit Go.Proofs.YtkcklnmbeinfkaaW.PrintWords Go.Proofs.YtkcklnmbeinfkaaW.PrintLast Go.Proofs.YtkcklnmbeinfkaaW.PrintMore Go.Proofs.Ytkcklnmbeinfkaa.B Go.Proofs.LT Go.Proofs.Ytkcklnmbeinfkaa.PB3
set_option linter.unusedVariables false
set_option linter.unusedSimpArgs false
theorem low_is {p : List Sp} (h : okPart p = true) : 0 < p.length ∧ (rd_T113 p 0).f0 = lowR (runs p) ∧ 0 ≤ lowR (runs p) ∧ lowR (runs p) ≤ 255 := by
 have hs := okPart_good h
 have hr := hs.1.range (lowR_mem hs)
 cases p with
 | nil => have := hs.2; have e : size (runs []) = 0 := size_nil; omega
 | cons r t => exact ⟨by simp, rfl, hr.1, hr.2⟩
theorem first_loop (ps : List (List Sp)) (a : Int) (hI : In2 ps) (hv : vShape ps a = true) (rs : List (List Sp)) (hrs : rs.all okPart = true) (hl : rs.length ≤ 8) (whole : List Int) (kk : Int) (hw : rnk (sets ps) whole = some kk) : ∀ (n i : Nat) (out : List Int), i + n = rs.length → out.length ≤ 16 → out ++ (sets (rs.drop i)).map lowR = whole →
 Ev (fun k => clash_first.l0 k out rs (rs.length : Int) (i : Int) ps a) (a + kk)
 | 0, i, out, hi, ho, he => by
  have vg := vShape_good hv
  rw [List.drop_of_length_le (by omega)] at he
  have e2 : out = whole := by rw [← he]; simp [sets]
  have hr := unr_rnk vg.2.2.2.1 hw
  have hb : ∀ b ∈ whole, 0 ≤ b ∧ b ≤ 255 := by rw [← hr.2.2]; exact unr_range vg.2.2.2.1 hr.1 hr.2.1
  refine evSucc ?_
  simp only [clash_first.l0, if_neg (show ¬ (i : Int) < (rs.length : Int) by omega)]
  rw [e2]
  refine Ev.bind (Rank_is ps a whole hI hb) ?_
  unfold rkS
  rw [if_pos hv, hw]
  simp only [rkR, w64 (show -9223372036854775808 ≤ a + kk by omega) (show a + kk ≤ 9223372036854775807 by omega)]
  exact evNow _
 | n + 1, i, out, hi, ho, he => by
  have hil : i < rs.length := by omega
  have hp := low_is (good_part hrs hil)
  have hsw := succ_wrap i (by omega)
  have hm : (rd_T113 rs[i] 0).f0 % 256 = lowR (runs rs[i]) := by rw [hp.2.1]; exact Int.emod_eq_of_lt hp.2.2.1 (by omega)
  have hout : out.length ≤ 15 ∨ out.length = 16 := by omega
  refine evSucc ?_
  simp only [clash_first.l0, if_pos (show (i : Int) < (rs.length : Int) by omega), if_pos (show (0 : Int) ≤ (i : Int) by omega), rdL_at rs i hil, if_pos (show (0 : Int) < ((rs[i]).length : Int) by omega), if_pos (show out.length < 140737488355328 by omega), hsw.out, hm]
  have hlen : (out ++ (sets (rs.drop i)).map lowR).length = ps.length := by
   rw [he]; have := rnk_len hw; rwa [sets_len] at this
  have h8 := (vShape_good hv).1.2
  refine first_loop ps a hI hv rs hrs hl whole kk hw n (i + 1) _ (by omega) ?_ ?_
  ·simp [sets] at hlen ⊢; omega
  ·rw [← he, List.append_assoc, List.drop_eq_getElem_cons hil]; rfl
theorem first_is {ps : List (List Sp)} {a : Int} (hI : In2 ps) (hv : vShape ps a = true) {b : List Int} (hb : b.length ≤ ps.length) (hm : ∀ (i : Nat) (s : List Run) (x : Int), (sets ps)[i]? = some s → b[i]? = some x → Mem s x) :
 ∃ kk, rnk (sets ps) (b ++ ((sets ps).drop b.length).map lowR) = some kk ∧ Ev (fun k => clash_first.f k ps a b) (a + kk) := by
 have vg := vShape_good hv
 obtain ⟨kk, hk⟩ := rnk_whole vg.2.2.2.1 (by rw [sets_len]; exact hb) hm
 refine ⟨kk, hk, ?_⟩
 have h8 := vg.1.2
 simp only [clash_first.f, Option.bind_some, List.length_nil, Nat.zero_add, List.nil_append, if_pos (show b.length < 140737488355328 by omega), if_pos (show (0 : Int) ≤ (b.length : Int) by omega), if_pos (show (b.length : Int) ≤ (ps.length : Int) by omega), Int.toNat_natCast]
 refine first_loop ps a hI hv (ps.drop b.length) (List.all_eq_true.2 fun x hx => List.all_eq_true.1 vg.2.2.1 x (List.mem_of_mem_drop hx)) (by rw [List.length_drop]; omega) _ kk hk (ps.drop b.length).length 0 b (by omega) (by omega) ?_
 rw [List.drop_zero, ← sets_drop]
theorem common_self {ps qs : List (List Sp)} {a c : Int} (hv : vShape ps a = true) (hv2 : vShape qs c = true) : cmS ps a qs c (ps.length : Int) = cmR [] (comO ps.length (sets ps) (sets qs)) := by
 unfold cmS
 by_cases h : ps.length ≤ qs.length
 ·rw [if_pos ⟨hv, hv2, by omega, by omega, by omega⟩, Int.toNat_natCast]
 ·rw [if_neg (fun h' => h (by have := h'.2.2.2.2; omega))]
  cases e : comO ps.length (sets ps) (sets qs) with
  | none => rfl
  | some b => have := (comO_some e).both.2; rw [sets_len] at this; exact (h this).elim
def ComIJ (ss : List Sh) (i j : Nat) (b : List Int) : Prop := Com (rd_T50 ss (i : Int)).f0.length (sets (rd_T50 ss (i : Int)).f0) (sets (rd_T50 ss (j : Int)).f0) b
def Shows (ss : List Sh) (i j : Nat) (U V : Int) : Prop := ∃ (b : List Int) (kk kk' : Int), ComIJ ss i j b ∧ rnk (sets (rd_T50 ss (i : Int)).f0) (b ++ ((sets (rd_T50 ss (i : Int)).f0).drop b.length).map lowR) = some kk ∧ rnk (sets (rd_T50 ss (j : Int)).f0) (b ++ ((sets (rd_T50 ss (j : Int)).f0).drop b.length).map lowR) = some kk' ∧ U = (rd_T50 ss (i : Int)).f1 + kk ∧ V = (rd_T50 ss (j : Int)).f1 + kk'
def askP (ss : List Sh) (i j : Nat) : Bool := decide (((rd_T50 ss (i : Int)).f0.length : Int) < ((rd_T50 ss (j : Int)).f0.length : Int))
def askI (ss : List Sh) (i j : Nat) : Bool := decide ((i : Int) < (j : Int)) && decide (((rd_T50 ss (i : Int)).f0.length : Int) = ((rd_T50 ss (j : Int)).f0.length : Int))
def SpecRP (ss : List Sh) (r : Bool × Int × Int × Int) : Prop := (r = (true, 0, 0, 0) ∧ ∀ i j, i < ss.length → j < ss.length → askP ss i j = true → ∀ b, ¬ ComIJ ss i j b) ∨ ∃ i j U V, i < ss.length ∧ j < ss.length ∧ askP ss i j = true ∧ Shows ss i j U V ∧ r = (false, U, V, 0)
theorem searchP_row (ss : List Sh) (hI : InS ss) (hs : ss.length ≤ 32) (hv : ∀ p ∈ ss, vShape p.f0 p.f1 = true) (i : Nat) (hi : i < ss.length) (hno : ∀ i' j, i' < i → j < ss.length → askP ss i' j = true → ∀ b, ¬ ComIJ ss i' j b)
 (next : (∀ i' j, i' < i + 1 → j < ss.length → askP ss i' j = true → ∀ b, ¬ ComIJ ss i' j b) → ∃ r, Ev (fun k => clash_search.l0 k ss (ss.length : Int) ((i + 1 : Nat) : Int) ss true 0 0) r ∧ SpecRP ss r) : ∀ (n j : Nat), j + n = ss.length → (∀ j', j' < j → askP ss i j' = true → ∀ b, ¬ ComIJ ss i j' b) →
 ∃ r, Ev (fun k => clash_search.l1 k (i : Int) ss (ss.length : Int) (i : Int) ss (ss.length : Int) (j : Int) ss true 0 0 (rd_T50 ss (i : Int)).f0 (rd_T50 ss (i : Int)).f1) r ∧ SpecRP ss r
 | 0, j, hj, hnj => by
  obtain ⟨r, r1, r2⟩ := next fun i' j' h1 h2 => by
   rcases (by omega : i' < i ∨ i' = i) with h | rfl
   ·exact hno i' j' h h2
   ·exact hnj j' (by omega)
  refine ⟨r, evSucc ?_, r2⟩
  have hw := succ_wrap i (by omega)
  simp only [clash_search.l1, if_neg (show ¬ (j : Int) < (ss.length : Int) by omega), hw.out]
  exact r1
 | n + 1, j, hj, hnj => by
  have hjl : j < ss.length := by omega
  have hw := succ_wrap j (by omega)
  have vi := hv _ (List.getElem_mem hi)
  have vj := hv _ (List.getElem_mem hjl)
  have hii := rdSh_at ss i hi
  have hjj := rdSh_at ss j hjl
  have go := searchP_row ss hI hs hv i hi hno next n (j + 1) (by omega)
  have hask : asked_P.f ss (i : Int) (j : Int) = some (askP ss i j) := by
   unfold asked_P.f
   rw [if_pos ⟨by omega, by omega, by omega, by omega⟩]; rfl
  have step : ∀ r, (askP ss i j = false → Ev (fun k => clash_search.l1 k (i : Int) ss (ss.length : Int) (i : Int) ss (ss.length : Int) (wrap64 ((j : Int) + 1)) ss true 0 0 (rd_T50 ss (i : Int)).f0 (rd_T50 ss (i : Int)).f1) r) → (askP ss i j = true → Ev (fun k => (shape_Common.f k (rd_T50 ss (i : Int)).f0 (rd_T50 ss (i : Int)).f1 ((rd_T50 ss (j : Int)).f0) ((rd_T50 ss (j : Int)).f1) ((rd_T50 ss (i : Int)).f0.length : Int)).bind fun bt411 => (if bt411.2 = true then ((clash_first.f k (rd_T50 ss (i : Int)).f0 (rd_T50 ss (i : Int)).f1 bt411.1).bind fun t415 => ((clash_first.f k ((rd_T50 ss (j : Int)).f0) ((rd_T50 ss (j : Int)).f1) bt411.1).bind fun t416 => (some (false, t415, t416, 0)))) else (clash_search.l1 k (i : Int) ss (ss.length : Int) (i : Int) ss (ss.length : Int) (wrap64 ((j : Int) + 1)) ss true 0 0 (rd_T50 ss (i : Int)).f0 (rd_T50 ss (i : Int)).f1))) r) →
   Ev (fun k => clash_search.l1 k (i : Int) ss (ss.length : Int) (i : Int) ss (ss.length : Int) (j : Int) ss true 0 0 (rd_T50 ss (i : Int)).f0 (rd_T50 ss (i : Int)).f1) r := fun r h1 h2 => by
   refine evSucc ?_
   simp only [clash_search.l1, if_pos (show (j : Int) < (ss.length : Int) by omega), if_pos (show (0 : Int) ≤ (j : Int) by omega), hask, Option.bind_some]
   cases ha : askP ss i j
   ·simp only [Bool.false_eq_true, if_false]; exact h1 ha
   ·simp only [if_true]; exact h2 ha
  cases ha : askP ss i j
  ·obtain ⟨r, r1, r2⟩ := go fun j' h => by
    rcases (by omega : j' < j ∨ j' = j) with h' | rfl
    ·exact hnj j' h'
    ·intro h3; rw [ha] at h3; cases h3
   exact ⟨r, step r (fun _ => by rw [hw.out]; exact r1) (fun h => by rw [ha] at h; cases h), r2⟩
  ·have hC := Common_is ss[i].f0 ss[i].f1 ss[j].f0 ss[j].f1 (ss[i].f0.length : Int) (hI.2 _ (List.getElem_mem _)) (hI.2 _ (List.getElem_mem _))
   rw [common_self vi vj] at hC
   cases hc : comO ss[i].f0.length (sets ss[i].f0) (sets ss[j].f0) with
   | none =>
    obtain ⟨r, r1, r2⟩ := go fun j' h => by
     rcases (by omega : j' < j ∨ j' = j) with h' | rfl
     ·exact hnj j' h'
     ·intro _ b hb
      unfold ComIJ at hb
      rw [hii, hjj] at hb
      exact comO_none hc b hb
    refine ⟨r, step r (fun h => by rw [ha] at h; cases h) (fun _ => ?_), r2⟩
    rw [hii, hjj]
    refine Ev.bind hC ?_
    rw [hc]
    simp only [cmR, Bool.false_eq_true, if_false]
    rw [hii] at r1
    rw [hw.out]; exact r1
   | some b =>
    have hb := comO_some hc
    have hl := hb.len
    have hbo := hb.both
    rw [sets_len, sets_len] at hbo
    obtain ⟨kk, k1, k2⟩ := first_is (hI.2 _ (List.getElem_mem hi)) vi (b := b) (by omega) hb.left
    obtain ⟨kk', l1, l2⟩ := first_is (hI.2 _ (List.getElem_mem hjl)) vj (b := b) (by omega) hb.symm.left
    refine ⟨(false, ss[i].f1 + kk, ss[j].f1 + kk', 0), step _ (fun h => by rw [ha] at h; cases h) (fun _ => ?_), .inr ⟨i, j, _, _, hi, hjl, ha, ⟨b, kk, kk', ?_⟩, rfl⟩⟩
    ·rw [hii, hjj]
     refine Ev.bind hC ?_
     rw [hc]
     simp only [cmR, if_true, List.nil_append]
     exact Ev.bind k2 (Ev.bind l2 (evNow _))
    ·unfold ComIJ
     rw [hii, hjj]
     exact ⟨hb, k1, l1, rfl, rfl⟩
theorem searchP_loop (ss : List Sh) (hI : InS ss) (hs : ss.length ≤ 32) (hv : ∀ p ∈ ss, vShape p.f0 p.f1 = true) : ∀ (n i : Nat), i + n = ss.length → (∀ i' j, i' < i → j < ss.length → askP ss i' j = true → ∀ b, ¬ ComIJ ss i' j b) →
 ∃ r, Ev (fun k => clash_search.l0 k ss (ss.length : Int) (i : Int) ss true 0 0) r ∧ SpecRP ss r
 | 0, i, hi, hno => by
  refine ⟨(true, 0, 0, 0), evSucc ?_, .inl ⟨rfl, fun i' j h => hno i' j (by omega)⟩⟩
  simp only [clash_search.l0, if_neg (show ¬ (i : Int) < (ss.length : Int) by omega)]; exact evNow _
 | n + 1, i, hi, hno => by
  have hil : i < ss.length := by omega
  obtain ⟨r, r1, r2⟩ := searchP_row ss hI hs hv i hil hno (searchP_loop ss hI hs hv n (i + 1) (by omega)) ss.length 0 (by omega) (fun j h => by omega)
  refine ⟨r, evSucc ?_, r2⟩
  simp only [clash_search.l0, if_pos (show (i : Int) < (ss.length : Int) by omega), if_pos (show (0 : Int) ≤ (i : Int) by omega)]
  exact r1
theorem clash_Prefix_is (ss : List Sh) (hI : InS ss) : ∃ r, Ev (fun k => clash_Prefix.f k ss) r ∧ ((vScheme ss = false ∧ r = (false, 0, 0, 84)) ∨ (vScheme ss = true ∧ SpecRP ss r)) := by
 cases h : vScheme ss
 ·refine ⟨(false, 0, 0, 84), ?_, .inl ⟨rfl, rfl⟩⟩
  simp only [clash_Prefix.f, clash_search.f]
  refine Ev.bind (a := ((false, 0, 0, 84) : Bool × Int × Int × Int)) (Ev.bind (schemeValid_is ss hI) ?_) (evNow _)
  simp only [h, Bool.false_eq_true, if_false]; exact evNow _
 ·obtain ⟨h1, h2, _⟩ := vScheme_facts h
  obtain ⟨r, r1, r2⟩ := searchP_loop ss hI h1 h2 ss.length 0 (by omega) (fun i' j h => by omega)
  refine ⟨r, ?_, .inr ⟨rfl, r2⟩⟩
  simp only [clash_Prefix.f, clash_search.f]
  refine Ev.bind (Ev.bind (schemeValid_is ss hI) ?_) (evNow _)
  simp only [h, if_true]; exact r1
def SpecRI (ss : List Sh) (r : Bool × Int × Int × Int) : Prop := (r = (true, 0, 0, 0) ∧ ∀ i j, i < ss.length → j < ss.length → askI ss i j = true → ∀ b, ¬ ComIJ ss i j b) ∨ ∃ i j U V, i < ss.length ∧ j < ss.length ∧ askI ss i j = true ∧ Shows ss i j U V ∧ r = (false, U, V, 0)
theorem searchI_row (ss : List Sh) (hI : InS ss) (hs : ss.length ≤ 32) (hv : ∀ p ∈ ss, vShape p.f0 p.f1 = true) (i : Nat) (hi : i < ss.length) (hno : ∀ i' j, i' < i → j < ss.length → askI ss i' j = true → ∀ b, ¬ ComIJ ss i' j b)
 (next : (∀ i' j, i' < i + 1 → j < ss.length → askI ss i' j = true → ∀ b, ¬ ComIJ ss i' j b) → ∃ r, Ev (fun k => clash_searchI.l0 k ss (ss.length : Int) ((i + 1 : Nat) : Int) ss true 0 0) r ∧ SpecRI ss r) : ∀ (n j : Nat), j + n = ss.length → (∀ j', j' < j → askI ss i j' = true → ∀ b, ¬ ComIJ ss i j' b) →
 ∃ r, Ev (fun k => clash_searchI.l1 k (i : Int) ss (ss.length : Int) (i : Int) ss (ss.length : Int) (j : Int) ss true 0 0 (rd_T50 ss (i : Int)).f0 (rd_T50 ss (i : Int)).f1) r ∧ SpecRI ss r
 | 0, j, hj, hnj => by
  obtain ⟨r, r1, r2⟩ := next fun i' j' h1 h2 => by
   rcases (by omega : i' < i ∨ i' = i) with h | rfl
   ·exact hno i' j' h h2
   ·exact hnj j' (by omega)
  refine ⟨r, evSucc ?_, r2⟩
  have hw := succ_wrap i (by omega)
  simp only [clash_searchI.l1, if_neg (show ¬ (j : Int) < (ss.length : Int) by omega), hw.out]
  exact r1
 | n + 1, j, hj, hnj => by
  have hjl : j < ss.length := by omega
  have hw := succ_wrap j (by omega)
  have vi := hv _ (List.getElem_mem hi)
  have vj := hv _ (List.getElem_mem hjl)
  have hii := rdSh_at ss i hi
  have hjj := rdSh_at ss j hjl
  have go := searchI_row ss hI hs hv i hi hno next n (j + 1) (by omega)
  have hask : asked_I.f ss (i : Int) (j : Int) = some (askI ss i j) := by
   unfold asked_I.f
   rw [if_pos ⟨by omega, by omega, by omega, by omega⟩]; rfl
  have step : ∀ r, (askI ss i j = false → Ev (fun k => clash_searchI.l1 k (i : Int) ss (ss.length : Int) (i : Int) ss (ss.length : Int) (wrap64 ((j : Int) + 1)) ss true 0 0 (rd_T50 ss (i : Int)).f0 (rd_T50 ss (i : Int)).f1) r) → (askI ss i j = true → Ev (fun k => (shape_Common.f k (rd_T50 ss (i : Int)).f0 (rd_T50 ss (i : Int)).f1 ((rd_T50 ss (j : Int)).f0) ((rd_T50 ss (j : Int)).f1) ((rd_T50 ss (i : Int)).f0.length : Int)).bind fun bt411 => (if bt411.2 = true then ((clash_first.f k (rd_T50 ss (i : Int)).f0 (rd_T50 ss (i : Int)).f1 bt411.1).bind fun t415 => ((clash_first.f k ((rd_T50 ss (j : Int)).f0) ((rd_T50 ss (j : Int)).f1) bt411.1).bind fun t416 => (some (false, t415, t416, 0)))) else (clash_searchI.l1 k (i : Int) ss (ss.length : Int) (i : Int) ss (ss.length : Int) (wrap64 ((j : Int) + 1)) ss true 0 0 (rd_T50 ss (i : Int)).f0 (rd_T50 ss (i : Int)).f1))) r) →
   Ev (fun k => clash_searchI.l1 k (i : Int) ss (ss.length : Int) (i : Int) ss (ss.length : Int) (j : Int) ss true 0 0 (rd_T50 ss (i : Int)).f0 (rd_T50 ss (i : Int)).f1) r := fun r h1 h2 => by
   refine evSucc ?_
   simp only [clash_searchI.l1, if_pos (show (j : Int) < (ss.length : Int) by omega), if_pos (show (0 : Int) ≤ (j : Int) by omega), hask, Option.bind_some]
   cases ha : askI ss i j
   ·simp only [Bool.false_eq_true, if_false]; exact h1 ha
   ·simp only [if_true]; exact h2 ha
  cases ha : askI ss i j
  ·obtain ⟨r, r1, r2⟩ := go fun j' h => by
    rcases (by omega : j' < j ∨ j' = j) with h' | rfl
    ·exact hnj j' h'
    ·intro h3; rw [ha] at h3; cases h3
   exact ⟨r, step r (fun _ => by rw [hw.out]; exact r1) (fun h => by rw [ha] at h; cases h), r2⟩
  ·have hC := Common_is ss[i].f0 ss[i].f1 ss[j].f0 ss[j].f1 (ss[i].f0.length : Int) (hI.2 _ (List.getElem_mem _)) (hI.2 _ (List.getElem_mem _))
   rw [common_self vi vj] at hC
   cases hc : comO ss[i].f0.length (sets ss[i].f0) (sets ss[j].f0) with
   | none =>
    obtain ⟨r, r1, r2⟩ := go fun j' h => by
     rcases (by omega : j' < j ∨ j' = j) with h' | rfl
     ·exact hnj j' h'
     ·intro _ b hb
      unfold ComIJ at hb
      rw [hii, hjj] at hb
      exact comO_none hc b hb
    refine ⟨r, step r (fun h => by rw [ha] at h; cases h) (fun _ => ?_), r2⟩
    rw [hii, hjj]
    refine Ev.bind hC ?_
    rw [hc]
    simp only [cmR, Bool.false_eq_true, if_false]
    rw [hii] at r1
    rw [hw.out]; exact r1
   | some b =>
    have hb := comO_some hc
    have hl := hb.len
    have hbo := hb.both
    rw [sets_len, sets_len] at hbo
    obtain ⟨kk, k1, k2⟩ := first_is (hI.2 _ (List.getElem_mem hi)) vi (b := b) (by omega) hb.left
    obtain ⟨kk', l1, l2⟩ := first_is (hI.2 _ (List.getElem_mem hjl)) vj (b := b) (by omega) hb.symm.left
    refine ⟨(false, ss[i].f1 + kk, ss[j].f1 + kk', 0), step _ (fun h => by rw [ha] at h; cases h) (fun _ => ?_), .inr ⟨i, j, _, _, hi, hjl, ha, ⟨b, kk, kk', ?_⟩, rfl⟩⟩
    ·rw [hii, hjj]
     refine Ev.bind hC ?_
     rw [hc]
     simp only [cmR, if_true, List.nil_append]
     exact Ev.bind k2 (Ev.bind l2 (evNow _))
    ·unfold ComIJ
     rw [hii, hjj]
     exact ⟨hb, k1, l1, rfl, rfl⟩
theorem searchI_loop (ss : List Sh) (hI : InS ss) (hs : ss.length ≤ 32) (hv : ∀ p ∈ ss, vShape p.f0 p.f1 = true) : ∀ (n i : Nat), i + n = ss.length → (∀ i' j, i' < i → j < ss.length → askI ss i' j = true → ∀ b, ¬ ComIJ ss i' j b) →
 ∃ r, Ev (fun k => clash_searchI.l0 k ss (ss.length : Int) (i : Int) ss true 0 0) r ∧ SpecRI ss r
 | 0, i, hi, hno => by
  refine ⟨(true, 0, 0, 0), evSucc ?_, .inl ⟨rfl, fun i' j h => hno i' j (by omega)⟩⟩
  simp only [clash_searchI.l0, if_neg (show ¬ (i : Int) < (ss.length : Int) by omega)]; exact evNow _
 | n + 1, i, hi, hno => by
  have hil : i < ss.length := by omega
  obtain ⟨r, r1, r2⟩ := searchI_row ss hI hs hv i hil hno (searchI_loop ss hI hs hv n (i + 1) (by omega)) ss.length 0 (by omega) (fun j h => by omega)
  refine ⟨r, evSucc ?_, r2⟩
  simp only [clash_searchI.l0, if_pos (show (i : Int) < (ss.length : Int) by omega), if_pos (show (0 : Int) ≤ (i : Int) by omega)]
  exact r1
theorem clash_Inject_is (ss : List Sh) (hI : InS ss) : ∃ r, Ev (fun k => clash_Inject.f k ss) r ∧ ((vScheme ss = false ∧ r = (false, 0, 0, 84)) ∨ (vScheme ss = true ∧ SpecRI ss r)) := by
 cases h : vScheme ss
 ·refine ⟨(false, 0, 0, 84), ?_, .inl ⟨rfl, rfl⟩⟩
  simp only [clash_Inject.f, clash_searchI.f]
  refine Ev.bind (a := ((false, 0, 0, 84) : Bool × Int × Int × Int)) (Ev.bind (schemeValid_is ss hI) ?_) (evNow _)
  simp only [h, Bool.false_eq_true, if_false]; exact evNow _
 ·obtain ⟨h1, h2, _⟩ := vScheme_facts h
  obtain ⟨r, r1, r2⟩ := searchI_loop ss hI h1 h2 ss.length 0 (by omega) (fun i' j h => by omega)
  refine ⟨r, ?_, .inr ⟨rfl, r2⟩⟩
  simp only [clash_Inject.f, clash_searchI.f]
  refine Ev.bind (Ev.bind (schemeValid_is ss hI) ?_) (evNow _)
  simp only [h, if_true]; exact r1
end Go.Proofs.Ytkcklnmbeinfkaa.PBS
end
section
namespace Go.Proofs.Ytkcklnmbeinfkaa.PBS
open Go.RowKit Go.Proofs.YtkcklnmbeinfkaaW.PrintWords Go.Proofs.YtkcklnmbeinfkaaW.PrintLast Go.Proofs.YtkcklnmbeinfkaaW.PrintMore Go.Proofs.Ytkcklnmbeinfkaa.B Go.Proofs.LT Go.Proofs.Ytkcklnmbeinfkaa.PB3
set_option linter.unusedVariables false
set_option linter.unusedSimpArgs false
def ComPQ (p q : Sh) (b : List Int) : Prop := Com p.f0.length (sets p.f0) (sets q.f0) b
def noP (ss : List Sh) : Prop := ∀ p ∈ ss, ∀ q ∈ ss, p.f0.length < q.f0.length → ∀ b, ¬ ComPQ p q b
def noI (ss : List Sh) : Prop := ss.Pairwise fun p q => p.f0.length = q.f0.length → ∀ b, ¬ ComPQ p q b
theorem comIJ_at {ss : List Sh} {i j : Nat} (hi : i < ss.length) (hj : j < ss.length) {b : List Int} : ComIJ ss i j b ↔ ComPQ ss[i] ss[j] b := by
 unfold ComIJ ComPQ
 rw [rdSh_at ss i hi, rdSh_at ss j hj]
theorem askP_at {ss : List Sh} {i j : Nat} (hi : i < ss.length) (hj : j < ss.length) : askP ss i j = true ↔ ss[i].f0.length < ss[j].f0.length := by
 unfold askP
 rw [rdSh_at ss i hi, rdSh_at ss j hj, decide_eq_true_iff]; omega
theorem askI_at {ss : List Sh} {i j : Nat} (hi : i < ss.length) (hj : j < ss.length) : askI ss i j = true ↔ i < j ∧ ss[i].f0.length = ss[j].f0.length := by
 unfold askI
 rw [rdSh_at ss i hi, rdSh_at ss j hj, Bool.and_eq_true, decide_eq_true_iff, decide_eq_true_iff]; omega
theorem noP_iff (ss : List Sh) : (∀ i j, i < ss.length → j < ss.length → askP ss i j = true → ∀ b, ¬ ComIJ ss i j b) ↔ noP ss := by
 constructor
 ·intro h p hp q hq hl b hb
  obtain ⟨i, hi, rfl⟩ := List.getElem_of_mem hp
  obtain ⟨j, hj, rfl⟩ := List.getElem_of_mem hq
  exact h i j hi hj ((askP_at hi hj).2 hl) b ((comIJ_at hi hj).2 hb)
 ·intro h i j hi hj ha b hb
  exact h _ (List.getElem_mem hi) _ (List.getElem_mem hj) ((askP_at hi hj).1 ha) b ((comIJ_at hi hj).1 hb)
theorem noI_iff (ss : List Sh) : (∀ i j, i < ss.length → j < ss.length → askI ss i j = true → ∀ b, ¬ ComIJ ss i j b) ↔ noI ss := by
 unfold noI
 rw [List.pairwise_iff_getElem]
 constructor
 ·intro h i j hi hj hij hl b hb
  exact h i j hi hj ((askI_at hi hj).2 ⟨hij, hl⟩) b ((comIJ_at hi hj).2 hb)
 ·intro h i j hi hj ha b hb
  have := (askI_at hi hj).1 ha
  exact h i j hi hj this.1 this.2 b ((comIJ_at hi hj).1 hb)
theorem shows_com {ss : List Sh} {i j : Nat} {U V : Int} (h : Shows ss i j U V) : ∃ b, ComIJ ss i j b := by obtain ⟨b, kk, kk', h, _⟩ := h; exact ⟨b, h⟩
theorem specP_yes {ss : List Sh} {r : Bool × Int × Int × Int} (h : SpecRP ss r) : (noP ss ∧ r = (true, 0, 0, 0)) ∨ (¬ noP ss ∧ ∃ i j U V, i < ss.length ∧ j < ss.length ∧ askP ss i j = true ∧ Shows ss i j U V ∧ r = (false, U, V, 0)) := by
 rcases h with ⟨h1, h2⟩ | ⟨i, j, U, V, hi, hj, ha, hs, hr⟩
 ·exact .inl ⟨(noP_iff ss).1 h2, h1⟩
 ·refine .inr ⟨fun hn => ?_, i, j, U, V, hi, hj, ha, hs, hr⟩
  obtain ⟨b, hb⟩ := shows_com hs
  exact (noP_iff ss).2 hn i j hi hj ha b hb
theorem specI_yes {ss : List Sh} {r : Bool × Int × Int × Int} (h : SpecRI ss r) : (noI ss ∧ r = (true, 0, 0, 0)) ∨ (¬ noI ss ∧ ∃ i j U V, i < ss.length ∧ j < ss.length ∧ askI ss i j = true ∧ Shows ss i j U V ∧ r = (false, U, V, 0)) := by
 rcases h with ⟨h1, h2⟩ | ⟨i, j, U, V, hi, hj, ha, hs, hr⟩
 ·exact .inl ⟨(noI_iff ss).1 h2, h1⟩
 ·refine .inr ⟨fun hn => ?_, i, j, U, V, hi, hj, ha, hs, hr⟩
  obtain ⟨b, hb⟩ := shows_com hs
  exact (noI_iff ss).2 hn i j hi hj ha b hb
theorem least {P : Int → Prop} (h0 : ∀ x, P x → 0 ≤ x) : ∀ (n : Nat) (x : Int), x.toNat ≤ n → P x → ∃ m, P m ∧ ∀ y, P y → m ≤ y
 | 0, x, hx, hp => ⟨x, hp, fun y hy => by have := h0 x hp; have := h0 y hy; omega⟩
 | n + 1, x, hx, hp => by
  by_cases h : ∃ y, P y ∧ y < x
  ·obtain ⟨y, hy, hlt⟩ := h
   have := h0 y hy
   exact least h0 n y (by omega) hy
  ·exact ⟨x, hp, fun y hy => by
    rcases (by omega : y < x ∨ x ≤ y) with h' | h'
    ·exact (h ⟨y, hy, h'⟩).elim
    ·exact h'⟩
theorem com_of_meet : ∀ {n : Nat} {p q : List (List Run)}, GoodP p → MeetN n p q → ∃ b, Com n p q b
 | 0, _, _, _, _ => ⟨[], rfl⟩
 | n + 1, s :: p, t :: q, hg, h => by
  obtain ⟨⟨x, hx1, hx2⟩, h2⟩ := h
  obtain ⟨m, hm, hl⟩ := least (P := fun y => Mem s y ∧ Mem t y) (fun y hy => (hg.head.1.range hy.1).1) x.toNat x (Nat.le_refl _) ⟨hx1, hx2⟩
  obtain ⟨b, hb⟩ := com_of_meet hg.tail h2
  exact ⟨m :: b, hm.1, hm.2, fun y a c => hl y ⟨a, c⟩, hb⟩
 | n + 1, [], _, _, h => h.elim
 | n + 1, _ :: _, [], _, h => h.elim
theorem nums_size (x : List Int) : (strOfNums x).size = x.length := by
 show (x.map _).toArray.size = _
 simp
theorem hasPrefix_is (y x : List Int) (hy : ∀ b ∈ y, 0 ≤ b ∧ b ≤ 255) (hx : ∀ b ∈ x, 0 ≤ b ∧ b ≤ 255) : strings_HasPrefix.f (strOfNums y) (strOfNums x) = some (decide (x.length ≤ y.length ∧ y.take x.length = x)) := by
 have e0 : stringslite_HasPrefix.f (strOfNums y) (strOfNums x) = some (decide (x.length ≤ y.length ∧ y.take x.length = x)) := by
  simp only [stringslite_HasPrefix.f, nums_size]
  by_cases c : x.length ≤ y.length
  ·rw [if_pos (show (y.length : Int) ≥ (x.length : Int) by omega), if_pos (show (0 : Int) ≤ (x.length : Int) by omega), if_pos (show (x.length : Int) ≤ (y.length : Int) by omega)]
   congr 1
   have e1 : ((strOfNums y).extract 0 ((x.length : Int)).toNat).toList = Lib.bytesOf (y.take x.length) := by
    rw [ByteArray.toList_eq, Int.toNat_natCast]
    simp [strOfNums, Lib.bytesOf, ByteArray.data_extract, List.extract_eq_take_drop, List.map_take]
   rw [e1, Lib.strOfNums_toList]
   have hb := bytes_inj (y.take x.length) x (fun a ha => hy a (List.mem_of_mem_take ha)) hx
   rw [Bool.eq_iff_iff, beq_iff_eq, decide_eq_true_iff, hb]
   exact ⟨fun h => ⟨c, h⟩, fun h => h.2⟩
  ·rw [if_neg (show ¬ (y.length : Int) ≥ (x.length : Int) by omega), decide_eq_false (fun h => c h.1)]
 simp only [strings_HasPrefix.f, e0, Option.bind_some]
theorem shapeOf2 (a lo hi : Int) : Ev (fun k => leadtraillaw11_shapeOf.f k a [lo, hi]) ([one1 lo hi], a) := by
 simp only [leadtraillaw11_shapeOf.f]
 refine evSucc ?_
 have w1 : wrap64 ((0 : Int) + 1) = 1 := w64 (by omega) (by omega)
 have w2 : wrap64 ((0 : Int) + 2) = 2 := w64 (by omega) (by omega)
 have w3 : wrap64 ((2 : Int) + 1) = 3 := w64 (by omega) (by omega)
 have l2 : (([lo, hi] : List Int).length : Int) = 2 := rfl
 simp only [leadtraillaw11_shapeOf.l0, w1, w2, l2]
 rw [show (fun k => (if (1 : Int) < 2 then (if (0 : Int) ≤ 0 then (if (0 : Int) < 2 then (if (0 : Int) ≤ 1 then (if ([] : List (List Sp)).length < 5864062014805 then (leadtraillaw11_shapeOf.l0 k [lo, hi] 2 ([] ++ [[(⟨rd [lo, hi] 0, rd [lo, hi] 1⟩ : Sp)]]) a) else (none)) else (none)) else (none)) else (none)) else (some ([], a)))) = (fun k => leadtraillaw11_shapeOf.l0 k [lo, hi] 2 [one1 lo hi] a) from rfl]
 refine evSucc ?_
 simp only [leadtraillaw11_shapeOf.l0, w3, l2]
 exact evNow _
theorem shapeOf4 (a lo hi l2 h2 : Int) : Ev (fun k => leadtraillaw11_shapeOf.f k a [lo, hi, l2, h2]) ([one1 lo hi, one1 l2 h2], a) := by
 simp only [leadtraillaw11_shapeOf.f]
 refine evSucc ?_
 have w1 : wrap64 ((0 : Int) + 1) = 1 := w64 (by omega) (by omega)
 have w2 : wrap64 ((0 : Int) + 2) = 2 := w64 (by omega) (by omega)
 have w3 : wrap64 ((2 : Int) + 1) = 3 := w64 (by omega) (by omega)
 have w4 : wrap64 ((2 : Int) + 2) = 4 := w64 (by omega) (by omega)
 have w5 : wrap64 ((4 : Int) + 1) = 5 := w64 (by omega) (by omega)
 have l4 : (([lo, hi, l2, h2] : List Int).length : Int) = 4 := rfl
 simp only [leadtraillaw11_shapeOf.l0, w1, w2, l4]
 rw [show (fun k => (if (1 : Int) < 4 then (if (0 : Int) ≤ 0 then (if (0 : Int) < 4 then (if (0 : Int) ≤ 1 then (if ([] : List (List Sp)).length < 5864062014805 then (leadtraillaw11_shapeOf.l0 k [lo, hi, l2, h2] 2 ([] ++ [[(⟨rd [lo, hi, l2, h2] 0, rd [lo, hi, l2, h2] 1⟩ : Sp)]]) a) else (none)) else (none)) else (none)) else (none)) else (some ([], a)))) = (fun k => leadtraillaw11_shapeOf.l0 k [lo, hi, l2, h2] 2 [one1 lo hi] a) from rfl]
 refine evSucc ?_
 simp only [leadtraillaw11_shapeOf.l0, w3, w4, l4]
 rw [show (fun k => (if (3 : Int) < 4 then (if (0 : Int) ≤ 2 then (if (2 : Int) < 4 then (if (0 : Int) ≤ 3 then (if ([one1 lo hi] : List (List Sp)).length < 5864062014805 then (leadtraillaw11_shapeOf.l0 k [lo, hi, l2, h2] 4 ([one1 lo hi] ++ [[(⟨rd [lo, hi, l2, h2] 2, rd [lo, hi, l2, h2] 3⟩ : Sp)]]) a) else (none)) else (none)) else (none)) else (none)) else (some ([one1 lo hi], a)))) = (fun k => leadtraillaw11_shapeOf.l0 k [lo, hi, l2, h2] 4 [one1 lo hi, one1 l2 h2] a) from rfl]
 refine evSucc ?_
 simp only [leadtraillaw11_shapeOf.l0, w5, l4]
 exact evNow _
def pA : Sh := ⟨[one1 48 57], 0⟩
def pB : Sh := ⟨[one1 64 65, one1 48 57], 10⟩
def pD : Sh := ⟨[one1 57 57, one1 48 48], 10⟩
theorem cntA : cnt (sets [one1 48 57]) = 10 := by show cnt [runs (one1 48 57)] = 10; rw [cnt_cons, cnt_nil, one_size]; rfl
theorem cntB : cnt (sets [one1 64 65, one1 48 57]) = 20 := by show cnt [runs (one1 64 65), runs (one1 48 57)] = 20; rw [cnt_cons, cnt_cons, cnt_nil, one_size, one_size]; rfl
theorem cntD : cnt (sets [one1 57 57, one1 48 48]) = 1 := by show cnt [runs (one1 57 57), runs (one1 48 48)] = 1; rw [cnt_cons, cnt_cons, cnt_nil, one_size, one_size]; rfl
theorem ok4857 : okPart (one1 48 57) = true := one_ok (by decide) (by decide) (by decide)
theorem vA : vShape pA.f0 pA.f1 = true := by show vShape [one1 48 57] 0 = true; unfold vShape; rw [cntA]; simp [ok4857]
theorem vB : vShape pB.f0 pB.f1 = true := by
 show vShape [one1 64 65, one1 48 57] 10 = true
 unfold vShape; rw [cntB]
 simp [ok4857, one_ok (show (0 : Int) ≤ 64 by decide) (show (64 : Int) ≤ 65 by decide) (by decide)]
theorem vD : vShape pD.f0 pD.f1 = true := by
 show vShape [one1 57 57, one1 48 48] 10 = true
 unfold vShape; rw [cntD]
 simp [one_ok (show (0 : Int) ≤ 57 by decide) (show (57 : Int) ≤ 57 by decide) (by decide), one_ok (show (0 : Int) ≤ 48 by decide) (show (48 : Int) ≤ 48 by decide) (by decide)]
theorem vAB : vScheme [pA, pB] = true := by
 have h3 : meetsB pB pA = false := by show (decide ((10 : Int) ≤ 0 + cnt (sets [one1 48 57]) - 1) && _) = false; rw [cntA]; rfl
 show (decide (2 ≤ 32) && (vShape pA.f0 pA.f1 && (!([] : List Sh).any (meetsB _) && (vShape pB.f0 pB.f1 && (!([pA] : List Sh).any (meetsB pB) && true))))) = true
 rw [vA, vB]; simp [h3]
theorem vAD : vScheme [pA, pD] = true := by
 have h3 : meetsB pD pA = false := by show (decide ((10 : Int) ≤ 0 + cnt (sets [one1 48 57]) - 1) && _) = false; rw [cntA]; rfl
 show (decide (2 ≤ 32) && (vShape pA.f0 pA.f1 && (!([] : List Sh).any (meetsB _) && (vShape pD.f0 pD.f1 && (!([pA] : List Sh).any (meetsB pD) && true))))) = true
 rw [vA, vD]; simp [h3]
theorem inAB (q : Sh) (h : In2 q.f0) : InS [pA, q] := ⟨by show 2 * 32 ≤ 140737488351232; omega, fun p hp => by
 rcases List.mem_cons.1 hp with rfl | hp
 ·exact ⟨by show 1 * 24 ≤ 140737488351232; omega, fun x hx => by rw [List.mem_singleton.1 hx]; exact one_in _ _⟩
 ·rw [List.mem_singleton.1 hp]; exact h⟩
theorem in2two (a b c d : Int) : In2 [one1 a b, one1 c d] := ⟨by show 2 * 24 ≤ 140737488351232; omega, fun x hx => by
 rcases List.mem_cons.1 hx with rfl | hx
 ·exact one_in _ _
 ·rw [List.mem_singleton.1 hx]; exact one_in _ _⟩
theorem one_mem2 {lo hi x : Int} (h : Mem (runs (one1 lo hi)) x) : lo ≤ x ∧ x ≤ hi := by
 obtain ⟨r, hr, h1, h2⟩ := h
 rw [List.mem_singleton.1 hr] at h1 h2
 exact ⟨h1, h2⟩
theorem fixedA : Ev (fun k => clash_Prefix.f k [pA, pB]) (true, 0, 0, 0) := by
 obtain ⟨r, r1, r2⟩ := clash_Prefix_is [pA, pB] (inAB pB (in2two _ _ _ _))
 rcases r2 with ⟨h, _⟩ | ⟨_, h⟩
 ·rw [vAB] at h; cases h
 ·rcases specP_yes h with ⟨_, rfl⟩ | ⟨hn, _⟩
  ·exact r1
  ·refine (hn fun p hp q hq hl b hb => ?_).elim
   rcases List.mem_cons.1 hp with rfl | hp
   ·rcases List.mem_cons.1 hq with rfl | hq
    ·omega
    ·rw [List.mem_singleton.1 hq] at hb
     cases b with
     | nil => exact hb.elim
     | cons x b =>
      have h1 := one_mem2 hb.1
      have h2 := one_mem2 hb.2.1
      omega
   ·rw [List.mem_singleton.1 hp] at hl
    have : q.f0.length ≤ 2 := by
     rcases List.mem_cons.1 hq with rfl | hq
     ·decide
     ·rw [List.mem_singleton.1 hq]; decide
    have e : pB.f0.length = 2 := rfl
    omega
theorem comD : ComPQ pA pD [57] := ⟨⟨(48, 57), List.mem_cons_self, by decide, by decide⟩, ⟨(57, 57), List.mem_cons_self, by decide, by decide⟩, fun y _ h => (one_mem2 h).1, rfl⟩
theorem fixedD : Ev (fun k => clash_Prefix.f k [pA, pD]) (false, 9, 10, 0) := by
 obtain ⟨r, r1, r2⟩ := clash_Prefix_is [pA, pD] (inAB pD (in2two _ _ _ _))
 rcases r2 with ⟨h, _⟩ | ⟨_, h⟩
 ·rw [vAD] at h; cases h
 ·rcases specP_yes h with ⟨hn, _⟩ | ⟨_, i, j, U, V, hi, hj, ha, hs, rfl⟩
  ·exact (hn pA List.mem_cons_self pD (List.mem_cons_of_mem _ List.mem_cons_self) (by decide) [57] comD).elim
  ·have hij : i = 0 ∧ j = 1 := by
    have hi' : i < 2 := hi
    have hj' : j < 2 := hj
    have ha' := (askP_at hi hj).1 ha
    rcases (by omega : i = 0 ∨ i = 1) with rfl | rfl <;> rcases (by omega : j = 0 ∨ j = 1) with rfl | rfl
    ·exact absurd ha' (by show ¬ 1 < 1; omega)
    ·exact ⟨rfl, rfl⟩
    ·exact absurd ha' (by show ¬ 2 < 1; omega)
    ·exact absurd ha' (by show ¬ 2 < 2; omega)
   obtain ⟨rfl, rfl⟩ := hij
   obtain ⟨b, kk, kk', hb, h1, h2, hU, hV⟩ := hs
   have hb' := (comIJ_at hi hj).1 hb
   obtain rfl := Com.uniq hb' comD
   have k1 : rnk [runs (one1 48 57)] [57] = some 9 := by
    rw [rnk_cons, if_pos (one_memB (by decide) (by decide)), rnk_nil]
    simp only [Option.map_some, cnt_nil, one_cd (show (0 : Int) ≤ 48 by decide) (show (48 : Int) ≤ 57 by decide) (show (57 : Int) ≤ 57 by decide) (by decide)]
    rfl
   have k2 : rnk [runs (one1 57 57), runs (one1 48 48)] [57, 48] = some 0 := by
    rw [rnk_cons, if_pos (one_memB (by decide) (by decide)), rnk_cons, if_pos (one_memB (by decide) (by decide)), rnk_nil]
    simp only [Option.map_some, cnt_cons, cnt_nil, one_size, one_cd (show (0 : Int) ≤ 57 by decide) (show (57 : Int) ≤ 57 by decide) (show (57 : Int) ≤ 57 by decide) (by decide), one_cd (show (0 : Int) ≤ 48 by decide) (show (48 : Int) ≤ 48 by decide) (show (48 : Int) ≤ 48 by decide) (by decide)]
    rfl
   have q1 : rnk [runs (one1 48 57)] [57] = some kk := h1
   have q2 : rnk [runs (one1 57 57), runs (one1 48 48)] [57, 48] = some kk' := h2
   rw [k1] at q1
   rw [k2] at q2
   obtain rfl := Option.some.inj q1
   obtain rfl := Option.some.inj q2
   have eU : U = 9 := hU
   have eV : V = 10 := hV
   rw [← eU, ← eV]; exact r1
theorem fixed11 : Ev (fun k => leadtraillaw11_fixed.f k) true := by
 simp only [leadtraillaw11_fixed.f]
 refine Ev.bind (shapeOf2 0 48 57) (Ev.bind (shapeOf4 10 64 65 48 57) (Ev.bind fixedA (Ev.bind (shapeOf2 0 48 57) (Ev.bind (shapeOf4 10 57 57 48 48) (Ev.bind fixedD ?_)))))
 exact evNow _
end Go.Proofs.Ytkcklnmbeinfkaa.PBS
end
section
namespace Go.Proofs.Ytkcklnmbeinfkaa.PBS
open Go.RowKit Go.Proofs.YtkcklnmbeinfkaaW.PrintWords Go.Proofs.YtkcklnmbeinfkaaW.PrintLast Go.Proofs.YtkcklnmbeinfkaaW.PrintMore Go.Proofs.Ytkcklnmbeinfkaa.B Go.Proofs.LT Go.Proofs.Ytkcklnmbeinfkaa.PB3
set_option linter.unusedVariables false
set_option linter.unusedSimpArgs false
theorem enc_shape {ss : List Sh} (h : vScheme ss = true) {u : Int} {x : List Int} (he : encC (cs ss) u = some x) : ∃ (i : Nat) (hi : i < ss.length), rnk (sets ss[i].f0) x = some (u - ss[i].f1) ∧ x.length = ss[i].f0.length ∧ GoodP (sets ss[i].f0) := by
 obtain ⟨_, h2, _, hg⟩ := vScheme_facts h
 obtain ⟨p, hp, hh, hx⟩ := encC_mem he
 obtain ⟨q, hq, rfl⟩ := List.mem_map.1 hp
 obtain ⟨i, hi, rfl⟩ := List.getElem_of_mem hq
 have hr := encC_hit hg hp hh hx
 exact ⟨i, hi, hr, by have := rnk_len hr; rwa [show (C ss[i]).1 = sets ss[i].f0 from rfl, sets_len] at this, hg _ hp⟩
theorem not_noP {ss : List Sh} (h : vScheme ss = true) {u v : Int} {x y : List Int} (hx : encC (cs ss) u = some x) (hy : encC (cs ss) v = some y) (hl : x.length < y.length) (ht : y.take x.length = x) : ¬ noP ss := fun hn => by
 obtain ⟨i, hi, r1, l1, g1⟩ := enc_shape h hx
 obtain ⟨j, hj, r2, l2, g2⟩ := enc_shape h hy
 have hm := meet_of_seq (n := x.length) r1 r2 (Nat.le_refl _) (by omega) (by rw [ht, List.take_length])
 obtain ⟨b, hb⟩ := com_of_meet g1 hm
 rw [l1] at hb
 exact hn _ (List.getElem_mem hi) _ (List.getElem_mem hj) (by omega) b hb
theorem not_noI {ss : List Sh} (h : vScheme ss = true) {u v : Int} {x : List Int} (hx : encC (cs ss) u = some x) (hy : encC (cs ss) v = some x) (hne : u ≠ v) : ¬ noI ss := fun hn => by
 obtain ⟨i, hi, r1, l1, g1⟩ := enc_shape h hx
 obtain ⟨j, hj, r2, l2, g2⟩ := enc_shape h hy
 have hp := List.pairwise_iff_getElem.1 hn
 rcases Nat.lt_trichotomy i j with hij | rfl | hij
 ·have hm := meet_of_seq (n := x.length) r1 r2 (Nat.le_refl _) (Nat.le_refl _) rfl
  obtain ⟨b, hb⟩ := com_of_meet g1 hm
  rw [l1] at hb
  exact hp i j hi hj hij (by omega) b hb
 ·rw [r1] at r2
  have := Option.some.inj r2
  omega
 ·have hm := meet_of_seq (n := x.length) r2 r1 (Nat.le_refl _) (Nat.le_refl _) rfl
  obtain ⟨b, hb⟩ := com_of_meet g2 hm
  rw [l2] at hb
  exact hp j i hj hi hij (by omega) b hb
theorem leadtraillaw11_ClashFound_ev (ss : List Sh) (u v : Int) (hI : InS ss) (hu : (Lit.int .i64 u).wf = true) (hv : (Lit.int .i64 v).wf = true) : Ev (fun k => leadtraillaw11_ClashFound.f k ss u v) true := by
 obtain ⟨r, r1, r2⟩ := clash_Prefix_is ss hI
 obtain ⟨q, q1, q2⟩ := clash_Inject_is ss hI
 simp only [leadtraillaw11_ClashFound.f]
 refine Ev.bind fixed11 ?_
 simp only [if_true]
 refine Ev.bind r1 (Ev.bind q1 (Ev.bind (Encode_is ss u hI hu) (Ev.bind (Encode_is ss v hI hv) ?_)))
 rcases r2 with ⟨h, rfl⟩ | ⟨h, hs⟩
 ·rcases q2 with ⟨_, rfl⟩ | ⟨h', _⟩
  ·rw [show encS ss u = ([], 84) by unfold encS; rw [h]; rfl, show encS ss v = ([], 84) by unfold encS; rw [h]; rfl]
   simp only [if_true]
   refine evSucc (evSucc ?_)
   simp only [leadtraillaw11_ClashFound.j0, leadtraillaw11_ClashFound.j1, bne_self_eq_false, Bool.false_eq_true, if_false, if_true, if_neg (show ¬ (84 : Int) = 0 by omega)]
   exact evNow _
  ·rw [h] at h'; cases h'
 ·rcases q2 with ⟨h', _⟩ | ⟨_, hs2⟩
  ·rw [h] at h'; cases h'
  ·have er : r.2.2.2 = 0 ∧ (r.1 = true → noP ss) := by
    rcases specP_yes hs with ⟨hn, rfl⟩ | ⟨hn, i, j, U, V, _, _, _, _, rfl⟩
    ·exact ⟨rfl, fun _ => hn⟩
    ·exact ⟨rfl, fun h => by cases h⟩
   have eq : q.2.2.2 = 0 ∧ (q.1 = true → noI ss) := by
    rcases specI_yes hs2 with ⟨hn, rfl⟩ | ⟨hn, i, j, U, V, _, _, _, _, rfl⟩
    ·exact ⟨rfl, fun _ => hn⟩
    ·exact ⟨rfl, fun h => by cases h⟩
   have e84 : ((encS ss u).2 == 84) = false := by
    unfold encS; rw [if_pos h]
    cases encC (cs ss) u <;> rfl
   simp only [er.1, eq.1, if_true, e84, show ((0 : Int) == 84) = false from rfl, bne_self_eq_false]
   refine evSucc (evSucc ?_)
   simp only [leadtraillaw11_ClashFound.j0, Bool.false_eq_true, if_false]
   cases hx : encC (cs ss) u with
   | none =>
    rw [show encS ss u = ([], 100) by unfold encS; rw [if_pos h, hx]; rfl]
    simp only [if_neg (show ¬ (100 : Int) = 0 by omega), leadtraillaw11_ClashFound.j1, if_true]
    exact evNow _
   | some x =>
    rw [show encS ss u = (x, 0) by unfold encS; rw [if_pos h, hx]; rfl]
    simp only [if_true]
    cases hy : encC (cs ss) v with
    | none =>
     rw [show encS ss v = ([], 100) by unfold encS; rw [if_pos h, hy]; rfl]
     simp only [show ((100 : Int) != 0) = true from rfl, leadtraillaw11_ClashFound.j1, if_true]
     exact evNow _
    | some y =>
     rw [show encS ss v = (y, 0) by unfold encS; rw [if_pos h, hy]; rfl]
     have rx := enc_range h hx
     have ry := enc_range h hy
     have hval : (if u = v then some true else if (strOfNums x).toList = (strOfNums y).toList then some (!q.1) else some true : Option Bool) = some true := by
      by_cases c : u = v
      ·rw [if_pos c]
      ·rw [if_neg c]
       by_cases d : (strOfNums x).toList = (strOfNums y).toList
       ·rw [if_pos d]
        rw [Lib.strOfNums_toList, Lib.strOfNums_toList] at d
        have e := (bytes_inj x y rx.2.1 ry.2.1).1 d
        subst e
        cases hq : q.1
        ·rfl
        ·exact (not_noI h hx hy c (eq.2 hq)).elim
       ·rw [if_neg d]
     simp only [bne_self_eq_false, leadtraillaw11_ClashFound.j1, Bool.false_eq_true, if_false, hval]
     by_cases hl : x.length < y.length
     ·rw [if_pos (show (x.length : Int) < (y.length : Int) by omega), hasPrefix_is y x ry.2.1 rx.2.1]
      simp only [Option.bind_some]
      by_cases hp : x.length ≤ y.length ∧ y.take x.length = x
      ·rw [decide_eq_true hp, if_pos rfl]
       cases hr : r.1
       ·simp only [Bool.false_eq_true, if_false]; exact evNow _
       ·exact (not_noP h hx hy hl hp.2 (er.2 hr)).elim
      ·rw [decide_eq_false hp]
       simp only [Bool.false_eq_true, if_false]; exact evNow _
     ·rw [if_neg (show ¬ (x.length : Int) < (y.length : Int) by omega)]
      exact evNow _
end Go.Proofs.Ytkcklnmbeinfkaa.PBS
namespace Go.Proofs.Ytkcklnmbeinfkaa.Pure
open Go.Proofs.Ytkcklnmbeinfkaa.B Go.Proofs.YtkcklnmbeinfkaaW.PrintWords
theorem ClashFound : ∀ (l0_0 : List S50) (a1 : Int) (a2 : Int), (l0_0.length * 32 ≤ 140737488351232 ∧ ∀ x ∈ l0_0, ((x.f0.length * 24 ≤ 140737488351232 ∧ ∀ y ∈ x.f0, (y.length * 16 ≤ 140737488351232 ∧ ∀ x ∈ y, ((Lit.int .i64 x.f0).wf = true ∧ (Lit.int .i64 x.f1).wf = true))) ∧ (Lit.int .i64 x.f1).wf = true)) → (Lit.int .i64 a1).wf = true → (Lit.int .i64 a2).wf = true → ∃ k, leadtraillaw11_ClashFound.f k l0_0 a1 a2 = some true :=
 fun l0 a1 a2 h hu hv => Ev.rounds (PBS.leadtraillaw11_ClashFound_ev l0 a1 a2 ⟨h.1, fun p hp => ⟨(h.2 p hp).1.1, fun x hx => ((h.2 p hp).1.2 x hx).1⟩⟩ hu hv)
end Go.Proofs.Ytkcklnmbeinfkaa.Pure
end
