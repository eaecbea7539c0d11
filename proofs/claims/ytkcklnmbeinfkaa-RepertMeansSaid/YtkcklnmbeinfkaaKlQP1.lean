/- Words and laws of this claim, of 13 texts. -/
import Derived.Test.YtkcklnmbeinfkaaKlBx0
import Derived.Test.YtkcklnmbeinfkaaKlBx9
import Derived.Test.YtkcklnmbeinfkaaKlBx5
import Derived.Test.YtkcklnmbeinfkaaKlBx8
import Derived.Test.YtkcklnmbeinfkaaKlQP0
import Derived.Test.YtkcklnmbeinfkaaKlBx12
import Derived.Test.YtkcklnmbeinfkaaKlBx13
import Derived.Lib.Bytes
import Derived.Test.YtkcklnmbeinfkaaKlBx19
import Derived.Test.YtkcklnmbeinfkaaKlBx23
import Derived.Test.YtkcklnmbeinfkaaKlBx28
import Derived.Test.YtkcklnmbeinfkaaKlBx3
import Derived.Test.YtkcklnmbeinfkaaKlQW1
import Derived.Test.YtkcklnmbeinfkaaKlBx44
import Derived.Test.YtkcklnmbeinfkaaKlBx38
import Derived.Test.YtkcklnmbeinfkaaKlBx39
import Derived.Test.YtkcklnmbeinfkaaKlBx40
import Derived.Test.YtkcklnmbeinfkaaKlBx43
import Derived.KernelRfl
import Derived.Test.YtkcklnmbeinfkaaKlBx48
import Derived.Test.YtkcklnmbeinfkaaKlBx49
import Derived.Test.YtkcklnmbeinfkaaKlBx50
section
namespace Go.Proofs.Ytkcklnmbeinfkaa.PBS
open Go.RowKit Go.Proofs.YtkcklnmbeinfkaaW.PrintWords Go.Proofs.YtkcklnmbeinfkaaW.PrintLast Go.Proofs.YtkcklnmbeinfkaaW.PrintMore Go.Proofs.Ytkcklnmbeinfkaa.B Go.Proofs.LT Go.Proofs.Ytkcklnmbeinfkaa.PB3
set_option linter.unusedVariables false
set_option linter.unusedSimpArgs false
theorem wf64 {x : Int} (h0 : -9223372036854775808 ≤ x) (h1 : x ≤ 9223372036854775807) : (Lit.int .i64 x).wf = true := by
 have h := wf_wrap .i64 x; rwa [show IntKind.i64.wrap x = x from by rw [IntKind.wrap_i64]; omega] at h
theorem rdL_at (ps : List (List Sp)) (i : Nat) (h : i < ps.length) : rd_L4 ps (i : Int) = ps[i] := by simp [rd_L4, List.getD, h]
theorem rd_at (l : List Int) (i : Nat) (x : Int) (h : l[i]? = some x) : rd l (i : Int) = x := by simp [rd, List.getD, h]
theorem good_part {ps : List (List Sp)} (h : ps.all okPart = true) {i : Nat} (hi : i < ps.length) : okPart ps[i] = true := List.all_eq_true.1 h _ (List.getElem_mem hi)
theorem cnt_step (ps : List (List Sp)) (i : Nat) (hi : i < ps.length) : cnt (sets (ps.drop i)) = size (runs ps[i]) * cnt (sets (ps.drop (i + 1))) := by
 rw [List.drop_eq_getElem_cons hi]; exact cnt_cons _ _
theorem SP_step (ps : List (List Sp)) (i : Nat) (hi : i < ps.length) : SP (sets (ps.drop i)) = cnt (sets (ps.drop i)) :: SP (sets (ps.drop (i + 1))) := by
 rw [cnt_step ps i hi, List.drop_eq_getElem_cons hi]; exact (by rw [← cnt_cons]; exact SP_cons _)
theorem set_mid (i : Nat) (n : Int) (t : List Int) : (List.replicate (i + 1) 0 ++ t).set i n = List.replicate i 0 ++ n :: t := by
 rw [List.replicate_succ', List.append_assoc, List.set_append, if_neg (by simp), List.length_replicate, Nat.sub_self]; rfl
theorem steps_loop (ps : List (List Sp)) (a : Int) (hI : In2 ps) (hk : ps.all okPart = true) (hl : ps.length ≤ 8) (hc : cnt (sets ps) ≤ 1073741824) : ∀ (i : Nat), i ≤ ps.length →
 Ev (fun k => shape_steps.l0 k (cnt (sets (ps.drop i))) (i : Int) (List.replicate (i + 1) 0 ++ (SP (sets (ps.drop i))).tail) ps a) (SP (sets ps))
 | 0, _ => by
  refine evSucc ?_; rw [List.drop_zero]; have c : (0 : Int) < ((List.replicate (0 + 1) (0 : Int) ++ (SP (sets ps)).tail).length : Nat) := by simp
  simp only [shape_steps.l0, if_neg (show ¬ ((0 : Nat) : Int) > 0 by omega), if_pos c]; have e : (List.replicate (0 + 1) (0 : Int) ++ (SP (sets ps)).tail).set (0 : Int).toNat (cnt (sets ps)) = SP (sets ps) := by
   rw [show (0 : Int).toNat = 0 from rfl, set_mid 0, ← SP_cons]; first | done | rfl
  rw [e]; exact evNow _
 | i + 1, hi => by
  have ih := steps_loop ps a hI hk hl hc i (by omega); have hg := good_of hk; have hp := good_part hk (show i < ps.length by omega); have hs := okPart_good hp; have hz := size_256 hs.1; have hd := cnt_drop i hg; rw [sets_drop, cnt_step ps i (by omega)] at hd; have h1 : 1 ≤ cnt (sets (ps.drop (i + 1))) := by have := cnt_pos (hg.drop (i + 1)); rwa [sets_drop] at this
  have e1 : cnt (sets (ps.drop (i + 1))) * size (runs ps[i]) = cnt (sets (ps.drop i)) := by rw [cnt_step ps i (by omega), Int.mul_comm]
  have hpos : 0 ≤ size (runs ps[i]) * cnt (sets (ps.drop (i + 1))) := Int.mul_nonneg (by omega) (by omega); have hw : Aside0 (wrap64 (cnt (sets (ps.drop (i + 1))) * size (runs ps[i])) = cnt (sets (ps.drop i))) := Aside0.mk (by rw [w64 (by rw [Int.mul_comm]; omega) (by rw [Int.mul_comm]; omega), e1]); have hw2 : Aside0 (wrap64 (((i + 1 : Nat) : Int) - 1) = (i : Int)) := Aside0.mk (by rw [w64 (by omega) (by omega)]; omega); have hlen : ((List.replicate (i + 1 + 1) (0 : Int) ++ (SP (sets (ps.drop (i + 1)))).tail).length : Nat) = ps.length + 1 := by
   simp [SP_len, sets_len]; omega
  have c1 : ((i + 1 : Nat) : Int) < ((List.replicate (i + 1 + 1) (0 : Int) ++ (SP (sets (ps.drop (i + 1)))).tail).length : Nat) := by rw [hlen]; omega
  refine evSucc ?_; simp only [shape_steps.l0, if_pos (show ((i + 1 : Nat) : Int) > 0 by omega), if_pos (show (0 : Int) ≤ ((i + 1 : Nat) : Int) by omega), if_pos c1, hw2.out, if_pos (show (0 : Int) ≤ (i : Int) by omega), if_pos (show (i : Int) < (ps.length : Int) by omega), rdL_at ps i (by omega)]; refine Ev.bind (size_is3 _ (hI.2 _ (List.getElem_mem _)) hp) ?_; simp only [hw.out]; have e2 : (List.replicate (i + 1 + 1) (0 : Int) ++ (SP (sets (ps.drop (i + 1)))).tail).set (((i + 1 : Nat) : Int)).toNat (cnt (sets (ps.drop (i + 1)))) = List.replicate (i + 1) 0 ++ (SP (sets (ps.drop i))).tail := by
   rw [Int.toNat_natCast, set_mid (i + 1), ← SP_cons, SP_step ps i (by omega)]; rfl
  rw [e2]; exact ih
theorem steps_is {ps : List (List Sp)} {a : Int} (hI : In2 ps) (hv : vShape ps a = true) : Ev (fun k => shape_steps.f k ps a) (SP (sets ps)) := by
 obtain ⟨⟨l1, l2⟩, ⟨a1, a2⟩, hk, hg, hc⟩ := vShape_good hv; have h := steps_loop ps a hI hk l2 (by omega) ps.length (Nat.le_refl _); rw [List.drop_length] at h; have hw : Aside0 (wrap64 ((ps.length : Int) + 1) = ((ps.length + 1 : Nat) : Int)) := Aside0.mk (by rw [w64 (by omega) (by omega)]; simp); simp only [shape_steps.f, hw.out, if_pos (show (0 : Int) ≤ ((ps.length + 1 : Nat) : Int) by omega), Int.toNat_natCast, if_pos (show ps.length + 1 ≤ 35184372088832 by omega)]; simpa [sets, SP, cnt_nil] using h
theorem Count_is (ps : List (List Sp)) (a : Int) (hI : In2 ps) : Ev (fun k => shape_Count.f k ps a) (if vShape ps a = true then cnt (sets ps) else 0) := by
 simp only [shape_Count.f]; refine Ev.bind (shapeValid_is ps a hI) ?_; cases hv : vShape ps a
 ·simp only [Bool.false_eq_true, if_false]; exact evNow _
 ·simp only [if_true]; refine Ev.bind (steps_is hI hv) ?_; rw [if_pos (show (0 : Int) < ((SP (sets ps)).length : Nat) by rw [SP_len]; omega), show rd (SP (sets ps)) 0 = cnt (sets ps) by rw [SP_cons]; rfl]; exact evNow _
theorem select_at (p : List Sp) (d : Int) (hi : In1 p) (hk : okPart p = true) (h0 : 0 ≤ d) (h1 : d < size (runs p)) : Ev (fun k => spans_Select.f k p d) (selV (runs p) d, true) := by
 have hs := okPart_good hk; have hz := size_256 hs.1; obtain ⟨r, r1, r2⟩ := spans_Select_is p d (wf64 (by omega) (by omega)) hi; rw [show p.map L113 = runs p from rfl, setL_of hs.1] at r2; have hS := selV_spec hs.1 h0 h1; obtain rfl := Sel.uniq hs.1 r2 (.inl ⟨_, hS.1, hS.2, rfl⟩); exact r1
theorem tail_at (ps : List (List Sp)) (i : Nat) (hi : i < ps.length) : (SP (sets ps)).tail[i]? = some (cnt (sets (ps.drop (i + 1)))) := by
 have := SP_at (sets ps) (i + 1) (by rw [sets_len]; omega); rw [sets_drop] at this; rw [← this, List.getElem?_tail]
theorem unrank_loop (ps : List (List Sp)) (a : Int) (hI : In2 ps) (hk : ps.all okPart = true) (hl : ps.length ≤ 8) (hc : cnt (sets ps) ≤ 1073741824) : ∀ (n i : Nat) (kk : Int) (out : List Int), i + n = ps.length → out.length ≤ i → 0 ≤ kk → kk < cnt (sets (ps.drop i)) →
 Ev (fun k => shape_Unrank.l0 k kk out (SP (sets ps)).tail ((SP (sets ps)).tail.length : Int) (i : Int) ps a) (out ++ unr (sets (ps.drop i)) kk, true)
 | 0, i, kk, out, hi, _, _, _ => by
  refine evSucc ?_; have hlen : (SP (sets ps)).tail.length = ps.length := by rw [List.length_tail, SP_len, sets_len]; rfl
  simp only [shape_Unrank.l0, hlen, if_neg (show ¬ (i : Int) < ((ps.length : Nat) : Int) by omega)]; rw [List.drop_of_length_le (by omega), show unr (sets []) kk = [] from unr_nil _, List.append_nil]; exact evNow _
 | n + 1, i, kk, out, hi, ho, h0, h1 => by
  have hlen : (SP (sets ps)).tail.length = ps.length := by rw [List.length_tail, SP_len, sets_len]; rfl
  have hil : i < ps.length := by omega
  have hg := good_of hk; have hp := good_part hk hil; have hs := okPart_good hp; have hpos : 1 ≤ cnt (sets (ps.drop (i + 1))) := by have := cnt_pos (hg.drop (i + 1)); rwa [sets_drop] at this
  rw [cnt_step ps i hil] at h1; obtain ⟨d0, d1, d2, d3⟩ := digit hpos h0 h1; have hz := size_256 hs.1; have ih := unrank_loop ps a hI hk hl hc n (i + 1) (kk % cnt (sets (ps.drop (i + 1)))) (out ++ [selV (runs ps[i]) (kk / cnt (sets (ps.drop (i + 1))))]) (by omega) (by simp; omega) d2 d3; have hr := hs.1.range (selV_spec hs.1 d0 d1).1; have r1 := rd_at _ i _ (tail_at ps i hil); have t1 : Int.tdiv kk (cnt (sets (ps.drop (i + 1)))) = kk / cnt (sets (ps.drop (i + 1))) := Int.tdiv_eq_ediv_of_nonneg h0; have t2 : Int.tmod kk (cnt (sets (ps.drop (i + 1)))) = kk % cnt (sets (ps.drop (i + 1))) := Int.tmod_eq_emod_of_nonneg h0; have hw : Aside0 (wrap64 (kk / cnt (sets (ps.drop (i + 1)))) = kk / cnt (sets (ps.drop (i + 1)))) := Aside0.mk (w64 (by omega) (by omega)); have hw2 : Aside0 (wrap64 ((i : Int) + 1) = ((i + 1 : Nat) : Int)) := Aside0.mk (by rw [w64 (by omega) (by omega)]; simp); have hm : selV (runs ps[i]) (kk / cnt (sets (ps.drop (i + 1)))) % 256 = selV (runs ps[i]) (kk / cnt (sets (ps.drop (i + 1)))) := Int.emod_eq_of_lt hr.1 (by omega); refine evSucc ?_; simp only [shape_Unrank.l0, hlen, if_pos (show (i : Int) < ((ps.length : Nat) : Int) by omega), if_pos (show (0 : Int) ≤ (i : Int) by omega), r1, if_neg (show ¬ cnt (sets (ps.drop (i + 1))) = 0 by omega), rdL_at ps i hil, t1, t2, hw.out]; refine Ev.bind (select_at _ _ (hI.2 _ (List.getElem_mem _)) hp d0 d1) ?_; simp only [if_pos (show out.length < 140737488355328 by omega), hw2.out, hm]; have e : unr (sets (ps.drop i)) kk = selV (runs ps[i]) (kk / cnt (sets (ps.drop (i + 1)))) :: unr (sets (ps.drop (i + 1))) (kk % cnt (sets (ps.drop (i + 1)))) := by
   rw [List.drop_eq_getElem_cons hil]; exact unr_cons _ _ _
  rw [e]; rw [hlen, List.append_assoc] at ih; exact ih
theorem Unrank_no (ps : List (List Sp)) (a kk : Int) (hI : In2 ps) (h : ¬ (0 ≤ kk ∧ kk < (if vShape ps a = true then cnt (sets ps) else 0))) : Ev (fun k => shape_Unrank.f k ps a kk) ([], false) := by
 have j : Ev (fun k => shape_Unrank.j0 k kk true ps a) ([], false) := by
  refine evSucc ?_; simp only [shape_Unrank.j0, if_true]; exact evNow _
 simp only [shape_Unrank.f]; by_cases c : kk < 0
 ·simp only [if_pos c]; exact j
 ·simp only [if_neg c]; refine Ev.bind (Count_is ps a hI) ?_; rw [decide_eq_true (show kk ≥ (if vShape ps a = true then cnt (sets ps) else 0) by omega)]; exact j
theorem Unrank_yes {ps : List (List Sp)} {a kk : Int} (hI : In2 ps) (hv : vShape ps a = true) (h0 : 0 ≤ kk) (h1 : kk < cnt (sets ps)) : Ev (fun k => shape_Unrank.f k ps a kk) (unr (sets ps) kk, true) := by
 obtain ⟨⟨l1, l2⟩, ⟨a1, a2⟩, hk, hg, hc⟩ := vShape_good hv; simp only [shape_Unrank.f, if_neg (show ¬ kk < 0 by omega)]; have hC := Count_is ps a hI; rw [if_pos hv] at hC; refine Ev.bind hC ?_; rw [decide_eq_false (show ¬ kk ≥ cnt (sets ps) by omega)]; refine evSucc ?_; simp only [shape_Unrank.j0, Bool.false_eq_true, if_false]; refine Ev.bind (steps_is hI hv) ?_; simp only [if_pos (show (1 : Int) ≤ ((SP (sets ps)).length : Nat) by rw [SP_len]; omega)]; simp only [Option.bind_some, show (1 : Int).toNat = 1 from rfl, List.drop_one]; have := unrank_loop ps a hI hk l2 (by omega) ps.length 0 kk [] (by omega) (by simp) h0 (by rw [List.drop_zero]; exact h1); rw [List.drop_zero, List.nil_append] at this; exact this
end Go.Proofs.Ytkcklnmbeinfkaa.PBS
end
section
namespace Go.Proofs.Ytkcklnmbeinfkaa.PB3
open Go.RowKit Go.Proofs.YtkcklnmbeinfkaaW.PrintWords Go.Proofs.YtkcklnmbeinfkaaW.PrintLast Go.Proofs.YtkcklnmbeinfkaaW.PrintMore Go.Proofs.Ytkcklnmbeinfkaa.B Go.Proofs.LT
set_option linter.unusedVariables false
set_option linter.unusedSimpArgs false
theorem refValid_loop (N : Nat) (hN : N ≤ 8796093022206) : ∀ (t q : List S113) (p : S113), (q ++ p :: t).length ≤ N → p.f1 ≤ 255 → 0 ≤ p.f1 → Ev (fun k => leadtrailref03_Valid.l0 k (q ++ p :: t) ((q.length : Int) + 1)) (validB 255 p.f1 (t.map L113))
 | [], q, p, _, _, _ => by
  refine evSucc ?_; have hlc := len_cons q p []; have c1 : ¬ (q.length : Int) + 1 < ((q ++ [p]).length : Nat) := by rw [hlc]; simp
  simp only [leadtrailref03_Valid.l0, if_neg c1]; rw [show validB 255 p.f1 (([] : List S113).map L113) = true from validB_nil _ _]; exact evNow _
 | r :: t, q, p, hl, hp, hp0 => by
  have hlc := len_cons q p (r :: t); have e1 : q ++ p :: r :: t = (q ++ [p]) ++ r :: t := by simp
  have e2 : ((q.length : Int) + 1) = ((q ++ [p]).length : Nat) := by simp
  have rr : rd_T113 (q ++ p :: r :: t) ((q.length : Int) + 1) = r := by rw [e1, e2]; exact rd113 _ _ _
  have rp : rd_T113 (q ++ p :: r :: t) (q.length : Int) = p := rd113 _ _ _; have hq : q.length ≤ N := by simp at hl; omega
  have c1 : (q.length : Int) + 1 < ((q ++ p :: r :: t).length : Nat) := by rw [hlc]; simp; omega
  have c2 : (0 : Int) ≤ (q.length : Int) + 1 := by omega
  have c3 : (q.length : Int) + 1 > 0 := by omega
  have c4 : (0 : Int) ≤ (q.length : Int) := by omega
  have c5 : (q.length : Int) < ((q ++ p :: r :: t).length : Nat) := by omega
  have hw1 : Aside0 (wrap64 ((q.length : Int) + 1 - 1) = (q.length : Int)) := Aside0.mk (by rw [w64 (by omega) (by omega)]; omega); have hw2 : Aside0 (wrap64 ((q.length : Int) + 1 + 1) = (q.length : Int) + 1 + 1) := Aside0.mk (w64 (by omega) (by omega)); have hw3 : Aside0 (wrap64 (p.f1 + 1) = p.f1 + 1) := Aside0.mk (w64 (by omega) (by omega)); refine evSucc ?_; simp only [leadtrailref03_Valid.l0, if_pos c1, if_pos c2, if_pos c3, rr, hw1.out, hw2.out, hw3.out, if_pos c4, if_pos c5, rp, List.map_cons, validB_cons]; show Ev _ (if r.f0 < 0 then false else if r.f0 > r.f1 then false else if r.f1 > 255 then false else if r.f0 - 1 ≤ p.f1 then false else validB 255 r.f1 (t.map L113)); by_cases d1 : r.f0 < 0
  ·simp only [if_pos d1]; exact evNow _
  by_cases d2 : r.f0 > r.f1
  ·simp only [if_neg d1, if_pos d2]; exact evNow _
  by_cases d3 : r.f1 > 255
  ·simp only [if_neg d1, if_neg d2, if_pos d3]; exact evNow _
  by_cases d4 : r.f0 ≤ p.f1 + 1
  ·simp only [if_neg d1, if_neg d2, if_neg d3, if_pos d4, if_pos (show r.f0 - 1 ≤ p.f1 by omega)]; exact evNow _
  ·have ih := refValid_loop N hN t (q ++ [p]) r (by rw [← e1]; exact hl) (by omega) (by omega); rw [← e1, ← e2] at ih; simp only [if_neg d1, if_neg d2, if_neg d3, if_neg d4, if_neg (show ¬ r.f0 - 1 ≤ p.f1 by omega)]; exact ih
theorem refValid_is (l : List S113) (hl : l.length * 16 ≤ 140737488351232) : Ev (fun k => leadtrailref03_Valid.f k l) (validB 255 (-2) (l.map L113)) := by
 simp only [leadtrailref03_Valid.f]; cases l with
 | nil =>
  refine evSucc ?_; simp only [leadtrailref03_Valid.l0, List.length_nil, if_neg (show ¬ (0 : Int) < ((0 : Nat) : Int) by omega), List.map_nil, validB_nil]; exact evNow _
 | cons r t =>
  have c1 : (0 : Int) < (((r :: t).length : Nat) : Int) := by rw [List.length_cons]; omega
  have r1 : rd_T113 (r :: t) 0 = r := rfl; have hw : Aside0 (wrap64 ((0 : Int) + 1) = 1) := Aside0.mk (by rw [w64 (by omega) (by omega)]; rfl); refine evSucc ?_; simp only [leadtrailref03_Valid.l0, if_pos c1, if_pos (show (0 : Int) ≤ 0 by omega), r1, if_neg (show ¬ (0 : Int) > 0 by omega), hw.out, List.map_cons, validB_cons]; show Ev _ (if r.f0 < 0 then false else if r.f0 > r.f1 then false else if r.f1 > 255 then false else if r.f0 - 1 ≤ -2 then false else validB 255 r.f1 (t.map L113)); by_cases d1 : r.f0 < 0
  ·simp only [if_pos d1]; exact evNow _
  by_cases d2 : r.f0 > r.f1
  ·simp only [if_neg d1, if_pos d2]; exact evNow _
  by_cases d3 : r.f1 > 255
  ·simp only [if_neg d1, if_neg d2, if_pos d3]; exact evNow _
  simp only [if_neg d1, if_neg d2, if_neg d3, if_neg (show ¬ r.f0 - 1 ≤ -2 by omega)]; exact refValid_loop (r :: t).length (by omega) t [] r (by simp) (by omega) (by omega)
theorem memb_is (l : List S113) (hl : l.length * 16 ≤ 140737488351232) : ∃ p, Ev (fun k => leadtrailref03_memb k l) p ∧ ∀ i : Nat, p i = memB (setL 255 (l.map L113)) i := by
 have h := refValid_is l hl; by_cases d : validB 255 (-2) (l.map L113) = true
 ·have hv := (validB_iff _ _ _).1 d; have hall : l.all okPiece = true := List.all_eq_true.2 fun r hr => by
   have := hv.each (L113 r) (List.mem_map.2 ⟨r, hr, rfl⟩); have e : (L113 r).1 = r.f0 ∧ (L113 r).2 = r.f1 := ⟨rfl, rfl⟩; rw [e.1, e.2] at this; simp [okPiece]; omega
  refine ⟨membersB true l, Ev.bind h ?_, fun i => ?_⟩
  ·simp only [if_pos (show l.length ≤ 8796093022207 by omega), if_pos d, if_pos hall]; exact evNow _
  ·rw [setL_of hv, Bool.eq_iff_iff, memB_iff]; simp only [membersB, hasAny, pieceHas, Bool.true_and, List.any_eq_true, Bool.and_eq_true, decide_eq_true_iff]; exact ⟨fun ⟨r, hr, h1, h2⟩ => ⟨L113 r, List.mem_map.2 ⟨r, hr, rfl⟩, h1, h2⟩, fun ⟨q, hq, h1, h2⟩ => by
    obtain ⟨r, hr, rfl⟩ := List.mem_map.1 hq; exact ⟨r, hr, h1, h2⟩⟩
 ·refine ⟨membersB false l, Ev.bind h ?_, fun i => ?_⟩
  ·simp only [if_pos (show l.length ≤ 8796093022207 by omega), if_neg d]; exact evNow _
  ·have e : setL 255 (l.map L113) = [] := by unfold setL; rw [if_neg d]
   rw [e]; have : memB [] (i : Int) = false := by
    cases hm : memB [] (i : Int)
    ·rfl
    ·exact (Mem.nil (memB_iff.1 hm)).elim
   rw [this]; simp [membersB]
theorem cnt_cd {p : Nat → Bool} {s : List Run} (h : ∀ i : Nat, p i = memB s i) : ∀ n, cntB p n = cd (memB s) n
 | 0 => (cd_zero _).symm
 | n + 1 => by rw [cd_succ, ← cnt_cd h n, ← h n]; rfl
theorem refSize_is (l : List S113) (hl : l.length * 16 ≤ 140737488351232) : Ev (fun k => leadtrailref03_Size.f k l) (size (setL 255 (l.map L113))) := by
 obtain ⟨p, h1, h2⟩ := memb_is l hl; refine Ev.bind h1 ?_; rw [cnt_cd h2 256, cd_size (n := 256) (setL_valid 255 (l.map L113)) (by omega)]; exact evNow _
theorem hasP_is {p : Nat → Bool} {s : List Run} (hv : ValidFrom 255 (-2) s) (h : ∀ i : Nat, p i = memB s i) (x : Int) : hasP p x = memB s x := by
 unfold hasP; by_cases c : 0 ≤ x
 ·by_cases d : x ≤ 255
  ·rw [if_pos c, if_pos d, h x.toNat, Int.toNat_of_nonneg c]
  ·rw [if_pos c, if_neg d]; cases hm : memB s x
   ·rfl
   ·have := hv.range (memB_iff.1 hm); omega
 ·rw [if_neg c]; cases hm : memB s x
  ·rfl
  ·have := hv.range (memB_iff.1 hm); omega
theorem refHas_is (l : List S113) (x : Int) (hl : l.length * 16 ≤ 140737488351232) : Ev (fun k => leadtrailref03_Has.f k l x) (memB (setL 255 (l.map L113)) x) := by
 obtain ⟨p, h1, h2⟩ := memb_is l hl; refine Ev.bind h1 ?_; rw [hasP_is (setL_valid _ _) h2]; exact evNow _
end Go.Proofs.Ytkcklnmbeinfkaa.PB3
end
section
namespace Go.Proofs.Ytkcklnmbeinfkaa.PBS
open Go.RowKit Go.Proofs.YtkcklnmbeinfkaaW.PrintWords Go.Proofs.YtkcklnmbeinfkaaW.PrintLast Go.Proofs.YtkcklnmbeinfkaaW.PrintMore Go.Proofs.Ytkcklnmbeinfkaa.B Go.Proofs.LT Go.Proofs.Ytkcklnmbeinfkaa.PB3
set_option linter.unusedVariables false
set_option linter.unusedSimpArgs false
noncomputable def cntS (ps : List (List Sp)) (a : Int) : Int := if vShape ps a = true then cnt (sets ps) else 0
noncomputable def okB (ps : List (List Sp)) (a k : Int) : Bool := decide (0 ≤ k ∧ k < cntS ps a)
noncomputable def unS (ps : List (List Sp)) (a k : Int) : List Int := if okB ps a k = true then unr (sets ps) k else []
theorem okB_of {ps : List (List Sp)} {a k : Int} (h : okB ps a k = true) : vShape ps a = true ∧ 0 ≤ k ∧ k < cnt (sets ps) := by
 have h := of_decide_eq_true h; by_cases hv : vShape ps a = true
 ·have e : cntS ps a = cnt (sets ps) := if_pos hv; exact ⟨hv, h.1, by omega⟩
 ·have e : cntS ps a = 0 := if_neg hv; omega
theorem Unrank_is (ps : List (List Sp)) (a k : Int) (hI : In2 ps) : Ev (fun n => shape_Unrank.f n ps a k) (unS ps a k, okB ps a k) := by
 cases h : okB ps a k
 ·have := Unrank_no ps a k hI (of_decide_eq_false h); simpa [unS, h] using this
 ·obtain ⟨hv, h0, h1⟩ := okB_of h; have := Unrank_yes hI hv h0 h1; simpa [unS, h] using this
end Go.Proofs.Ytkcklnmbeinfkaa.PBS
namespace Go.Proofs.Ytkcklnmbeinfkaa.Pure
open Go.Proofs.Ytkcklnmbeinfkaa.B Go.Proofs.YtkcklnmbeinfkaaW.PrintWords
end Go.Proofs.Ytkcklnmbeinfkaa.Pure
end
section
namespace Go.Proofs.Ytkcklnmbeinfkaa.PBS
open Go.RowKit Go.Proofs.YtkcklnmbeinfkaaW.PrintWords Go.Proofs.YtkcklnmbeinfkaaW.PrintLast Go.Proofs.YtkcklnmbeinfkaaW.PrintMore Go.Proofs.Ytkcklnmbeinfkaa.B Go.Proofs.LT Go.Proofs.Ytkcklnmbeinfkaa.PB3
set_option linter.unusedVariables false
set_option linter.unusedSimpArgs false
def C (p : Sh) : Cs := (sets p.f0, p.f1)
def cs (ss : List Sh) : List Cs := ss.map C
theorem last_C (p : Sh) : lastC (C p) = lastOf p := rfl
theorem vS_facts : ∀ (t pre : List Sh), vS pre t = true → (∀ p ∈ t, vShape p.f0 p.f1 = true) ∧ (∀ q ∈ pre, ∀ p ∈ t, meetsB p q = false) ∧ Apart (cs t)
 | [], _, _ => ⟨fun _ h => (by cases h), fun _ _ _ h => (by cases h), trivial⟩
 | p :: t, pre, h => by
  have h' : (vShape p.f0 p.f1 && (!(pre.any (meetsB p)) && vS (pre ++ [p]) t)) = true := h; simp only [Bool.and_eq_true, Bool.not_eq_true'] at h'; obtain ⟨h1, h2, h3⟩ := h'; obtain ⟨k1, k2, k3⟩ := vS_facts t (pre ++ [p]) h3; refine ⟨fun q hq => ?_, fun q hq r hr => ?_, fun r hr => ?_, k3⟩
  ·rcases List.mem_cons.1 hq with rfl | hq
   ·exact h1
   ·exact k1 q hq
  ·rcases List.mem_cons.1 hr with rfl | hr
   ·cases e : meetsB r q
    ·rfl
    ·rw [List.any_eq_true.2 ⟨q, hq, e⟩] at h2; cases h2
   ·exact k2 q (List.mem_append_left _ hq) r hr
  ·obtain ⟨q, hq, rfl⟩ := List.mem_map.1 hr; have e := k2 p (List.mem_append_right _ (List.mem_singleton.2 rfl)) q hq; simp only [meetsB, Bool.and_eq_false_iff, decide_eq_false_iff_not] at e; rw [last_C, last_C]; show lastOf p < q.f1 ∨ lastOf q < p.f1; omega
theorem vScheme_facts {ss : List Sh} (h : vScheme ss = true) : ss.length ≤ 32 ∧ (∀ p ∈ ss, vShape p.f0 p.f1 = true) ∧ Apart (cs ss) ∧ AllGood (cs ss) := by
 simp only [vScheme, Bool.and_eq_true, decide_eq_true_eq] at h; obtain ⟨k1, k2, k3⟩ := vS_facts ss [] h.2; refine ⟨h.1, k1, k3, fun p hp => ?_⟩; obtain ⟨q, hq, rfl⟩ := List.mem_map.1 hp; exact (vShape_good (k1 q hq)).2.2.2.1
theorem rdSh_at (ss : List Sh) (i : Nat) (h : i < ss.length) : rd_T50 ss (i : Int) = ss[i] := by simp [rd_T50, List.getD, h]
theorem succ_wrap (i : Nat) (h : i ≤ 4611686018427387904) : Aside0 (wrap64 ((i : Int) + 1) = ((i + 1 : Nat) : Int)) := Aside0.mk (by rw [w64 (by omega) (by omega)]; simp)
theorem okB_hit {ps : List (List Sp)} {a u : Int} (hv : vShape ps a = true) : okB ps a (u - a) = hitC u (sets ps, a) := by
 unfold okB hitC cntS; rw [if_pos hv, Bool.eq_iff_iff, decide_eq_true_iff, Bool.and_eq_true, decide_eq_true_iff, decide_eq_true_iff]; show 0 ≤ u - a ∧ _ ↔ a ≤ u ∧ _; constructor <;> rintro ⟨h1, h2⟩ <;> exact ⟨by omega, h2⟩
theorem encC_cons (p : Cs) (t : List Cs) (u : Int) : encC (p :: t) u = if hitC u p = true then some (unr p.1 (u - p.2)) else encC t u := rfl
theorem cs_drop (ss : List Sh) (i : Nat) (h : i < ss.length) : cs (ss.drop i) = C ss[i] :: cs (ss.drop (i + 1)) := by rw [List.drop_eq_getElem_cons h]; rfl
theorem wf_range {x : Int} (h : (Lit.int .i64 x).wf = true) : -9223372036854775808 ≤ x ∧ x ≤ 9223372036854775807 := by
 simp [Lit.wf] at h; exact ⟨h.1, h.2⟩
theorem encode_loop (ss : List Sh) (u : Int) (hI : InS ss) (hs : ss.length ≤ 32) (hv : ∀ p ∈ ss, vShape p.f0 p.f1 = true) (hu : (Lit.int .i64 u).wf = true) : ∀ (n i : Nat), i + n = ss.length →
 Ev (fun k => code_encode.l0 k u ss (ss.length : Int) (i : Int)) ((encC (cs (ss.drop i)) u).getD [])
 | 0, i, hi => by
  refine evSucc ?_; simp only [code_encode.l0, if_neg (show ¬ (i : Int) < (ss.length : Int) by omega)]; rw [List.drop_of_length_le (by omega)]; exact evNow _
 | n + 1, i, hi => by
  have hil : i < ss.length := by omega
  have hw := succ_wrap i (by omega); have hur := wf_range hu; have vi := hv _ (List.getElem_mem hil); have vg := vShape_good vi; have ih := encode_loop ss u hI hs hv hu n (i + 1) (by omega); rw [cs_drop ss i hil, encC_cons]; refine evSucc ?_; simp only [code_encode.l0, if_pos (show (i : Int) < (ss.length : Int) by omega), if_pos (show (0 : Int) ≤ (i : Int) by omega), rdSh_at ss i hil, hw.out]; by_cases c : u < ss[i].f1
  ·simp only [if_pos c, if_neg (show ¬ hitC u (C ss[i]) = true by rw [hitC_iff]; show ¬ (ss[i].f1 ≤ u ∧ _); omega)]; exact ih
  ·have w1 : Aside0 (wrap64 (u - ss[i].f1) = u - ss[i].f1) := Aside0.mk (w64 (by omega) (by omega)); simp only [if_neg c, w1.out]; refine Ev.bind (Unrank_is _ _ _ (hI.2 _ (List.getElem_mem _))) ?_; have e := okB_hit (u := u) vi; rw [show (sets ss[i].f0, ss[i].f1) = C ss[i] from rfl] at e; simp only [unS, e]; cases h : hitC u (C ss[i])
   ·simp only [Bool.false_eq_true, if_false]; exact ih
   ·have hlen : ¬ (unr (sets ss[i].f0) (u - ss[i].f1)).length = 0 := by rw [unr_len, sets_len]; have := vg.1; omega
    simp only [if_true, if_neg hlen]; exact evNow _
theorem encode_is (ss : List Sh) (u : Int) (hI : InS ss) (h : vScheme ss = true) (hu : (Lit.int .i64 u).wf = true) : Ev (fun k => code_encode.f k ss u) ((encC (cs ss) u).getD []) := by
 obtain ⟨h1, h2, _⟩ := vScheme_facts h; have := encode_loop ss u hI h1 h2 hu ss.length 0 (by omega); rw [List.drop_zero] at this; exact this
theorem enc_range {ss : List Sh} (h : vScheme ss = true) {u : Int} {x : List Int} (he : encC (cs ss) u = some x) : (0 ≤ u ∧ u ≤ 1073741823) ∧ (∀ b ∈ x, 0 ≤ b ∧ b ≤ 255) ∧ 1 ≤ x.length ∧ x.length ≤ 8 := by
 obtain ⟨h1, h2, _, h4⟩ := vScheme_facts h; obtain ⟨p, hp, hh, rfl⟩ := encC_mem he; obtain ⟨q, hq, rfl⟩ := List.mem_map.1 hp; have vg := vShape_good (h2 q hq); have h' := hitC_iff.1 hh; have e1 : (C q).2 = q.f1 ∧ (C q).1 = sets q.f0 := ⟨rfl, rfl⟩; rw [e1.1, e1.2] at h'; rw [e1.1, e1.2]; refine ⟨by omega, unr_range vg.2.2.2.1 (by omega) h'.2, ?_⟩; rw [unr_len, sets_len]; exact vg.1
end Go.Proofs.Ytkcklnmbeinfkaa.PBS
end
section
namespace Go.Proofs.Ytkcklnmbeinfkaa.PB4
open Go.RowKit Go.Proofs.YtkcklnmbeinfkaaW.PrintWords Go.Proofs.YtkcklnmbeinfkaaW.PrintLast Go.Proofs.YtkcklnmbeinfkaaW.PrintMore Go.Proofs.Ytkcklnmbeinfkaa.B Go.Proofs.LT
set_option linter.unusedVariables false
set_option linter.unusedSimpArgs false
def cnt (l : List Int) (x : Int) : Nat := l.countP fun y => decide (y ≤ x)
theorem cnt_nil (x : Int) : cnt [] x = 0 := rfl
theorem cnt_cons (y : Int) (l : List Int) (x : Int) : cnt (y :: l) x = cnt l x + if y ≤ x then 1 else 0 := by
 unfold cnt; rw [List.countP_cons]; simp
theorem cnt_pos {l : List Int} {x : Int} (h : 0 < cnt l x) : ∃ y ∈ l, y ≤ x := by
 unfold cnt at h; obtain ⟨y, hy, h⟩ := List.countP_pos_iff.1 h; exact ⟨y, hy, by simpa using h⟩
attribute [irreducible] cnt
end Go.Proofs.Ytkcklnmbeinfkaa.PB4
end
section
namespace Go.Proofs.Ytkcklnmbeinfkaa.PB4
open Go.RowKit Go.Proofs.YtkcklnmbeinfkaaW.PrintWords Go.Proofs.YtkcklnmbeinfkaaW.PrintLast Go.Proofs.YtkcklnmbeinfkaaW.PrintMore Go.Proofs.Ytkcklnmbeinfkaa.B Go.Proofs.LT
set_option linter.unusedVariables false
set_option linter.unusedSimpArgs false
theorem refValid_loop (N : Nat) (hN : N ≤ 8796093022206) : ∀ (t q : List S102) (p : S102), (q ++ p :: t).length ≤ N → p.f1 ≤ 1073741823 → 0 ≤ p.f1 → Ev (fun k => leadtrailref04_Valid.l0 k (q ++ p :: t) ((q.length : Int) + 1)) (validB 1073741823 p.f1 (t.map L102))
 | [], q, p, _, _, _ => by
  refine evSucc ?_; have hlc := len_cons q p []; have c1 : ¬ (q.length : Int) + 1 < ((q ++ [p]).length : Nat) := by rw [hlc]; simp
  simp only [leadtrailref04_Valid.l0, if_neg c1]; rw [show validB 1073741823 p.f1 (([] : List S102).map L102) = true from validB_nil _ _]; exact evNow _
 | r :: t, q, p, hl, hp, hp0 => by
  have hlc := len_cons q p (r :: t); have e1 : q ++ p :: r :: t = (q ++ [p]) ++ r :: t := by simp
  have e2 : ((q.length : Int) + 1) = ((q ++ [p]).length : Nat) := by simp
  have rr : rd_T102 (q ++ p :: r :: t) ((q.length : Int) + 1) = r := by rw [e1, e2]; exact rd102 _ _ _
  have rp : rd_T102 (q ++ p :: r :: t) (q.length : Int) = p := rd102 _ _ _; have hq : q.length ≤ N := by simp at hl; omega
  have c1 : (q.length : Int) + 1 < ((q ++ p :: r :: t).length : Nat) := by rw [hlc]; simp; omega
  have c2 : (0 : Int) ≤ (q.length : Int) + 1 := by omega
  have c3 : (q.length : Int) + 1 > 0 := by omega
  have c4 : (0 : Int) ≤ (q.length : Int) := by omega
  have c5 : (q.length : Int) < ((q ++ p :: r :: t).length : Nat) := by omega
  have hw1 : Aside0 (wrap64 ((q.length : Int) + 1 - 1) = (q.length : Int)) := Aside0.mk (by rw [w64 (by omega) (by omega)]; omega); have hw2 : Aside0 (wrap64 ((q.length : Int) + 1 + 1) = (q.length : Int) + 1 + 1) := Aside0.mk (w64 (by omega) (by omega)); have hw3 : Aside0 (wrap64 (p.f1 + 1) = p.f1 + 1) := Aside0.mk (w64 (by omega) (by omega)); refine evSucc ?_; simp only [leadtrailref04_Valid.l0, if_pos c1, if_pos c2, if_pos c3, rr, hw1.out, hw2.out, hw3.out, if_pos c4, if_pos c5, rp, List.map_cons, validB_cons]; show Ev _ (if r.f0 < 0 then false else if r.f0 > r.f1 then false else if r.f1 > 1073741823 then false else if r.f0 - 1 ≤ p.f1 then false else validB 1073741823 r.f1 (t.map L102)); by_cases d1 : r.f0 < 0
  ·simp only [if_pos d1]; exact evNow _
  by_cases d2 : r.f0 > r.f1
  ·simp only [if_neg d1, if_pos d2]; exact evNow _
  by_cases d3 : r.f1 > 1073741823
  ·simp only [if_neg d1, if_neg d2, if_pos d3]; exact evNow _
  by_cases d4 : r.f0 ≤ p.f1 + 1
  ·simp only [if_neg d1, if_neg d2, if_neg d3, if_pos d4, if_pos (show r.f0 - 1 ≤ p.f1 by omega)]; exact evNow _
  ·have ih := refValid_loop N hN t (q ++ [p]) r (by rw [← e1]; exact hl) (by omega) (by omega); rw [← e1, ← e2] at ih; simp only [if_neg d1, if_neg d2, if_neg d3, if_neg d4, if_neg (show ¬ r.f0 - 1 ≤ p.f1 by omega)]; exact ih
theorem refValid_is (l : List S102) (hl : l.length * 16 ≤ 140737488351232) : Ev (fun k => leadtrailref04_Valid.f k l) (validB 1073741823 (-2) (l.map L102)) := by
 simp only [leadtrailref04_Valid.f]; cases l with
 | nil =>
  refine evSucc ?_; simp only [leadtrailref04_Valid.l0, List.length_nil, if_neg (show ¬ (0 : Int) < ((0 : Nat) : Int) by omega), List.map_nil, validB_nil]; exact evNow _
 | cons r t =>
  have c1 : (0 : Int) < (((r :: t).length : Nat) : Int) := by rw [List.length_cons]; omega
  have r1 : rd_T102 (r :: t) 0 = r := rfl; have hw : Aside0 (wrap64 ((0 : Int) + 1) = 1) := Aside0.mk (by rw [w64 (by omega) (by omega)]; rfl); refine evSucc ?_; simp only [leadtrailref04_Valid.l0, if_pos c1, if_pos (show (0 : Int) ≤ 0 by omega), r1, if_neg (show ¬ (0 : Int) > 0 by omega), hw.out, List.map_cons, validB_cons]; show Ev _ (if r.f0 < 0 then false else if r.f0 > r.f1 then false else if r.f1 > 1073741823 then false else if r.f0 - 1 ≤ -2 then false else validB 1073741823 r.f1 (t.map L102)); by_cases d1 : r.f0 < 0
  ·simp only [if_pos d1]; exact evNow _
  by_cases d2 : r.f0 > r.f1
  ·simp only [if_neg d1, if_pos d2]; exact evNow _
  by_cases d3 : r.f1 > 1073741823
  ·simp only [if_neg d1, if_neg d2, if_pos d3]; exact evNow _
  simp only [if_neg d1, if_neg d2, if_neg d3, if_neg (show ¬ r.f0 - 1 ≤ -2 by omega)]; exact refValid_loop (r :: t).length (by omega) t [] r (by simp) (by omega) (by omega)
theorem refSet_is (l : List S102) (hl : l.length * 16 ≤ 140737488351232) : ∃ t, Ev (fun k => leadtrailref04_set.f k l) t ∧ t.map L102 = setL 1073741823 (l.map L102) := by
 have h := refValid_is l hl; by_cases d : validB 1073741823 (-2) (l.map L102) = true
 ·refine ⟨l, Ev.bind h ?_, by unfold setL; rw [if_pos d]⟩; simp only [if_pos d]; exact evNow _
 ·refine ⟨[], Ev.bind h ?_, by unfold setL; rw [if_neg d]; rfl⟩; simp only [if_neg d]; exact evNow _
theorem refSet_facts {l : List S102} {s : List S102} (h : s.map L102 = setL 1073741823 (l.map L102)) : ValidFrom 1073741823 (-2) (s.map L102) ∧ s.length ≤ 1073741824 := by
 have hv : ValidFrom 1073741823 (-2) (s.map L102) := by rw [h]; exact setL_valid _ _
 have := valid_len' hv (by omega) (by omega); exact ⟨hv, by simpa using this⟩
section
variable (a b : List S102) (both first second : Bool) (cuts : List Int)
end
end Go.Proofs.Ytkcklnmbeinfkaa.PB4
end
section
namespace Go.Proofs.Ytkcklnmbeinfkaa.PBS
open Go.RowKit Go.Proofs.YtkcklnmbeinfkaaW.PrintWords Go.Proofs.YtkcklnmbeinfkaaW.PrintLast Go.Proofs.YtkcklnmbeinfkaaW.PrintMore Go.Proofs.Ytkcklnmbeinfkaa.B Go.Proofs.LT Go.Proofs.Ytkcklnmbeinfkaa.PB3
set_option linter.unusedVariables false
set_option linter.unusedSimpArgs false
def rng (p : Sh) : Ra := ⟨p.f1, lastOf p⟩
theorem shape_b {p : Sh} (h : vShape p.f0 p.f1 = true) : 0 ≤ p.f1 ∧ p.f1 ≤ lastOf p ∧ lastOf p ≤ 1073741823 ∧ cnt (sets p.f0) = lastOf p - p.f1 + 1 ∧ 1 ≤ cnt (sets p.f0) ∧ p.f0.all okPart = true ∧ p.f0.length ≤ 8 := by
 obtain ⟨h1, h2, h3, h4, h5⟩ := vShape_good h; have hc := cnt_pos h4; unfold lastOf; exact ⟨h2.1, by omega, by omega, by omega, hc, h3, h1.2⟩
theorem mem_rng {ss : List Sh} {x : Int} : Mem ((ss.map rng).map PB4.L102) x ↔ Taken ss x := by
 constructor
 ·rintro ⟨r, hr, h1, h2⟩; rw [List.map_map] at hr; obtain ⟨p, hp, rfl⟩ := List.mem_map.1 hr; exact ⟨p, hp, h1, h2⟩
 ·rintro ⟨p, hp, h1, h2⟩; exact ⟨_, List.mem_map.2 ⟨_, List.mem_map.2 ⟨p, hp, rfl⟩, rfl⟩, h1, h2⟩
theorem of_loop (r : List Ra) : ∀ (t pre : List Sh), (pre ++ t).length ≤ 32 → (∀ p ∈ t, In2 p.f0 ∧ vShape p.f0 p.f1 = true) → Ev (fun k => scalars_Norm.f k ((pre ++ t).map rng)) (r, 0, 0) →
 Ev (fun k => repert_Of.l0 k (pre.map rng) (pre ++ t) (((pre ++ t).length : Nat) : Int) (pre.length : Int)) (r, 0)
 | [], pre, _, _, hn => by
  refine evSucc ?_; rw [List.append_nil] at hn ⊢; simp only [repert_Of.l0, if_neg (show ¬ ((pre.length : Nat) : Int) < ((pre.length : Nat) : Int) by omega)]; exact Ev.bind hn (evNow _)
 | p :: t, pre, hl, hp, hn => by
  have hlc := len_cons pre p t; have hpl : pre.length ≤ 32 := by simp at hl; omega
  obtain ⟨hi, hv⟩ := hp p List.mem_cons_self; obtain ⟨b1, b2, b3, b4, b5, _, _⟩ := shape_b hv; have ih := of_loop r t (pre ++ [p]) (by rw [app_snoc]; exact hl) (fun q hq => hp q (List.mem_cons_of_mem _ hq)) (by rw [app_snoc]; exact hn); rw [app_snoc, snoc_len, List.map_append, List.map_singleton] at ih; have c1 : (pre.length : Int) < ((pre ++ p :: t).length : Nat) := by rw [hlc]; omega
  have c2 : (0 : Int) ≤ pre.length := by omega
  have hw : Aside0 (wrap64 ((pre.length : Int) + 1) = (pre.length : Int) + 1) := Aside0.mk (w64 (by omega) (by omega)); have w2 : Aside0 (wrap64 (wrap64 (p.f1 + cnt (sets p.f0)) - 1) = lastOf p) := Aside0.mk (by rw [w64 (x := p.f1 + cnt (sets p.f0)) (by omega) (by omega), w64 (by omega) (by omega)]; unfold lastOf; rfl); refine evSucc ?_; simp only [repert_Of.l0, if_pos c1, if_pos c2, rdSh]; have hcnt := Count_is p.f0 p.f1 hi; rw [if_pos hv] at hcnt; refine Ev.bind hcnt ?_; simp only [w2.out, hw.out, if_pos (show (pre.map rng).length < 8796093022208 by rw [List.length_map]; omega)]; exact ih
theorem rng_ok {ss : List Sh} (hv : ∀ p ∈ ss, vShape p.f0 p.f1 = true) : (ss.map rng).findIdx? PB4.scalars_badP = none := by
 rw [List.findIdx?_eq_none_iff]; intro r hr; obtain ⟨p, hp, rfl⟩ := List.mem_map.1 hr; obtain ⟨b1, b2, b3, _⟩ := shape_b (hv p hp); show (decide (p.f1 < 0) || decide (p.f1 > lastOf p) || decide (lastOf p > 1073741823)) = false; simp only [Bool.or_eq_false_iff, decide_eq_false_iff_not]; exact ⟨⟨by omega, by omega⟩, by omega⟩
def OfSpec (ss : List Sh) (r : List Ra × Int) : Prop := (vScheme ss = false ∧ r = ([], 84)) ∨ (vScheme ss = true ∧ r.2 = 0 ∧ PB4.scalars_IsSet r.1 (Taken ss))
theorem Of_is (ss : List Sh) (hI : InS ss) : ∃ r, Ev (fun k => repert_Of.f k ss) r ∧ OfSpec ss r := by
 have hval := schemeValid_is ss hI; cases hv : vScheme ss
 ·refine ⟨([], 84), ?_, .inl ⟨hv, rfl⟩⟩; rw [hv] at hval; simp only [repert_Of.f]; refine Ev.bind hval ?_; simp only [Bool.false_eq_true, if_false]; exact evNow _
 ·obtain ⟨h1, h2, _⟩ := vScheme_facts hv; obtain ⟨r, r1, r2⟩ := (PB4.scalars_Norm_is (ss.map rng) (by rw [List.length_map]; omega)).2 (rng_ok h2); refine ⟨(r, 0), ?_, .inr ⟨hv, rfl, ?_⟩⟩
  ·rw [hv] at hval; simp only [repert_Of.f]; refine Ev.bind hval ?_; simp only [if_true]; have := of_loop r ss [] (by simpa using h1) (fun p hp => ⟨hI.2 p hp, h2 p hp⟩) (by simpa using r1); simpa using this
  ·exact ⟨r2.1, r2.2.1, fun x => (r2.2.2 x).trans mem_rng⟩
end Go.Proofs.Ytkcklnmbeinfkaa.PBS
end
section
namespace Go.Proofs.Ytkcklnmbeinfkaa.PBS
open Go.RowKit Go.Proofs.YtkcklnmbeinfkaaW.PrintWords Go.Proofs.YtkcklnmbeinfkaaW.PrintLast Go.Proofs.YtkcklnmbeinfkaaW.PrintMore Go.Proofs.Ytkcklnmbeinfkaa.B Go.Proofs.LT Go.Proofs.Ytkcklnmbeinfkaa.PB3
set_option linter.unusedVariables false
set_option linter.unusedSimpArgs false
theorem vS_iff2 : ∀ (t pre : List Sh), vS pre t = true → t.Pairwise (fun a b => meetsB b a = false)
 | [], pre, _ => List.Pairwise.nil
 | p :: t, pre, h => by
  simp only [vS, Bool.and_eq_true, Bool.not_eq_true'] at h; refine List.pairwise_cons.2 ⟨fun q hq => ?_, vS_iff2 t _ h.2.2⟩; exact (vS_facts t (pre ++ [p]) h.2.2).2.1 p (by simp) q hq
def PickInv (ss : List Sh) (lo : Int) (i : Nat) (best : Int) : Prop :=
 (best = -1 ∧ ∀ j (hj : j < ss.length), j < i → ¬ lo < ss[j].f1) ∨ (∃ b, ∃ hb : b < ss.length, best = (b : Int) ∧ b < i ∧ lo < ss[b].f1 ∧ ∀ j (hj : j < ss.length), j < i → lo < ss[j].f1 → ss[b].f1 ≤ ss[j].f1)
theorem PickInv.skip {ss : List Sh} {lo best : Int} {i : Nat} (hi : i < ss.length) (h : PickInv ss lo i best) (hn : ¬ lo < ss[i].f1) : PickInv ss lo (i + 1) best := by
 rcases h with ⟨h1, h2⟩ | ⟨b, hb, h1, h2, h3, h4⟩
 ·refine .inl ⟨h1, fun j hj hji => ?_⟩; rcases (by omega : j < i ∨ j = i) with q | rfl
  ·exact h2 j hj q
  ·exact hn
 ·refine .inr ⟨b, hb, h1, by omega, h3, fun j hj hji hlo => ?_⟩; rcases (by omega : j < i ∨ j = i) with q | rfl
  ·exact h4 j hj q hlo
  ·exact (hn hlo).elim
theorem PickInv.first {ss : List Sh} {lo : Int} {i : Nat} (hi : i < ss.length) (h : PickInv ss lo i (-1)) (hn : lo < ss[i].f1) : PickInv ss lo (i + 1) (i : Int) := by
 rcases h with ⟨h1, h2⟩ | ⟨b, hb, h1, h2, h3, h4⟩
 ·refine .inr ⟨i, hi, rfl, by omega, hn, fun j hj hji hlo => ?_⟩; rcases (by omega : j < i ∨ j = i) with q | rfl
  ·exact (h2 j hj q hlo).elim
  ·exact Int.le_refl _
 ·omega
end Go.Proofs.Ytkcklnmbeinfkaa.PBS
end
section
namespace Go.Proofs.Ytkcklnmbeinfkaa.PBS
open Go.RowKit Go.Proofs.YtkcklnmbeinfkaaW.PrintWords Go.Proofs.YtkcklnmbeinfkaaW.PrintLast Go.Proofs.YtkcklnmbeinfkaaW.PrintMore Go.Proofs.Ytkcklnmbeinfkaa.B Go.Proofs.LT Go.Proofs.Ytkcklnmbeinfkaa.PB3
set_option linter.unusedVariables false
set_option linter.unusedSimpArgs false
theorem fixed25 : Ev (fun k => leadtraillaw25_fixed.f k) true := Ev.of (k := 60) (fun k => leadtraillaw25_fixed.mono k) (by kernel_rfl)
def BothSpec (a b : List Sh) (p : Int → Prop) (r : List Ra × Int) : Prop := (¬ (vScheme a = true ∧ vScheme b = true) ∧ r = ([], 84)) ∨ (r.2 = 0 ∧ PB4.scalars_IsSet r.1 p ∧ vScheme a = true ∧ vScheme b = true)
theorem BothSpec.uniq {a b : List Sh} {p : Int → Prop} {r s : List Ra × Int} (h : BothSpec a b p r) (g : BothSpec a b p s) : r = s := by
 rcases h with ⟨h1, rfl⟩ | ⟨h1, h2, h3, h4⟩
 ·rcases g with ⟨_, rfl⟩ | ⟨_, _, g3, g4⟩
  ·rfl
  ·exact (h1 ⟨g3, g4⟩).elim
 ·rcases g with ⟨g1, _⟩ | ⟨g1, g2, _, _⟩
  ·exact (g1 ⟨h3, h4⟩).elim
  ·obtain ⟨r1, r2⟩ := r; obtain ⟨s1, s2⟩ := s; have e1 : r1 = s1 := PB4.scalars_IsSet.uniq h2 g2 (fun _ => Iff.rfl); have e2 : r2 = s2 := h1.trans g1.symm; rw [e1, e2]
theorem set_ok {l : List Ra} {p : Int → Prop} (h : PB4.scalars_IsSet l p) : PB4.setL 1073741823 (l.map PB4.L102) = l.map PB4.L102 := PB4.setL_of h.1
theorem both_is (a b : List Sh) (ha : InS a) (hb : InS b) : ∃ r, Ev (fun k => repert_both.f k a b) r ∧ BothSpec a b (fun x => Taken a x ∧ Taken b x) r := by
 obtain ⟨u, u1, u2⟩ := Of_is a ha; obtain ⟨v, v1, v2⟩ := Of_is b hb; simp only [repert_both.f]; rcases u2 with ⟨h, rfl⟩ | ⟨h, e, hs⟩
 ·refine ⟨([], 84), Ev.bind u1 ?_, .inl ⟨fun q => (by rw [h] at q; cases q.1), rfl⟩⟩; simp only [if_neg (show ¬ (84 : Int) = 0 by omega)]; exact evNow _
 ·rcases v2 with ⟨h', rfl⟩ | ⟨h', e', hs'⟩
  ·refine ⟨([], 84), Ev.bind u1 ?_, .inl ⟨fun q => (by rw [h'] at q; cases q.2), rfl⟩⟩; simp only [if_pos e]; refine Ev.bind v1 ?_; simp only [if_neg (show ¬ (84 : Int) = 0 by omega)]; exact evNow _
  ·obtain ⟨m, m1, m2⟩ := PB4.scalars_Meet_is u.1 v.1 (by have := hs.2.1; omega) (by have := hs'.2.1; omega); refine ⟨(m, 0), Ev.bind u1 ?_, .inr ⟨rfl, ⟨m2.1, m2.2.1, fun x => (m2.2.2 x).trans ?_⟩, h, h'⟩⟩
   ·simp only [if_pos e]; refine Ev.bind v1 ?_; simp only [if_pos e']; exact Ev.bind m1 (evNow _)
   ·rw [set_ok hs, set_ok hs']; have e1 := hs.2.2 x; have e2 := hs'.2.2 x; simp only [e1, e2]
theorem bothM_is (a b : List Sh) (ha : InS a) (hb : InS b) : ∃ r, Ev (fun k => repert_bothM.f k a b) r ∧ BothSpec a b (fun x => Taken a x ∧ ¬ Taken b x) r := by
 obtain ⟨u, u1, u2⟩ := Of_is a ha; obtain ⟨v, v1, v2⟩ := Of_is b hb; simp only [repert_bothM.f]; rcases u2 with ⟨h, rfl⟩ | ⟨h, e, hs⟩
 ·refine ⟨([], 84), Ev.bind u1 ?_, .inl ⟨fun q => (by rw [h] at q; cases q.1), rfl⟩⟩; simp only [if_neg (show ¬ (84 : Int) = 0 by omega)]; exact evNow _
 ·rcases v2 with ⟨h', rfl⟩ | ⟨h', e', hs'⟩
  ·refine ⟨([], 84), Ev.bind u1 ?_, .inl ⟨fun q => (by rw [h'] at q; cases q.2), rfl⟩⟩; simp only [if_pos e]; refine Ev.bind v1 ?_; simp only [if_neg (show ¬ (84 : Int) = 0 by omega)]; exact evNow _
  ·obtain ⟨m, m1, m2⟩ := PB4.scalars_Minus_is u.1 v.1 (by have := hs.2.1; omega) (by have := hs'.2.1; omega); refine ⟨(m, 0), Ev.bind u1 ?_, .inr ⟨rfl, ⟨m2.1, m2.2.1, fun x => (m2.2.2 x).trans ?_⟩, h, h'⟩⟩
   ·simp only [if_pos e]; refine Ev.bind v1 ?_; simp only [if_pos e']; exact Ev.bind m1 (evNow _)
   ·rw [set_ok hs, set_ok hs']; have e1 := hs.2.2 x; have e2 := hs'.2.2 x; simp only [e1, e2]
theorem Common25_is (a b : List Sh) (ha : InS a) (hb : InS b) : ∃ r, Ev (fun k => repert_Common.f k a b) r ∧ BothSpec a b (fun x => Taken a x ∧ Taken b x) r := by
 obtain ⟨r, r1, r2⟩ := both_is a b ha hb; exact ⟨r, by simp only [repert_Common.f]; exact Ev.bind r1 (evNow _), r2⟩
theorem Missing25_is (a b : List Sh) (ha : InS a) (hb : InS b) : ∃ r, Ev (fun k => repert_Missing.f k a b) r ∧ BothSpec a b (fun x => Taken a x ∧ ¬ Taken b x) r := by
 obtain ⟨r, r1, r2⟩ := bothM_is a b ha hb; exact ⟨r, by simp only [repert_Missing.f]; exact Ev.bind r1 (evNow _), r2⟩
theorem BothSpec.len {a b : List Sh} {p : Int → Prop} {r : List Ra × Int} (h : BothSpec a b p r) : r.1.length * 16 ≤ 140737488351232 := by
 rcases h with ⟨_, rfl⟩ | ⟨_, h, _⟩
 ·show 0 * 16 ≤ _; omega
 ·have := h.2.1; omega
end Go.Proofs.Ytkcklnmbeinfkaa.PBS
namespace Go.Proofs.Ytkcklnmbeinfkaa.Pure
open Go.Proofs.Ytkcklnmbeinfkaa.B Go.Proofs.YtkcklnmbeinfkaaW.PrintWords
end Go.Proofs.Ytkcklnmbeinfkaa.Pure
end
section
namespace Go.Proofs.Ytkcklnmbeinfkaa.PBS
open Go.RowKit Go.Proofs.YtkcklnmbeinfkaaW.PrintWords Go.Proofs.YtkcklnmbeinfkaaW.PrintLast Go.Proofs.YtkcklnmbeinfkaaW.PrintMore Go.Proofs.Ytkcklnmbeinfkaa.B Go.Proofs.LT Go.Proofs.Ytkcklnmbeinfkaa.PB3
set_option linter.unusedVariables false
set_option linter.unusedSimpArgs false
def encR : Option (List Int) → List Int × Int
 | some b => (b, 0)
 | none => ([], 100)
noncomputable def encS (ss : List Sh) (u : Int) : List Int × Int := if vScheme ss = true then encR (encC (cs ss) u) else ([], 84)
theorem Encode_is (ss : List Sh) (u : Int) (hI : InS ss) (hu : (Lit.int .i64 u).wf = true) : Ev (fun k => code_Encode.f k ss u) (encS ss u) := by
 simp only [code_Encode.f]; refine Ev.bind (schemeValid_is ss hI) ?_; unfold encS; cases h : vScheme ss
 ·simp only [Bool.false_eq_true, if_false]; exact evNow _
 ·simp only [if_true]; refine Ev.bind (encode_is ss u hI h hu) ?_; cases he : encC (cs ss) u with
  | none => simp only [Option.getD_none, List.length_nil, encR]; rw [if_pos (by rfl)]; exact evNow _
  | some b =>
   have := (enc_range h he).2.2; simp only [Option.getD_some, encR, if_neg (show ¬ (b.length : Int) = 0 by omega)]; exact evNow _
def one1 (lo hi : Int) : List Sp := [⟨lo, hi⟩]
theorem one_valid {lo hi : Int} (h0 : 0 ≤ lo) (h1 : lo ≤ hi) (h2 : hi ≤ 255) : ValidFrom 255 (-2) (runs (one1 lo hi)) := ⟨h0, h1, h2, by show (-2 : Int) < lo - 1; omega, trivial⟩
theorem one_size (lo hi : Int) : size (runs (one1 lo hi)) = hi - lo + 1 := by
 show size [(lo, hi)] = _; rw [size_cons, size_nil]; omega
theorem one_ok {lo hi : Int} (h0 : 0 ≤ lo) (h1 : lo ≤ hi) (h2 : hi ≤ 255) : okPart (one1 lo hi) = true := by
 simp only [okPart, (validB_iff _ _ _).2 (one_valid h0 h1 h2)]; rfl
def some10 : List Sh := [⟨[one1 194 223, one1 128 191], 128⟩, ⟨[one1 0 127], 0⟩]
theorem c10a : cnt (sets [one1 194 223, one1 128 191]) = 1920 := by
 show cnt [runs (one1 194 223), runs (one1 128 191)] = 1920; rw [cnt_cons, cnt_cons, cnt_nil, one_size, one_size]; rfl
theorem c10b : cnt (sets [one1 0 127]) = 128 := by
 show cnt [runs (one1 0 127)] = 128; rw [cnt_cons, cnt_nil, one_size]; rfl
theorem v10 : vScheme some10 = true := by
 have h1 : vShape [one1 194 223, one1 128 191] 128 = true := by
  unfold vShape; rw [c10a]; simp [one_ok (show (0 : Int) ≤ 194 by decide) (show (194 : Int) ≤ 223 by decide) (by decide), one_ok (show (0 : Int) ≤ 128 by decide) (show (128 : Int) ≤ 191 by decide) (by decide)]
 have h2 : vShape [one1 0 127] 0 = true := by
  unfold vShape; rw [c10b]; simp [one_ok (show (0 : Int) ≤ 0 by decide) (show (0 : Int) ≤ 127 by decide) (by decide)]
 have h3 : meetsB ⟨[one1 0 127], 0⟩ ⟨[one1 194 223, one1 128 191], 128⟩ = false := by
  simp only [meetsB, lastOf, c10a, c10b]; decide
 show (decide (2 ≤ 32) && (vShape [one1 194 223, one1 128 191] 128 && (!([] : List Sh).any (meetsB _) && (vShape [one1 0 127] 0 && (!([⟨[one1 194 223, one1 128 191], 128⟩] : List Sh).any (meetsB ⟨[one1 0 127], 0⟩) && true))))) = true; rw [h1, h2]; simp [h3]
end Go.Proofs.Ytkcklnmbeinfkaa.PBS
end
section
namespace Go.Proofs.Ytkcklnmbeinfkaa.PB4
open Go.RowKit Go.Proofs.YtkcklnmbeinfkaaW.PrintWords Go.Proofs.YtkcklnmbeinfkaaW.PrintLast Go.Proofs.YtkcklnmbeinfkaaW.PrintMore Go.Proofs.Ytkcklnmbeinfkaa.B Go.Proofs.LT
set_option linter.unusedVariables false
set_option linter.unusedSimpArgs false
theorem refHas_loop (N : Nat) (hN : N ≤ 1073741824) (x : Int) : ∀ (t pre : List S102), (pre ++ t).length ≤ N → Ev (fun k => leadtrailref04_Has.l0 k x (pre.length : Int) (pre ++ t)) (memB (t.map L102) x)
 | [], pre, _ => by
  refine evSucc ?_; simp only [leadtrailref04_Has.l0]; rw [List.append_nil]; simp only [if_neg (show ¬ ((pre.length : Nat) : Int) < ((pre.length : Nat) : Int) by omega)]; simpa [memB] using evNow false
 | r :: t, pre, hl => by
  have hlc := len_cons pre r t; have hpl : pre.length ≤ N := by simp at hl; omega
  have hw : Aside0 (wrap64 ((pre.length : Int) + 1) = (pre.length : Int) + 1) := Aside0.mk (w64 (by omega) (by omega)); have c1 : (pre.length : Int) < ((pre ++ r :: t).length : Nat) := by rw [hlc]; omega
  have c2 : (0 : Int) ≤ pre.length := by omega
  have ih := refHas_loop N hN x t (pre ++ [r]) (by rw [app_snoc]; exact hl); rw [app_snoc, snoc_len] at ih; have e : memB ((r :: t).map L102) x = ((decide (r.f0 ≤ x) && decide (x ≤ r.f1)) || memB (t.map L102) x) := by
   rw [Bool.eq_iff_iff]; simp only [List.map_cons, memB_iff, mem_cons, Bool.or_eq_true, Bool.and_eq_true, decide_eq_true_iff]; rfl
  rw [e]; refine evSucc ?_; simp only [leadtrailref04_Has.l0, if_pos c1, if_pos c2, rd102, hw.out]; by_cases d1 : x ≥ r.f0
  ·simp only [if_pos d1]; by_cases d2 : x ≤ r.f1
   ·simp only [if_pos d2]; rw [decide_eq_true (show r.f0 ≤ x from d1), decide_eq_true d2]; exact evNow _
   ·simp only [if_neg d2]; rw [decide_eq_false d2, Bool.and_false, Bool.false_or]; exact ih
  ·simp only [if_neg d1]; rw [decide_eq_false (show ¬ r.f0 ≤ x from d1), Bool.false_and, Bool.false_or]; exact ih
theorem refHas_is (l : List S102) (x : Int) (hl : l.length * 16 ≤ 140737488351232) : Ev (fun k => leadtrailref04_Has.f k l x) (memB (setL 1073741823 (l.map L102)) x) := by
 obtain ⟨s, h1, h2⟩ := refSet_is l hl; obtain ⟨hv, hn⟩ := refSet_facts h2; rw [← h2]; refine Ev.bind h1 ?_; exact refHas_loop s.length hn x s [] (by simp)
theorem refSize_loop (N : Nat) (hN : N ≤ 1073741824) : ∀ (t pre : List S102) (last acc : Int), (pre ++ t).length ≤ N → ValidFrom 1073741823 last (t.map L102) → 0 ≤ acc → acc + size (t.map L102) ≤ 4294967296 →
 Ev (fun k => leadtrailref04_Size.l0 k acc (pre.length : Int) (pre ++ t)) (acc + size (t.map L102))
 | [], pre, last, acc, _, _, _, _ => by
  refine evSucc ?_; simp only [leadtrailref04_Size.l0]; rw [List.append_nil]; simp only [if_neg (show ¬ ((pre.length : Nat) : Int) < ((pre.length : Nat) : Int) by omega)]; simpa [size_nil] using evNow acc
 | r :: t, pre, last, acc, hl, hv, h0, h1 => by
  have hlc := len_cons pre r t; have hs := size_nonneg hv.2.2.2.2; have e1 : size ((r :: t).map L102) = (r.f1 - r.f0 + 1) + size (t.map L102) := size_cons _ _; have v0 : 0 ≤ r.f0 := hv.1; have v1 : r.f0 ≤ r.f1 := hv.2.1; have v2 : r.f1 ≤ 1073741823 := hv.2.2.1; have ih := refSize_loop N hN t (pre ++ [r]) r.f1 (acc + (r.f1 - r.f0 + 1)) (by rw [app_snoc]; exact hl) hv.2.2.2.2 (by omega) (by omega); rw [app_snoc, snoc_len] at ih; refine evSucc ?_; have hw : Aside0 (wrap64 ((pre.length : Int) + 1) = (pre.length : Int) + 1) := Aside0.mk (w64 (by omega) (by simp at hl; omega)); have c1 : (pre.length : Int) < ((pre ++ r :: t).length : Nat) := by rw [hlc]; omega
  have c2 : (0 : Int) ≤ pre.length := by omega
  have w1 : Aside0 (wrap64 (r.f1 - r.f0) = r.f1 - r.f0) := Aside0.mk (w64 (by omega) (by omega)); have w2 : Aside0 (wrap64 (r.f1 - r.f0 + 1) = r.f1 - r.f0 + 1) := Aside0.mk (w64 (by omega) (by omega)); have w3 : Aside0 (wrap64 (acc + (r.f1 - r.f0 + 1)) = acc + (r.f1 - r.f0 + 1)) := Aside0.mk (w64 (by omega) (by omega)); simp only [leadtrailref04_Size.l0, if_pos c1, if_pos c2, rd102, hw.out, w1.out, w2.out, w3.out]; have e2 : acc + size ((r :: t).map L102) = acc + (r.f1 - r.f0 + 1) + size (t.map L102) := by omega
  rw [e2]; exact ih
theorem refSize_is (l : List S102) (hl : l.length * 16 ≤ 140737488351232) : Ev (fun k => leadtrailref04_Size.f k l) (size (setL 1073741823 (l.map L102))) := by
 obtain ⟨s, h1, h2⟩ := refSet_is l hl; obtain ⟨hv, hn⟩ := refSet_facts h2; rw [← h2]; refine Ev.bind h1 ?_; have h := refSize_loop s.length hn s [] (-2) 0 (by simp) hv (by omega) (by have := valid_top hv (by omega); omega); simpa using h
end Go.Proofs.Ytkcklnmbeinfkaa.PB4
end
section
namespace Go.Proofs.Ytkcklnmbeinfkaa.PBS
open Go.RowKit Go.Proofs.YtkcklnmbeinfkaaW.PrintWords Go.Proofs.YtkcklnmbeinfkaaW.PrintLast Go.Proofs.YtkcklnmbeinfkaaW.PrintMore Go.Proofs.Ytkcklnmbeinfkaa.B Go.Proofs.LT Go.Proofs.Ytkcklnmbeinfkaa.PB3
set_option linter.unusedVariables false
set_option linter.unusedSimpArgs false
def tot : List Sh → Int
 | [] => 0
 | p :: t => cnt (sets p.f0) + tot t
theorem tot_append : ∀ a b : List Sh, tot (a ++ b) = tot a + tot b
 | [], b => by simp [tot]
 | p :: a, b => by
  show cnt (sets p.f0) + tot (a ++ b) = cnt (sets p.f0) + tot a + tot b; rw [tot_append a b]; omega
def takB (ss : List Sh) (x : Int) : Bool := ss.any fun p => decide (p.f1 ≤ x) && decide (x ≤ lastOf p)
theorem takB_iff {ss : List Sh} {x : Int} : takB ss x = true ↔ Taken ss x := by
 simp [takB, Taken]
theorem cd_tak : ∀ (ss : List Sh), (∀ p ∈ ss, vShape p.f0 p.f1 = true) → ss.Pairwise (fun p q => lastOf p < q.f1 ∨ lastOf q < p.f1) → (cd (takB ss) 1073741824 : Int) = tot ss
 | [], _, _ => by
  have : cd (takB []) 1073741824 = 0 := (cd_congr (fun _ _ _ => rfl)).trans (cd_false _); rw [this]; rfl
 | p :: t, hv, hw => by
  have ih := cd_tak t (fun q hq => hv q (List.mem_cons_of_mem _ hq)) (List.pairwise_cons.1 hw).2; obtain ⟨b1, b2, b3, b4, b5, _, _⟩ := shape_b (hv p List.mem_cons_self); have h := cd_add (fun x => decide (p.f1 ≤ x) && decide (x ≤ lastOf p)) (takB t) 1073741824; have hand : cd (fun i => (decide (p.f1 ≤ i) && decide (i ≤ lastOf p)) && takB t i) 1073741824 = 0 := by
   refine (cd_congr (q := fun _ => false) (fun i _ _ => ?_)).trans (cd_false _); cases hc : takB t i
   ·simp
   ·obtain ⟨q, hq, e1, e2⟩ := takB_iff.1 hc; have := (List.pairwise_cons.1 hw).1 q hq; rcases this with e | e
    ·rw [decide_eq_false (show ¬ i ≤ lastOf p by omega)]; simp
    ·rw [decide_eq_false (show ¬ p.f1 ≤ i by omega)]; simp
  have hor : cd (fun i => (decide (p.f1 ≤ i) && decide (i ≤ lastOf p)) || takB t i) 1073741824 = cd (takB (p :: t)) 1073741824 := rfl; have hint : cd (fun x => decide (p.f1 ≤ x) && decide (x ≤ lastOf p)) 1073741824 = ((lastOf p).toNat + 1) - p.f1.toNat := by
   have hi := cd_interval p.f1.toNat (lastOf p).toNat 1073741824; rw [show ((p.f1.toNat : Nat) : Int) = p.f1 by omega, show (((lastOf p).toNat : Nat) : Int) = lastOf p by omega] at hi; rw [hi]; omega
  show (_ : Int) = cnt (sets p.f0) + tot t; rw [hand, hor, hint] at h; omega
theorem size_tak {ss : List Sh} (hv : vScheme ss = true) {l : List Ra} (hs : PB4.scalars_IsSet l (Taken ss)) : size (l.map PB4.L102) = tot ss := by
 obtain ⟨_, h2, _⟩ := vScheme_facts hv; rw [← cd_size (n := 1073741824) hs.1 (by omega)]; simp only [vScheme, Bool.and_eq_true, decide_eq_true_eq] at hv; have hm := vS_iff2 ss [] hv.2; rw [← cd_tak ss h2 (hm.imp (by
  intro a b h; simp only [meetsB, Bool.and_eq_false_iff, decide_eq_false_iff_not] at h; omega))]
 congr 1
 refine cd_congr (fun i _ _ => ?_); rw [Bool.eq_iff_iff, memB_iff, hs.2.2 i, takB_iff]
theorem tot_le {ss : List Sh} (hv : vScheme ss = true) : tot ss ≤ 1073741824 := by
 obtain ⟨_, h2, _⟩ := vScheme_facts hv; simp only [vScheme, Bool.and_eq_true, decide_eq_true_eq] at hv; have hm := vS_iff2 ss [] hv.2; rw [← cd_tak ss h2 (hm.imp (by
  intro a b h; simp only [meetsB, Bool.and_eq_false_iff, decide_eq_false_iff_not] at h; omega))]
 have := cd_le (takB ss) 1073741824; omega
def PartOf (ss : List Sh) (m : Nat) (x : Int) : Prop := ∃ p ∈ ss, ∃ q ∈ p.f0.take m, Mem (runs q) x
theorem gath_in (m : Int) (ss : List Sh) (i n : Int) (Q : Int → Prop) : ∀ (t pre : List (List Sp)) (acc : List Sp) (P : Int → Prop), (pre ++ t).length ≤ 8 → (∀ q ∈ t, In1 q ∧ okPart q = true) → PB3.spans_IsSet acc P →
 (∀ acc', PB3.spans_IsSet acc' (fun x => P x ∨ ∃ q ∈ t, Mem (runs q) x) → ∃ r, Ev (fun k => repert_gathered.l0 k m acc' ss n (wrap64 (i + 1))) (r, 0) ∧ PB3.spans_IsSet r Q) →
 ∃ r, Ev (fun k => repert_gathered.l1 k m acc ss n i (pre ++ t) (((pre ++ t).length : Nat) : Int) (pre.length : Int)) (r, 0) ∧ PB3.spans_IsSet r Q
 | [], pre, acc, P, _, _, hs, cont => by
  obtain ⟨r, r1, r2⟩ := cont acc ⟨hs.1, hs.2.1, fun x => (hs.2.2 x).trans ⟨.inl, fun h => h.elim id fun ⟨q, hq, _⟩ => by cases hq⟩⟩; refine ⟨r, evSucc ?_, r2⟩; rw [List.append_nil]; simp only [repert_gathered.l1, if_neg (show ¬ ((pre.length : Nat) : Int) < ((pre.length : Nat) : Int) by omega)]; exact r1
 | q :: t, pre, acc, P, hl, hi, hs, cont => by
  have hlc := len_cons pre q t; have hpl : pre.length ≤ 8 := by simp at hl; omega
  obtain ⟨q1, q2⟩ := hi q List.mem_cons_self; obtain ⟨a, a1, a2⟩ := PB3.spans_Union_is acc q (by have := hs.2.1; omega) q1; rw [PB3.setL_of hs.1, show q.map PB3.L113 = runs q from rfl, PB3.setL_of (okPart_good q2).1] at a2; have c1 : (pre.length : Int) < ((pre ++ q :: t).length : Nat) := by rw [hlc]; omega
  have c2 : (0 : Int) ≤ pre.length := by omega
  have hw : wrap64 ((pre.length : Int) + 1) = (pre.length : Int) + 1 := w64 (by omega) (by omega); obtain ⟨r, r1, r2⟩ := gath_in m ss i n Q t (pre ++ [q]) a (fun x => P x ∨ Mem (runs q) x) (by rw [app_snoc]; exact hl) (fun s hs => hi s (List.mem_cons_of_mem _ hs)) ⟨a2.1, a2.2.1, fun x => (a2.2.2 x).trans (or_congr (hs.2.2 x) Iff.rfl)⟩ (fun acc' h => cont acc' ⟨h.1, h.2.1, fun x => (h.2.2 x).trans ⟨fun h => by
   rcases h with (h | h) | ⟨s, hs, h⟩
   ·exact .inl h
   ·exact .inr ⟨q, List.mem_cons_self, h⟩
   ·exact .inr ⟨s, List.mem_cons_of_mem _ hs, h⟩, fun h => by
   rcases h with h2 | ⟨s, hs, h2⟩
   ·exact .inl (.inl h2)
   ·rcases List.mem_cons.1 hs with e | hs
    ·rw [e] at h2; exact .inl (.inr h2)
    ·exact .inr ⟨s, hs, h2⟩⟩⟩)
  rw [app_snoc, snoc_len] at r1; refine ⟨r, evSucc ?_, r2⟩; simp only [repert_gathered.l1, if_pos c1, if_pos c2, rdL, hw]; exact Ev.bind a1 r1
theorem gath_loop (m : Nat) (hm : m ≤ 8) : ∀ (t pre : List Sh) (acc : List Sp), (pre ++ t).length ≤ 32 → (∀ p ∈ t, In2 p.f0 ∧ vShape p.f0 p.f1 = true) → PB3.spans_IsSet acc (PartOf pre m) →
 ∃ r, Ev (fun k => repert_gathered.l0 k (m : Int) acc (pre ++ t) (((pre ++ t).length : Nat) : Int) (pre.length : Int)) (r, 0) ∧ PB3.spans_IsSet r (PartOf (pre ++ t) m)
 | [], pre, acc, _, _, hs => by
  refine ⟨acc, evSucc ?_, by rw [List.append_nil]; exact hs⟩; rw [List.append_nil]; simp only [repert_gathered.l0, if_neg (show ¬ ((pre.length : Nat) : Int) < ((pre.length : Nat) : Int) by omega)]; exact evNow _
 | p :: t, pre, acc, hl, hp, hs => by
  have hlc := len_cons pre p t; have hpl : pre.length ≤ 32 := by simp at hl; omega
  obtain ⟨hi, hv⟩ := hp p List.mem_cons_self; obtain ⟨_, _, _, _, _, hall, hl8⟩ := shape_b hv; have c1 : (pre.length : Int) < ((pre ++ p :: t).length : Nat) := by rw [hlc]; omega
  have c2 : (0 : Int) ≤ pre.length := by omega
  have hw : wrap64 ((pre.length : Int) + 1) = (pre.length : Int) + 1 := w64 (by omega) (by omega); have hmn : mn (m : Int) (p.f0.length : Int) = ((min m p.f0.length : Nat) : Int) := by rw [mn_eq]; omega
  have htk : p.f0.take ((min m p.f0.length : Nat) : Int).toNat = p.f0.take m := by
   rw [Int.toNat_natCast]; exact (List.take_eq_take_iff.2 (by omega))
  have hlt : (p.f0.take m).length ≤ 8 := by rw [List.length_take]; omega
  obtain ⟨r, r1, r2⟩ := gath_in (m : Int) (pre ++ p :: t) (pre.length : Int) (((pre ++ p :: t).length : Nat) : Int) (PartOf (pre ++ p :: t) m) (p.f0.take m) [] acc (PartOf pre m) (by simpa using hlt)
   (fun q hq => ⟨hi.2 q (List.mem_of_mem_take hq), List.all_eq_true.1 hall q (List.mem_of_mem_take hq)⟩) hs (fun acc' h => by
    have := gath_loop m hm t (pre ++ [p]) acc' (by rw [app_snoc]; exact hl) (fun q hq => hp q (List.mem_cons_of_mem _ hq)) ⟨h.1, h.2.1, fun x => (h.2.2 x).trans ⟨fun h => by
     rcases h with ⟨s, hs, h⟩ | ⟨q, hq, h⟩
     ·exact ⟨s, by simp [hs], h⟩
     ·exact ⟨p, by simp, q, hq, h⟩, fun ⟨s, hs, h⟩ => by
     rcases List.mem_append.1 hs with hs | hs
     ·exact .inl ⟨s, hs, h⟩
     ·rw [List.mem_singleton.1 hs] at h; exact .inr h⟩⟩
    rw [app_snoc, snoc_len] at this; rw [hw]; exact this)
  refine ⟨r, evSucc ?_, r2⟩; simp only [repert_gathered.l0, if_pos c1, if_pos c2, rdSh, hmn, if_pos (show (0 : Int) ≤ ((min m p.f0.length : Nat) : Int) by omega), if_pos (show ((min m p.f0.length : Nat) : Int) ≤ (p.f0.length : Int) by omega), htk, Option.bind_some]; simpa using r1
theorem gathered_is (ss : List Sh) (hI : InS ss) (hv : vScheme ss = true) (m : Nat) (hm : m ≤ 8) : ∃ r, Ev (fun k => repert_gathered.f k ss (m : Int)) (r, 0) ∧ PB3.spans_IsSet r (PartOf ss m) := by
 obtain ⟨h1, h2, _⟩ := vScheme_facts hv; have hval := schemeValid_is ss hI; rw [hv] at hval; obtain ⟨r, r1, r2⟩ := gath_loop m hm ss [] [] (by simpa using h1) (fun p hp => ⟨hI.2 p hp, h2 p hp⟩) ⟨trivial, by simp, fun x => ⟨fun h => (Mem.nil h).elim, fun ⟨s, hs, _⟩ => by cases hs⟩⟩; refine ⟨r, ?_, by simpa using r2⟩; simp only [repert_gathered.f]; refine Ev.bind hval ?_; simp only [if_true]; simpa using r1
end Go.Proofs.Ytkcklnmbeinfkaa.PBS
end
section
namespace Go.Proofs.Ytkcklnmbeinfkaa.PBS
open Go.RowKit Go.Proofs.YtkcklnmbeinfkaaW.PrintWords Go.Proofs.YtkcklnmbeinfkaaW.PrintLast Go.Proofs.YtkcklnmbeinfkaaW.PrintMore Go.Proofs.Ytkcklnmbeinfkaa.B Go.Proofs.LT Go.Proofs.Ytkcklnmbeinfkaa.PB3
set_option linter.unusedVariables false
set_option linter.unusedSimpArgs false
def sumL : List Int → Int
 | [] => 0
 | y :: t => y + sumL t
theorem sumL_nonneg : ∀ {l : List Int}, (∀ y ∈ l, 0 ≤ y) → 0 ≤ sumL l
 | [], _ => by simp [sumL]
 | y :: t, h => by
  have := h y List.mem_cons_self; have := sumL_nonneg (l := t) (fun z hz => h z (List.mem_cons_of_mem _ hz)); show 0 ≤ y + sumL t; omega
theorem sumL_set : ∀ (l : List Int) (i : Nat) (c : Int), i < l.length → sumL (l.set i (rd l (i : Int) + c)) = sumL l + c
 | [], i, c, h => absurd h (by simp)
 | y :: t, 0, c, h => by
  show (y + c) + sumL t = y + sumL t + c; omega
 | y :: t, i + 1, c, h => by
  have ih := sumL_set t i c (by simpa using h); have e : rd (y :: t) ((i + 1 : Nat) : Int) = rd t (i : Int) := by simp [rd]
  rw [e]; show y + sumL (t.set i (rd t (i : Int) + c)) = y + sumL t + c; rw [ih]; omega
theorem rd_nat (l : List Int) (i : Nat) (h : i < l.length) : rd l (i : Int) = l[i] := by simp [rd, List.getD, h]
theorem rd_le : ∀ (l : List Int) (i : Nat), (∀ y ∈ l, 0 ≤ y) → i < l.length → 0 ≤ rd l (i : Int) ∧ rd l (i : Int) ≤ sumL l
 | [], i, _, h => absurd h (by simp)
 | y :: t, 0, hp, h => by
  have := sumL_nonneg (l := t) (fun z hz => hp z (List.mem_cons_of_mem _ hz)); have := hp y List.mem_cons_self; show 0 ≤ y ∧ y ≤ y + sumL t; omega
 | y :: t, i + 1, hp, h => by
  have ih := rd_le t i (fun z hz => hp z (List.mem_cons_of_mem _ hz)) (by simpa using h); have := hp y List.mem_cons_self; have e : rd (y :: t) ((i + 1 : Nat) : Int) = rd t (i : Int) := by simp [rd]
  rw [e]; show 0 ≤ rd t (i : Int) ∧ rd t (i : Int) ≤ y + sumL t; omega
def LenInv (pre : List Sh) (out : List Int) : Prop := out.length = 9 ∧ (∀ y ∈ out, 0 ≤ y) ∧ sumL out = tot pre ∧ ∀ p ∈ pre, 1 ≤ rd out (p.f0.length : Int)
theorem lens_loop : ∀ (t pre : List Sh) (out : List Int), (pre ++ t).length ≤ 32 → tot (pre ++ t) ≤ 1073741824 → (∀ p ∈ t, In2 p.f0 ∧ vShape p.f0 p.f1 = true) → LenInv pre out →
 ∃ r, Ev (fun k => repert_Lengths.l0 k out (pre ++ t) (((pre ++ t).length : Nat) : Int) (pre.length : Int)) (r, 0) ∧ LenInv (pre ++ t) r
 | [], pre, out, _, _, _, hs => by
  refine ⟨out, evSucc ?_, by rw [List.append_nil]; exact hs⟩; rw [List.append_nil]; simp only [repert_Lengths.l0, if_neg (show ¬ ((pre.length : Nat) : Int) < ((pre.length : Nat) : Int) by omega)]; exact evNow _
 | p :: t, pre, out, hl, htot, hp, hs => by
  have hlc := len_cons pre p t; have hpl : pre.length ≤ 32 := by simp at hl; omega
  obtain ⟨hi, hv⟩ := hp p List.mem_cons_self; obtain ⟨_, _, _, _, hc1, hall, hl8⟩ := shape_b hv; obtain ⟨o1, o2, o3, o4⟩ := hs; have htt : 0 ≤ tot t := by
   have : ∀ l : List Sh, (∀ p ∈ l, vShape p.f0 p.f1 = true) → 0 ≤ tot l := fun l => by
    induction l with
    | nil => intro _; simp [tot]
    | cons q l ih =>
     intro h; have := (shape_b (h q List.mem_cons_self)).2.2.2.2.1; have := ih (fun z hz => h z (List.mem_cons_of_mem _ hz)); show 0 ≤ cnt (sets q.f0) + tot l; omega
   exact this t (fun q hq => (hp q (List.mem_cons_of_mem _ hq)).2)
  have htot' : tot (pre ++ p :: t) = tot pre + (cnt (sets p.f0) + tot t) := tot_append pre (p :: t); have hrd := rd_le out p.f0.length o2 (by omega); have c1 : (pre.length : Int) < ((pre ++ p :: t).length : Nat) := by rw [hlc]; omega
  have c2 : (0 : Int) ≤ pre.length := by omega
  have hw : wrap64 ((pre.length : Int) + 1) = (pre.length : Int) + 1 := w64 (by omega) (by omega); have hw2 : wrap64 (rd out (p.f0.length : Int) + cnt (sets p.f0)) = rd out (p.f0.length : Int) + cnt (sets p.f0) := w64 (by omega) (by omega); have hInv : LenInv (pre ++ [p]) (out.set p.f0.length (rd out (p.f0.length : Int) + cnt (sets p.f0))) := by
   refine ⟨by simp [o1], fun y hy => ?_, ?_, fun q hq => ?_⟩
   ·rcases List.mem_or_eq_of_mem_set hy with hy | rfl
    ·exact o2 y hy
    ·omega
   ·rw [sumL_set out _ _ (by omega), o3, tot_append]; show _ = tot pre + (cnt (sets p.f0) + 0); omega
   ·have key : ∀ i : Nat, i < out.length → rd (out.set p.f0.length (rd out (p.f0.length : Int) + cnt (sets p.f0))) (i : Int) = if p.f0.length = i then rd out (p.f0.length : Int) + cnt (sets p.f0) else rd out (i : Int) := fun i hi => by
     rw [rd_nat _ i (by simpa using hi), List.getElem_set, rd_nat out i hi]
    rcases List.mem_append.1 hq with hq | hq
    ·have h1 := o4 q hq; have hql : q.f0.length < out.length := by
      rcases Nat.lt_or_ge q.f0.length out.length with h | h
      ·exact h
      ·have : rd out (q.f0.length : Int) = 0 := by simp [rd, List.getD, List.getElem?_eq_none h]
       omega
     rw [key _ hql]; split
     ·omega
     ·exact h1
    ·rw [List.mem_singleton.1 hq, key _ (by omega), if_pos rfl]; omega
  obtain ⟨r, r1, r2⟩ := lens_loop t (pre ++ [p]) _ (by rw [app_snoc]; exact hl) (by rw [app_snoc]; exact htot) (fun q hq => hp q (List.mem_cons_of_mem _ hq)) hInv; rw [app_snoc, snoc_len] at r1; rw [app_snoc] at r2; refine ⟨r, evSucc ?_, r2⟩; have hcnt := Count_is p.f0 p.f1 hi; rw [if_pos hv] at hcnt; simp only [repert_Lengths.l0, if_pos c1, if_pos c2, rdSh, if_pos (show (0 : Int) ≤ (p.f0.length : Int) by omega), if_pos (show (p.f0.length : Int) < (out.length : Int) by omega)]; refine Ev.bind hcnt ?_; simp only [hw, hw2, Int.toNat_natCast]; exact r1
theorem Lengths_is (ss : List Sh) (hI : InS ss) (hv : vScheme ss = true) : ∃ r, Ev (fun k => repert_Lengths.f k ss) (r, 0) ∧ LenInv ss r := by
 obtain ⟨h1, h2, _⟩ := vScheme_facts hv; have hval := schemeValid_is ss hI; rw [hv] at hval; obtain ⟨r, r1, r2⟩ := lens_loop ss [] (List.replicate 9 0) (by simpa using h1) (tot_le hv) (fun p hp => ⟨hI.2 p hp, h2 p hp⟩) ⟨rfl, fun y hy => by rw [List.eq_of_mem_replicate hy]; exact Int.le_refl _, by rfl, fun p hp => by cases hp⟩; refine ⟨r, ?_, r2⟩; simp only [repert_Lengths.f]; refine Ev.bind hval ?_; simp only [if_true, if_pos (show (9 : Int) ≤ 35184372088832 by omega)]; simpa using r1
theorem enc_tak {ss : List Sh} (hv : vScheme ss = true) (u : Int) : takB ss u = (encC (cs ss) u).isSome := by
 obtain ⟨_, h2, ha, hg⟩ := vScheme_facts hv; rw [Bool.eq_iff_iff, takB_iff, Option.isSome_iff_exists]; constructor
 ·rintro ⟨p, hp, e1, e2⟩; refine ⟨_, encC_of ha (List.mem_map.2 ⟨p, hp, rfl⟩) (hitC_iff.2 ⟨e1, ?_⟩)⟩; have := shape_b (h2 p hp); show u - p.f1 < cnt (sets p.f0); omega
 ·rintro ⟨x, hx⟩; obtain ⟨p, hp, hh, _⟩ := encC_mem hx; obtain ⟨q, hq, rfl⟩ := List.mem_map.1 hp; have := hitC_iff.1 hh; have e1 : q.f1 ≤ u := this.1; have e2 : u - q.f1 < cnt (sets q.f0) := this.2; have := shape_b (h2 q hq); exact ⟨q, hq, e1, by omega⟩
theorem rnk_mem : ∀ {ps : List (List Run)} {bs : List Int} {k : Int}, rnk ps bs = some k → ∀ (i : Nat) (hi : i < bs.length), ∃ hj : i < ps.length, Mem ps[i] bs[i]
 | [], bs, k, h, i, hi => by
  have := rnk_len h; simp at this; rw [this] at hi; simp at hi
 | s :: t, [], k, h, i, hi => absurd hi (by simp)
 | s :: t, b :: bs, k, h, i, hi => by
  rw [rnk_cons] at h; by_cases c : memB s b = true
  ·rw [if_pos c] at h; cases i with
   | zero => exact ⟨by simp, memB_iff.1 c⟩
   | succ i =>
    obtain ⟨k', hk, _⟩ := Option.map_eq_some_iff.1 h; obtain ⟨hj, hm⟩ := rnk_mem hk i (by simpa using hi); exact ⟨by simpa using hj, hm⟩
  ·rw [if_neg c] at h; cases h
theorem enc_parts {ss : List Sh} (hv : vScheme ss = true) {u : Int} {x : List Int} (hx : encC (cs ss) u = some x) : ∃ p ∈ ss, x.length = p.f0.length ∧ ∀ (i : Nat) (hi : i < x.length), ∃ hj : i < p.f0.length, Mem (runs p.f0[i]) x[i] := by
 obtain ⟨_, h2, ha, hg⟩ := vScheme_facts hv; obtain ⟨p, hp, hh, e⟩ := encC_mem hx; obtain ⟨q, hq, rfl⟩ := List.mem_map.1 hp; have hr := encC_hit hg hp hh e; have hr' : rnk (sets q.f0) x = some (u - (C q).2) := hr; refine ⟨q, hq, by have := rnk_len hr'; rwa [sets_len] at this, fun i hi => ?_⟩; obtain ⟨hj, hm⟩ := rnk_mem hr' i hi; rw [sets_len] at hj; refine ⟨hj, ?_⟩; have e : (sets q.f0)[i]'(by rw [sets_len]; exact hj) = runs q.f0[i] := by simp [sets]
 rwa [← e]
theorem has4 {l : List Ra} {p : Int → Prop} (hs : PB4.scalars_IsSet l p) (x : Int) : ∃ b, Ev (fun k => leadtrailref04_Has.f k l x) b ∧ (b = true ↔ p x) := by
 refine ⟨_, PB4.refHas_is l x (by have := hs.2.1; omega), ?_⟩; rw [PB4.setL_of hs.1, memB_iff]; exact hs.2.2 x
theorem has3 {l : List Sp} {p : Int → Prop} (hs : PB3.spans_IsSet l p) (x : Int) : ∃ b, Ev (fun k => leadtrailref03_Has.f k l x) b ∧ (b = true ↔ p x) := by
 refine ⟨_, PB3.refHas_is l x (by have := hs.2.1; omega), ?_⟩; rw [PB3.setL_of hs.1, memB_iff]; exact hs.2.2 x
theorem means_l1 {l : List Ra} {B : List Sp} {P : Int → Prop} {p : Int → Prop} (hl : PB4.scalars_IsSet l p) (hB : PB3.spans_IsSet B P) (sum : Int) (hs : sum = size (l.map PB4.L102)) : ∀ (t pre : List Int), (pre ++ t).length ≤ 8 → (∀ y ∈ t, (0 ≤ y ∧ y ≤ 255) ∧ P y) → Ev (fun k => leadtraillaw25_RepertMeans.l1 k l (pre ++ t) B sum (((pre ++ t).length : Nat) : Int) (pre.length : Int)) true
 | [], pre, _, _ => by
  refine evSucc ?_; rw [List.append_nil]; simp only [leadtraillaw25_RepertMeans.l1, if_neg (show ¬ ((pre.length : Nat) : Int) < ((pre.length : Nat) : Int) by omega)]; have h := PB4.refSize_is l (by have := hl.2.1; omega); rw [PB4.setL_of hl.1, ← hs] at h; refine Ev.bind h ?_; simp only [beq_self_eq_true]; exact evNow _
 | y :: t, pre, hlen, hy => by
  have hlc := len_cons pre y t; have hpl : pre.length ≤ 8 := by simp at hlen; omega
  obtain ⟨hr, hm⟩ := hy y List.mem_cons_self; have ih := means_l1 hl hB sum hs t (pre ++ [y]) (by rw [app_snoc]; exact hlen) (fun z hz => hy z (List.mem_cons_of_mem _ hz)); rw [app_snoc, snoc_len] at ih; have c1 : (pre.length : Int) < ((pre ++ y :: t).length : Nat) := by rw [hlc]; omega
  have c2 : (0 : Int) ≤ pre.length := by omega
  have hw : wrap64 ((pre.length : Int) + 1) = (pre.length : Int) + 1 := w64 (by omega) (by omega); have hrd : rd (pre ++ y :: t) (pre.length : Int) = y := by simp [rd]
  have hwy : wrap64 y = y := w64 (by omega) (by omega); obtain ⟨b, b1, b2⟩ := has3 hB y; obtain rfl : b = true := b2.2 hm; refine evSucc ?_; simp only [leadtraillaw25_RepertMeans.l1, if_pos c1, if_pos c2, hrd, hwy, hw]; refine Ev.bind b1 ?_; simp only [if_true]; exact ih
theorem means_l0 {l : List Ra} {B : List Sp} {P : Int → Prop} {p : Int → Prop} (hl : PB4.scalars_IsSet l p) (hB : PB3.spans_IsSet B P) (x : List Int) (hx : x.length ≤ 8) (hy : ∀ y ∈ x, (0 ≤ y ∧ y ≤ 255) ∧ P y) : ∀ (t pre : List Int) (acc : Int), (pre ++ t).length ≤ 9 → (∀ y ∈ t, 0 ≤ y) → 0 ≤ acc → acc + sumL t ≤ 1073741824 → acc + sumL t = size (l.map PB4.L102) →
 Ev (fun k => leadtraillaw25_RepertMeans.l0 k l x B (pre ++ t) acc (((pre ++ t).length : Nat) : Int) (pre.length : Int)) true
 | [], pre, acc, _, _, _, _, hs => by
  refine evSucc ?_; rw [List.append_nil]; simp only [leadtraillaw25_RepertMeans.l0, if_neg (show ¬ ((pre.length : Nat) : Int) < ((pre.length : Nat) : Int) by omega)]; have hs' : acc = size (l.map PB4.L102) := by rw [← hs]; show acc = acc + 0; omega
  simpa using means_l1 hl hB acc hs' x [] (by simpa using hx) hy
 | y :: t, pre, acc, hlen, h0, ha, hle, hs => by
  have hlc := len_cons pre y t; have hpl : pre.length ≤ 9 := by simp at hlen; omega
  have hy0 := h0 y List.mem_cons_self; have ht := sumL_nonneg (l := t) (fun z hz => h0 z (List.mem_cons_of_mem _ hz)); have e : sumL (y :: t) = y + sumL t := rfl; have ih := means_l0 hl hB x hx hy t (pre ++ [y]) (acc + y) (by rw [app_snoc]; exact hlen) (fun z hz => h0 z (List.mem_cons_of_mem _ hz)) (by omega) (by omega) (by omega); rw [app_snoc, snoc_len] at ih; have c1 : (pre.length : Int) < ((pre ++ y :: t).length : Nat) := by rw [hlc]; omega
  have c2 : (0 : Int) ≤ pre.length := by omega
  have hw : wrap64 ((pre.length : Int) + 1) = (pre.length : Int) + 1 := w64 (by omega) (by omega); have hrd : rd (pre ++ y :: t) (pre.length : Int) = y := by simp [rd]
  have hwy : wrap64 (acc + y) = acc + y := w64 (by omega) (by omega); refine evSucc ?_; simp only [leadtraillaw25_RepertMeans.l0, if_pos c1, if_pos c2, hrd, hwy, hw]; exact ih
theorem means_j1 (a : List Sh) (hI : InS a) (hv : vScheme a = true) {u : Int} {x : List Int} (hx : encC (cs a) u = some x) {l : List Ra} (hl : PB4.scalars_IsSet l (Taken a)) : Ev (fun k => leadtraillaw25_RepertMeans.j1 k l x true false a) true := by
 obtain ⟨F, F1, F2⟩ := gathered_is a hI hv 1 (by omega); obtain ⟨B, B1, B2⟩ := gathered_is a hI hv 8 (by omega); obtain ⟨ns, N1, n1, n2, n3, n4⟩ := Lengths_is a hI hv; obtain ⟨_, hby, hl1, hl8⟩ := enc_range hv hx; obtain ⟨p, hp, hpl, hpart⟩ := enc_parts hv hx; have f1 : Ev (fun k => repert_Firsts.f k a) (F, 0) := by simp only [repert_Firsts.f]; exact Ev.bind F1 (evNow _)
 have f8 : Ev (fun k => repert_Bytes.f k a) (B, 0) := by simp only [repert_Bytes.f]; exact Ev.bind B1 (evNow _)
 have hn := n4 p hp; rw [← hpl] at hn; have hx0 : rd x 0 = x[0] := rd_nat x 0 (by omega); have hb0 := hby x[0] (List.getElem_mem _); have hw0 : wrap64 x[0] = x[0] := w64 (by omega) (by omega); obtain ⟨b, b1, b2⟩ := has3 F2 x[0]; obtain ⟨hj0, hm0⟩ := hpart 0 (by omega); obtain rfl : b = true := b2.2 ⟨p, hp, p.f0[0], by
  rw [List.mem_take_iff_getElem]; exact ⟨0, by omega, rfl⟩, hm0⟩
 have hall : ∀ y ∈ x, (0 ≤ y ∧ y ≤ 255) ∧ PartOf a 8 y := fun y hy => by
  obtain ⟨i, hi, rfl⟩ := List.getElem_of_mem hy; obtain ⟨hj, hm⟩ := hpart i hi; exact ⟨hby _ hy, p, hp, p.f0[i], by
   rw [List.mem_take_iff_getElem]; exact ⟨i, by omega, rfl⟩, hm⟩
 have hfin := means_l0 hl B2 x hl8 hall ns [] 0 (by simpa using Nat.le_of_eq n1) n2 (by omega) (by have := tot_le hv; omega) (by rw [size_tak hv hl]; omega); refine evSucc ?_; simp only [leadtraillaw25_RepertMeans.j1, Bool.false_eq_true, if_false, if_true]; refine Ev.bind f1 (Ev.bind f8 (Ev.bind N1 ?_)); simp only [if_pos (show (ns.length : Int) = 9 by omega), if_neg (show ¬ (x.length : Int) < 1 by omega), if_neg (show ¬ (x.length : Int) > 8 by omega), if_pos (show (0 : Int) ≤ (x.length : Int) by omega), if_pos (show (x.length : Int) < (ns.length : Int) by omega), if_neg (show ¬ rd ns (x.length : Int) < 1 by omega), if_pos (show (0 : Int) < (x.length : Int) by omega), hx0, hw0]; refine Ev.bind b1 ?_; refine evSucc ?_; simp only [leadtraillaw25_RepertMeans.j2, Bool.not_true, Bool.false_eq_true, if_false]; simpa using hfin
theorem leadtraillaw25_RepertMeans_ev (a b : List Sh) (u : Int) (ha : InS a) (hb : InS b) (hu : (Lit.int .i64 u).wf = true) : Ev (fun k => leadtraillaw25_RepertMeans.f k a b u) true := by
 obtain ⟨l, l1, l2⟩ := Of_is a ha; obtain ⟨c, c1, c2⟩ := Common25_is a b ha hb; obtain ⟨m, m1, m2⟩ := Missing25_is a b ha hb; simp only [leadtraillaw25_RepertMeans.f]; refine Ev.bind fixed25 ?_; simp only [if_true]; refine Ev.bind l1 (Ev.bind c1 (Ev.bind m1 (Ev.bind (Encode_is a u ha hu) (Ev.bind (Encode_is b u hb hu) ?_)))); rcases l2 with ⟨hA, rfl⟩ | ⟨hA, hl0, hl⟩
 ·have hc : c = ([], 84) := by
   rcases c2 with ⟨_, h⟩ | ⟨_, _, h, _⟩
   ·exact h
   ·rw [hA] at h; cases h
  have hm : m = ([], 84) := by
   rcases m2 with ⟨_, h⟩ | ⟨_, _, h, _⟩
   ·exact h
   ·rw [hA] at h; cases h
  subst hc; subst hm; rw [show encS a u = ([], 84) by unfold encS; rw [hA]; rfl]; simp only [if_neg (show ¬ (84 : Int) = 0 by omega)]; refine evSucc ?_; simp only [leadtraillaw25_RepertMeans.j0, if_true, beq_self_eq_true]; exact evNow _
 ·cases hB : vScheme b
  ·have hc : c = ([], 84) := by
    rcases c2 with ⟨_, h⟩ | ⟨_, _, _, h⟩
    ·exact h
    ·rw [hB] at h; cases h
   have hm : m = ([], 84) := by
    rcases m2 with ⟨_, h⟩ | ⟨_, _, _, h⟩
    ·exact h
    ·rw [hB] at h; cases h
   subst hc; subst hm; rw [show encS b u = ([], 84) by unfold encS; rw [hB]; rfl]; simp only [if_pos hl0]; refine evSucc ?_; have hs : (encS a u).2 = 0 ∨ (encS a u).2 = 100 := by
    unfold encS; rw [if_pos hA]; cases encC (cs a) u
    ·exact .inr rfl
    ·exact .inl rfl
   rcases hs with hs | hs
   ·simp only [leadtraillaw25_RepertMeans.j0, if_true, beq_self_eq_true, hl0, hs, if_neg (show ¬ (0 : Int) = 84 by omega)]; exact evNow _
   ·simp only [leadtraillaw25_RepertMeans.j0, if_true, beq_self_eq_true, hl0, hs, if_neg (show ¬ (100 : Int) = 84 by omega), show ((0 : Int) == 84) = ((100 : Int) == 84) from rfl]; exact evNow _
  ·obtain ⟨hc0, hcs⟩ : c.2 = 0 ∧ PB4.scalars_IsSet c.1 (fun x => Taken a x ∧ Taken b x) := by
    rcases c2 with ⟨h, _⟩ | ⟨h1, h2, _⟩
    ·exact (h ⟨hA, hB⟩).elim
    ·exact ⟨h1, h2⟩
   obtain ⟨hm0, hms⟩ : m.2 = 0 ∧ PB4.scalars_IsSet m.1 (fun x => Taken a x ∧ ¬ Taken b x) := by
    rcases m2 with ⟨h, _⟩ | ⟨h1, h2, _⟩
    ·exact (h ⟨hA, hB⟩).elim
    ·exact ⟨h1, h2⟩
   obtain ⟨t1, p1, q1⟩ := has4 hl u; obtain ⟨t2, p2, q2⟩ := has4 hcs u; obtain ⟨t3, p3, q3⟩ := has4 hms u; have ka := enc_tak hA u; have kb := enc_tak hB u; have w1 : t1 = takB a u := by rw [Bool.eq_iff_iff, q1, takB_iff]
   have w2 : t2 = (takB a u && takB b u) := by rw [Bool.eq_iff_iff, q2, Bool.and_eq_true, takB_iff, takB_iff]
   have w3 : t3 = (takB a u && !takB b u) := by
    rw [Bool.eq_iff_iff, q3, Bool.and_eq_true, Bool.not_eq_true', ← Bool.not_eq_true, takB_iff, takB_iff]
   simp only [if_pos hl0]; have eb84 : ((encS b u).2 == 84) = false := by
    unfold encS; rw [if_pos hB]; cases encC (cs b) u <;> rfl
   simp only [eb84]; refine evSucc ?_; simp only [leadtraillaw25_RepertMeans.j0, Bool.false_eq_true, if_false]; refine Ev.bind p1 ?_; rw [ka, kb] at w2 w3; rw [ka] at w1; cases hxa : encC (cs a) u with
   | none =>
    rw [hxa] at w1 w2 w3; subst w1; subst w2; subst w3; rw [show encS a u = ([], 100) by unfold encS; rw [if_pos hA, hxa]; rfl]; simp only [Option.isSome_none, Bool.false_and, show ((100 : Int) == 0) = false from rfl, bne_self_eq_false, Bool.false_eq_true, if_false] at p2 p3 ⊢; refine Ev.bind p2 ?_; simp only [if_neg (show ¬ (100 : Int) = 0 by omega), bne_self_eq_false, Bool.false_eq_true, if_false]; refine Ev.bind p3 ?_; simp only [bne_self_eq_false]; refine evSucc ?_; simp only [leadtraillaw25_RepertMeans.j1, Bool.false_eq_true, if_false]; exact evNow _
   | some x =>
    rw [hxa] at w1 w2 w3; subst w1; rw [show encS a u = (x, 0) by unfold encS; rw [if_pos hA, hxa]; rfl]; have fin := means_j1 a ha hA hxa hl; have h00 : ((0 : Int) == 0) = true := rfl; have hbz : ((encS b u).2 == 0) = (encC (cs b) u).isSome := by
     unfold encS; rw [if_pos hB]; cases encC (cs b) u <;> rfl
    simp only [Option.isSome_some, Bool.true_and] at w2 w3; simp only [Option.isSome_some, h00, bne_self_eq_false, Bool.false_eq_true, if_false]; refine Ev.bind p2 ?_; simp only [if_true, hbz, ← w2, bne_self_eq_false, Bool.false_eq_true, if_false]; refine Ev.bind p3 ?_; have e3 : (t3 != !t2) = false := by rw [w3, w2]; exact bne_self_eq_false _
    simp only [e3]; exact fin
end Go.Proofs.Ytkcklnmbeinfkaa.PBS
namespace Go.Proofs.Ytkcklnmbeinfkaa.Pure
open Go.Proofs.Ytkcklnmbeinfkaa.B Go.Proofs.YtkcklnmbeinfkaaW.PrintWords
theorem RepertMeans : ∀ (l0_0 : List S50) (l1_0 : List S50) (a2 : Int), (l0_0.length * 32 ≤ 140737488351232 ∧ ∀ x ∈ l0_0, ((x.f0.length * 24 ≤ 140737488351232 ∧ ∀ y ∈ x.f0, (y.length * 16 ≤ 140737488351232 ∧ ∀ x ∈ y, ((Lit.int .i64 x.f0).wf = true ∧ (Lit.int .i64 x.f1).wf = true))) ∧ (Lit.int .i64 x.f1).wf = true)) → (l1_0.length * 32 ≤ 140737488351232 ∧ ∀ x ∈ l1_0, ((x.f0.length * 24 ≤ 140737488351232 ∧ ∀ y ∈ x.f0, (y.length * 16 ≤ 140737488351232 ∧ ∀ x ∈ y, ((Lit.int .i64 x.f0).wf = true ∧ (Lit.int .i64 x.f1).wf = true))) ∧ (Lit.int .i64 x.f1).wf = true)) → (Lit.int .i64 a2).wf = true → ∃ k, leadtraillaw25_RepertMeans.f k l0_0 l1_0 a2 = some true :=
 fun l0 l1 u h g hu => Ev.rounds (PBS.leadtraillaw25_RepertMeans_ev l0 l1 u ⟨h.1, fun p hp => ⟨(h.2 p hp).1.1, fun x hx => ((h.2 p hp).1.2 x hx).1⟩⟩ ⟨g.1, fun p hp => ⟨(g.2 p hp).1.1, fun x hx => ((g.2 p hp).1.2 x hx).1⟩⟩ hu)
end Go.Proofs.Ytkcklnmbeinfkaa.Pure
end
