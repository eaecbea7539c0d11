/- Words and laws of this claim, of 12 texts. -/
import Derived.Test.YtkcklnmbeinfkaaKrBx0
import Derived.Test.YtkcklnmbeinfkaaKrBx22
import Derived.Test.YtkcklnmbeinfkaaKrBx23
import Derived.Test.YtkcklnmbeinfkaaKrBx25
import Derived.Test.YtkcklnmbeinfkaaKrBx26
import Derived.Test.YtkcklnmbeinfkaaKrBx12
import Derived.Test.YtkcklnmbeinfkaaKrBx8
import Derived.Test.YtkcklnmbeinfkaaKrBx5
import Derived.Test.YtkcklnmbeinfkaaKrBx9
import Derived.Test.YtkcklnmbeinfkaaKrBx13
import Derived.Test.YtkcklnmbeinfkaaKrBx1
import Derived.Test.YtkcklnmbeinfkaaKrQP0
import Derived.Test.YtkcklnmbeinfkaaKrQW1
import Derived.Test.YtkcklnmbeinfkaaKrBx47
import Derived.Test.YtkcklnmbeinfkaaKrBx40
import Derived.Test.YtkcklnmbeinfkaaKrBx41
import Derived.Test.YtkcklnmbeinfkaaKrBx42
import Derived.Test.YtkcklnmbeinfkaaKrBx46
import Derived.KernelRfl
import Derived.Test.YtkcklnmbeinfkaaKrBx52
import Derived.Test.YtkcklnmbeinfkaaKrBx45
import Derived.Test.YtkcklnmbeinfkaaKrBx51
section
namespace Go.Proofs.Ytkcklnmbeinfkaa.PBS
open Go.RowKit Go.Proofs.YtkcklnmbeinfkaaW.PrintWords Go.Proofs.YtkcklnmbeinfkaaW.PrintLast Go.Proofs.YtkcklnmbeinfkaaW.PrintMore Go.Proofs.Ytkcklnmbeinfkaa.B Go.Proofs.LT Go.Proofs.Ytkcklnmbeinfkaa.PB3
set_option linter.unusedVariables false
set_option linter.unusedSimpArgs false
def C (p : Sh) : Cs := (sets p.f0, p.f1)
def cs (ss : List Sh) : List Cs := ss.map C
theorem last_C (p : Sh) : lastC (C p) = lastOf p := rfl
theorem vS_facts : ∀ (t pre : List Sh), vS pre t = true → (∀ p ∈ t, vShape p.f0 p.f1 = true) ∧ (∀ q ∈ pre, ∀ p ∈ t, meetsB p q = false) ∧ Apart (cs t)
 | [], _, _ => ⟨fun _ h => (by cases h), fun _ _ _ h => (by cases h), trivial⟩
 | p :: t, pre, h => by
  have h' : (vShape p.f0 p.f1 && (!(pre.any (meetsB p)) && vS (pre ++ [p]) t)) = true := h; simp only [Bool.and_eq_true, Bool.not_eq_true'] at h'; obtain ⟨h1, h2, h3⟩ := h'; obtain ⟨k1, k2, k3⟩ := vS_facts t (pre ++ [p]) h3; refine ⟨fun q hq => ?_, fun q hq r hr => ?_, fun r hr => ?_, k3⟩
  ·rcases List.mem_cons.1 hq with rfl | hq
   ·exact h1
   ·exact k1 q hq
  ·rcases List.mem_cons.1 hr with rfl | hr
   ·cases e : meetsB r q
    ·rfl
    ·rw [List.any_eq_true.2 ⟨q, hq, e⟩] at h2; cases h2
   ·exact k2 q (List.mem_append_left _ hq) r hr
  ·obtain ⟨q, hq, rfl⟩ := List.mem_map.1 hr; have e := k2 p (List.mem_append_right _ (List.mem_singleton.2 rfl)) q hq; simp only [meetsB, Bool.and_eq_false_iff, decide_eq_false_iff_not] at e; rw [last_C, last_C]; show lastOf p < q.f1 ∨ lastOf q < p.f1; omega
theorem vScheme_facts {ss : List Sh} (h : vScheme ss = true) : ss.length ≤ 32 ∧ (∀ p ∈ ss, vShape p.f0 p.f1 = true) ∧ Apart (cs ss) ∧ AllGood (cs ss) := by
 simp only [vScheme, Bool.and_eq_true, decide_eq_true_eq] at h; obtain ⟨k1, k2, k3⟩ := vS_facts ss [] h.2; refine ⟨h.1, k1, k3, fun p hp => ?_⟩; obtain ⟨q, hq, rfl⟩ := List.mem_map.1 hp; exact (vShape_good (k1 q hq)).2.2.2.1
theorem rdSh_at (ss : List Sh) (i : Nat) (h : i < ss.length) : rd_T50 ss (i : Int) = ss[i] := by simp [rd_T50, List.getD, h]
theorem succ_wrap (i : Nat) (h : i ≤ 4611686018427387904) : Aside0 (wrap64 ((i : Int) + 1) = ((i + 1 : Nat) : Int)) := Aside0.mk (by rw [w64 (by omega) (by omega)]; simp)
theorem refMeet_loop (ss : List Sh) (hI : InS ss) (i : Nat) (hi : i < ss.length) (hs : ss.length ≤ 32) (hv : ∀ p ∈ ss.take (i + 1), vShape p.f0 p.f1 = true) : ∀ (n j : Nat), j + n = i → ((ss.take j).any (meetsB ss[i]) = false) →
 Ev (fun k => leadtrailref08_meet.l0 k ss (i : Int) (j : Int)) ((ss.take i).any (meetsB ss[i]))
 | 0, j, hj, hno => by
  refine evSucc ?_; obtain rfl : j = i := by omega
  simp only [leadtrailref08_meet.l0, if_neg (show ¬ (j : Int) < (j : Int) by omega)]; rw [hno]; exact evNow _
 | n + 1, j, hj, hno => by
  have hjl : j < ss.length := by omega
  have vi := vShape_good (hv ss[i] (by rw [List.take_succ_eq_append_getElem hi]; exact List.mem_append_right _ (List.mem_singleton.2 rfl))); have vj := vShape_good (hv ss[j] (by
   have : (ss.take (i + 1))[j]'(by simp; omega) = ss[j] := List.getElem_take ..; rw [← this]; exact List.getElem_mem _))
  have pi := cnt_pos vi.2.2.2.1; have pj := cnt_pos vj.2.2.2.1; have ci := refCount8_is ss[i].f0 ss[i].f1 (hI.2 _ (List.getElem_mem _)) vi.2.2.1 vi.1.2; have cj := refCount8_is ss[j].f0 ss[j].f1 (hI.2 _ (List.getElem_mem _)) vj.2.2.1 vj.1.2; rw [show min (cnt (sets ss[i].f0)) 1073741825 = cnt (sets ss[i].f0) by omega] at ci; rw [show min (cnt (sets ss[j].f0)) 1073741825 = cnt (sets ss[j].f0) by omega] at cj; have hw := succ_wrap j (by omega); have wi : Aside0 (wrap64 (wrap64 (ss[i].f1 + cnt (sets ss[i].f0)) - 1) = lastOf ss[i]) := Aside0.mk (by rw [w64 (x := ss[i].f1 + cnt (sets ss[i].f0)) (by omega) (by omega), w64 (by omega) (by omega)]; rfl); have wj : Aside0 (wrap64 (wrap64 (ss[j].f1 + cnt (sets ss[j].f0)) - 1) = lastOf ss[j]) := Aside0.mk (by rw [w64 (x := ss[j].f1 + cnt (sets ss[j].f0)) (by omega) (by omega), w64 (by omega) (by omega)]; rfl); have yes : meetsB ss[i] ss[j] = true → (ss.take i).any (meetsB ss[i]) = true := fun h => by
   refine List.any_eq_true.2 ⟨ss[j], ?_, h⟩; have : (ss.take i)[j]'(by simp; omega) = ss[j] := List.getElem_take ..; rw [← this]; exact List.getElem_mem _
  have next : meetsB ss[i] ss[j] = false → Ev (fun k => leadtrailref08_meet.l0 k ss (i : Int) (wrap64 ((j : Int) + 1))) ((ss.take i).any (meetsB ss[i])) := fun h => by
   rw [hw.out]; refine refMeet_loop ss hI i hi hs hv n (j + 1) (by omega) ?_; rw [List.take_succ_eq_append_getElem hjl, List.any_append, hno]; simp [h]
  refine evSucc ?_; simp only [leadtrailref08_meet.l0, if_pos (show (j : Int) < (i : Int) by omega), if_pos (show (0 : Int) ≤ (i : Int) by omega), if_pos (show (i : Int) < (ss.length : Int) by omega), if_pos (show (0 : Int) ≤ (j : Int) by omega), if_pos (show (j : Int) < (ss.length : Int) by omega), rdSh_at ss i hi, rdSh_at ss j hjl]; refine Ev.bind cj ?_; simp only [wj.out]; by_cases c1 : ss[i].f1 ≤ lastOf ss[j]
  ·simp only [if_pos c1]; refine Ev.bind ci ?_; simp only [wi.out]; by_cases c2 : ss[j].f1 ≤ lastOf ss[i]
   ·simp only [if_pos c2]; rw [yes (by simp only [meetsB, decide_eq_true c1, decide_eq_true c2]; rfl)]; exact evNow _
   ·simp only [if_neg c2]; exact next (by simp only [meetsB, decide_eq_false c2, Bool.and_false])
  ·simp only [if_neg c1]; exact next (by simp only [meetsB, decide_eq_false c1, Bool.false_and])
theorem refValid_loop8 (ss : List Sh) (hI : InS ss) (hs : ss.length ≤ 32) : ∀ (n i : Nat), i + n = ss.length → (∀ p ∈ ss.take i, vShape p.f0 p.f1 = true) →
 Ev (fun k => leadtrailref08_Valid.l0 k (i : Int) ss) (vS (ss.take i) (ss.drop i))
 | 0, i, hi, hv => by
  refine evSucc ?_; simp only [leadtrailref08_Valid.l0, if_neg (show ¬ (i : Int) < (ss.length : Int) by omega)]; rw [List.drop_of_length_le (by omega)]; exact evNow _
 | n + 1, i, hi, hv => by
  have hil : i < ss.length := by omega
  have hw := succ_wrap i (by omega); have e : vS (ss.take i) (ss.drop i) = (vShape ss[i].f0 ss[i].f1 && (!((ss.take i).any (meetsB ss[i])) && vS (ss.take (i + 1)) (ss.drop (i + 1)))) := by
   rw [List.drop_eq_getElem_cons hil, List.take_succ_eq_append_getElem hil]; rfl
  rw [e]; refine evSucc ?_; simp only [leadtrailref08_Valid.l0, if_pos (show (i : Int) < (ss.length : Int) by omega), if_pos (show (0 : Int) ≤ (i : Int) by omega), rdSh_at ss i hil]; refine Ev.bind (refVShape_is _ _ (hI.2 _ (List.getElem_mem _))) ?_; cases hp : vShape ss[i].f0 ss[i].f1
  ·simp only [Bool.false_eq_true, if_false, Bool.false_and]; exact evNow _
  ·simp only [if_true, Bool.true_and]; have hv' : ∀ p ∈ ss.take (i + 1), vShape p.f0 p.f1 = true := fun p hq => by
    rw [List.take_succ_eq_append_getElem hil] at hq; rcases List.mem_append.1 hq with h | h
    ·exact hv p h
    ·rw [List.mem_singleton.1 h]; exact hp
   have hm := refMeet_loop ss hI i hil hs hv' i 0 (by omega) (by simp); refine Ev.bind (show Ev (fun k => leadtrailref08_meet.f k ss (i : Int)) _ from hm) ?_; cases hq : (ss.take i).any (meetsB ss[i])
   ·simp only [Bool.false_eq_true, if_false, Bool.not_false, Bool.true_and, hw.out]; exact refValid_loop8 ss hI hs n (i + 1) (by omega) hv'
   ·simp only [if_true, Bool.not_true, Bool.false_and]; exact evNow _
theorem refValid8_is (ss : List Sh) (hI : InS ss) : Ev (fun k => leadtrailref08_Valid.f k ss) (vScheme ss) := by
 simp only [leadtrailref08_Valid.f]; by_cases c : (ss.length : Int) > 32
 ·simp only [if_pos c]; rw [show vScheme ss = false by simp only [vScheme, decide_eq_false (show ¬ ss.length ≤ 32 by omega), Bool.false_and]]; exact evNow _
 ·simp only [if_neg c]; rw [show vScheme ss = vS [] ss by simp only [vScheme, decide_eq_true (show ss.length ≤ 32 by omega), Bool.true_and]]; simpa using refValid_loop8 ss hI (by omega) ss.length 0 (by omega) (by simp)
theorem copyS_loop (ss : List Sh) (hI : InS ss) : ∀ (n i : Nat), i + n = ss.length → Ev (fun k => leadtrailref08_Copy.l0 k (i : Int) ss (ss.take i)) ss
 | 0, i, hi => by
  refine evSucc ?_; simp only [leadtrailref08_Copy.l0, if_neg (show ¬ (i : Int) < (ss.length : Int) by omega)]; rw [List.take_of_length_le (by omega)]; exact evNow _
 | n + 1, i, hi => by
  have hil : i < ss.length := by omega
  have h2 := hI.1; have hw := succ_wrap i (by omega); have ih := copyS_loop ss hI n (i + 1) (by omega); rw [List.take_succ_eq_append_getElem hil] at ih; refine evSucc ?_; simp only [leadtrailref08_Copy.l0, if_pos (show (i : Int) < (ss.length : Int) by omega), if_pos (show (0 : Int) ≤ (i : Int) by omega), rdSh_at ss i hil]; refine Ev.bind (Copy_is _ _ (hI.2 _ (List.getElem_mem _))) ?_; simp only [if_pos (show (ss.take i).length < 4398046511104 by rw [List.length_take]; omega), hw.out]; exact ih
theorem CopyS_is (ss : List Sh) (hI : InS ss) : Ev (fun k => leadtrailref08_Copy.f k ss) ss := by
 have := copyS_loop ss hI ss.length 0 (by omega); rw [List.take_zero] at this; exact this
theorem sameS_loop (ss : List Sh) (hI : InS ss) : ∀ (n i : Nat), i + n = ss.length → Ev (fun k => leadtrailref08_Same.l0 k (i : Int) ss ss) true
 | 0, i, hi => by
  refine evSucc ?_; simp only [leadtrailref08_Same.l0, if_neg (show ¬ (i : Int) < (ss.length : Int) by omega)]; exact evNow _
 | n + 1, i, hi => by
  have hil : i < ss.length := by omega
  have h2 := hI.1; have hw := succ_wrap i (by omega); refine evSucc ?_; simp only [leadtrailref08_Same.l0, if_pos (show (i : Int) < (ss.length : Int) by omega), if_pos (show (0 : Int) ≤ (i : Int) by omega), rdSh_at ss i hil]; refine Ev.bind (SameShape_self _ _ (hI.2 _ (List.getElem_mem _))) ?_; simp only [if_true, hw.out]; exact sameS_loop ss hI n (i + 1) (by omega)
theorem SameS_self (ss : List Sh) (hI : InS ss) : Ev (fun k => leadtrailref08_Same.f k ss ss) true := by
 simp only [leadtrailref08_Same.f, if_true]; exact sameS_loop ss hI ss.length 0 (by omega)
end Go.Proofs.Ytkcklnmbeinfkaa.PBS
end
section
namespace Go.Proofs.Ytkcklnmbeinfkaa.PB4
open Go.RowKit Go.Proofs.YtkcklnmbeinfkaaW.PrintWords Go.Proofs.YtkcklnmbeinfkaaW.PrintLast Go.Proofs.YtkcklnmbeinfkaaW.PrintMore Go.Proofs.Ytkcklnmbeinfkaa.B Go.Proofs.LT
set_option linter.unusedVariables false
set_option linter.unusedSimpArgs false
def cnt (l : List Int) (x : Int) : Nat := l.countP fun y => decide (y ≤ x)
theorem cnt_nil (x : Int) : cnt [] x = 0 := rfl
theorem cnt_cons (y : Int) (l : List Int) (x : Int) : cnt (y :: l) x = cnt l x + if y ≤ x then 1 else 0 := by
 unfold cnt; rw [List.countP_cons]; simp
theorem cnt_pos {l : List Int} {x : Int} (h : 0 < cnt l x) : ∃ y ∈ l, y ≤ x := by
 unfold cnt at h; obtain ⟨y, hy, h⟩ := List.countP_pos_iff.1 h; exact ⟨y, hy, by simpa using h⟩
attribute [irreducible] cnt
end Go.Proofs.Ytkcklnmbeinfkaa.PB4
end
section
namespace Go.Proofs.Ytkcklnmbeinfkaa.PB4
open Go.RowKit Go.Proofs.YtkcklnmbeinfkaaW.PrintWords Go.Proofs.YtkcklnmbeinfkaaW.PrintLast Go.Proofs.YtkcklnmbeinfkaaW.PrintMore Go.Proofs.Ytkcklnmbeinfkaa.B Go.Proofs.LT
set_option linter.unusedVariables false
set_option linter.unusedSimpArgs false
theorem refValid_loop (N : Nat) (hN : N ≤ 8796093022206) : ∀ (t q : List S102) (p : S102), (q ++ p :: t).length ≤ N → p.f1 ≤ 1073741823 → 0 ≤ p.f1 → Ev (fun k => leadtrailref04_Valid.l0 k (q ++ p :: t) ((q.length : Int) + 1)) (validB 1073741823 p.f1 (t.map L102))
 | [], q, p, _, _, _ => by
  refine evSucc ?_; have hlc := len_cons q p []; have c1 : ¬ (q.length : Int) + 1 < ((q ++ [p]).length : Nat) := by rw [hlc]; simp
  simp only [leadtrailref04_Valid.l0, if_neg c1]; rw [show validB 1073741823 p.f1 (([] : List S102).map L102) = true from validB_nil _ _]; exact evNow _
 | r :: t, q, p, hl, hp, hp0 => by
  have hlc := len_cons q p (r :: t); have e1 : q ++ p :: r :: t = (q ++ [p]) ++ r :: t := by simp
  have e2 : ((q.length : Int) + 1) = ((q ++ [p]).length : Nat) := by simp
  have rr : rd_T102 (q ++ p :: r :: t) ((q.length : Int) + 1) = r := by rw [e1, e2]; exact rd102 _ _ _
  have rp : rd_T102 (q ++ p :: r :: t) (q.length : Int) = p := rd102 _ _ _; have hq : q.length ≤ N := by simp at hl; omega
  have c1 : (q.length : Int) + 1 < ((q ++ p :: r :: t).length : Nat) := by rw [hlc]; simp; omega
  have c2 : (0 : Int) ≤ (q.length : Int) + 1 := by omega
  have c3 : (q.length : Int) + 1 > 0 := by omega
  have c4 : (0 : Int) ≤ (q.length : Int) := by omega
  have c5 : (q.length : Int) < ((q ++ p :: r :: t).length : Nat) := by omega
  have hw1 : Aside0 (wrap64 ((q.length : Int) + 1 - 1) = (q.length : Int)) := Aside0.mk (by rw [w64 (by omega) (by omega)]; omega); have hw2 : Aside0 (wrap64 ((q.length : Int) + 1 + 1) = (q.length : Int) + 1 + 1) := Aside0.mk (w64 (by omega) (by omega)); have hw3 : Aside0 (wrap64 (p.f1 + 1) = p.f1 + 1) := Aside0.mk (w64 (by omega) (by omega)); refine evSucc ?_; simp only [leadtrailref04_Valid.l0, if_pos c1, if_pos c2, if_pos c3, rr, hw1.out, hw2.out, hw3.out, if_pos c4, if_pos c5, rp, List.map_cons, validB_cons]; show Ev _ (if r.f0 < 0 then false else if r.f0 > r.f1 then false else if r.f1 > 1073741823 then false else if r.f0 - 1 ≤ p.f1 then false else validB 1073741823 r.f1 (t.map L102)); by_cases d1 : r.f0 < 0
  ·simp only [if_pos d1]; exact evNow _
  by_cases d2 : r.f0 > r.f1
  ·simp only [if_neg d1, if_pos d2]; exact evNow _
  by_cases d3 : r.f1 > 1073741823
  ·simp only [if_neg d1, if_neg d2, if_pos d3]; exact evNow _
  by_cases d4 : r.f0 ≤ p.f1 + 1
  ·simp only [if_neg d1, if_neg d2, if_neg d3, if_pos d4, if_pos (show r.f0 - 1 ≤ p.f1 by omega)]; exact evNow _
  ·have ih := refValid_loop N hN t (q ++ [p]) r (by rw [← e1]; exact hl) (by omega) (by omega); rw [← e1, ← e2] at ih; simp only [if_neg d1, if_neg d2, if_neg d3, if_neg d4, if_neg (show ¬ r.f0 - 1 ≤ p.f1 by omega)]; exact ih
theorem refValid_is (l : List S102) (hl : l.length * 16 ≤ 140737488351232) : Ev (fun k => leadtrailref04_Valid.f k l) (validB 1073741823 (-2) (l.map L102)) := by
 simp only [leadtrailref04_Valid.f]; cases l with
 | nil =>
  refine evSucc ?_; simp only [leadtrailref04_Valid.l0, List.length_nil, if_neg (show ¬ (0 : Int) < ((0 : Nat) : Int) by omega), List.map_nil, validB_nil]; exact evNow _
 | cons r t =>
  have c1 : (0 : Int) < (((r :: t).length : Nat) : Int) := by rw [List.length_cons]; omega
  have r1 : rd_T102 (r :: t) 0 = r := rfl; have hw : Aside0 (wrap64 ((0 : Int) + 1) = 1) := Aside0.mk (by rw [w64 (by omega) (by omega)]; rfl); refine evSucc ?_; simp only [leadtrailref04_Valid.l0, if_pos c1, if_pos (show (0 : Int) ≤ 0 by omega), r1, if_neg (show ¬ (0 : Int) > 0 by omega), hw.out, List.map_cons, validB_cons]; show Ev _ (if r.f0 < 0 then false else if r.f0 > r.f1 then false else if r.f1 > 1073741823 then false else if r.f0 - 1 ≤ -2 then false else validB 1073741823 r.f1 (t.map L102)); by_cases d1 : r.f0 < 0
  ·simp only [if_pos d1]; exact evNow _
  by_cases d2 : r.f0 > r.f1
  ·simp only [if_neg d1, if_pos d2]; exact evNow _
  by_cases d3 : r.f1 > 1073741823
  ·simp only [if_neg d1, if_neg d2, if_pos d3]; exact evNow _
  simp only [if_neg d1, if_neg d2, if_neg d3, if_neg (show ¬ r.f0 - 1 ≤ -2 by omega)]; exact refValid_loop (r :: t).length (by omega) t [] r (by simp) (by omega) (by omega)
theorem refSet_is (l : List S102) (hl : l.length * 16 ≤ 140737488351232) : ∃ t, Ev (fun k => leadtrailref04_set.f k l) t ∧ t.map L102 = setL 1073741823 (l.map L102) := by
 have h := refValid_is l hl; by_cases d : validB 1073741823 (-2) (l.map L102) = true
 ·refine ⟨l, Ev.bind h ?_, by unfold setL; rw [if_pos d]⟩; simp only [if_pos d]; exact evNow _
 ·refine ⟨[], Ev.bind h ?_, by unfold setL; rw [if_neg d]; rfl⟩; simp only [if_neg d]; exact evNow _
theorem refSet_facts {l : List S102} {s : List S102} (h : s.map L102 = setL 1073741823 (l.map L102)) : ValidFrom 1073741823 (-2) (s.map L102) ∧ s.length ≤ 1073741824 := by
 have hv : ValidFrom 1073741823 (-2) (s.map L102) := by rw [h]; exact setL_valid _ _
 have := valid_len' hv (by omega) (by omega); exact ⟨hv, by simpa using this⟩
theorem valid_snoc {top : Int} : ∀ {o : List Run} {last : Int} {r : Run}, ValidFrom top last o → 0 ≤ r.1 → r.1 ≤ r.2 → r.2 ≤ top → last < r.1 - 1 → (∀ x, Mem o x → x < r.1 - 1) → ValidFrom top last (o ++ [r])
 | [], _, r, _, h0, h1, h2, h3, _ => ⟨h0, h1, h2, h3, trivial⟩
 | q :: o, last, r, hv, h0, h1, h2, h3, hm => by
  obtain ⟨v0, v1, v2, v3, v4⟩ := hv; exact ⟨v0, v1, v2, v3, valid_snoc v4 h0 h1 h2 (hm q.2 (mem_cons.2 (.inl ⟨v1, Int.le_refl _⟩))) fun x hx => hm x (mem_cons.2 (.inr hx))⟩
section
variable (a b : List S102) (both first second : Bool) (cuts : List Int)
end
end Go.Proofs.Ytkcklnmbeinfkaa.PB4
end
section
namespace Go.Proofs.Ytkcklnmbeinfkaa.PBS
open Go.RowKit Go.Proofs.YtkcklnmbeinfkaaW.PrintWords Go.Proofs.YtkcklnmbeinfkaaW.PrintLast Go.Proofs.YtkcklnmbeinfkaaW.PrintMore Go.Proofs.Ytkcklnmbeinfkaa.B Go.Proofs.LT Go.Proofs.Ytkcklnmbeinfkaa.PB3
set_option linter.unusedVariables false
set_option linter.unusedSimpArgs false
def rng (p : Sh) : Ra := ⟨p.f1, lastOf p⟩
theorem shape_b {p : Sh} (h : vShape p.f0 p.f1 = true) : 0 ≤ p.f1 ∧ p.f1 ≤ lastOf p ∧ lastOf p ≤ 1073741823 ∧ cnt (sets p.f0) = lastOf p - p.f1 + 1 ∧ 1 ≤ cnt (sets p.f0) ∧ p.f0.all okPart = true ∧ p.f0.length ≤ 8 := by
 obtain ⟨h1, h2, h3, h4, h5⟩ := vShape_good h; have hc := cnt_pos h4; unfold lastOf; exact ⟨h2.1, by omega, by omega, by omega, hc, h3, h1.2⟩
theorem mem_rng {ss : List Sh} {x : Int} : Mem ((ss.map rng).map PB4.L102) x ↔ Taken ss x := by
 constructor
 ·rintro ⟨r, hr, h1, h2⟩; rw [List.map_map] at hr; obtain ⟨p, hp, rfl⟩ := List.mem_map.1 hr; exact ⟨p, hp, h1, h2⟩
 ·rintro ⟨p, hp, h1, h2⟩; exact ⟨_, List.mem_map.2 ⟨_, List.mem_map.2 ⟨p, hp, rfl⟩, rfl⟩, h1, h2⟩
theorem of_loop (r : List Ra) : ∀ (t pre : List Sh), (pre ++ t).length ≤ 32 → (∀ p ∈ t, In2 p.f0 ∧ vShape p.f0 p.f1 = true) → Ev (fun k => scalars_Norm.f k ((pre ++ t).map rng)) (r, 0, 0) →
 Ev (fun k => repert_Of.l0 k (pre.map rng) (pre ++ t) (((pre ++ t).length : Nat) : Int) (pre.length : Int)) (r, 0)
 | [], pre, _, _, hn => by
  refine evSucc ?_; rw [List.append_nil] at hn ⊢; simp only [repert_Of.l0, if_neg (show ¬ ((pre.length : Nat) : Int) < ((pre.length : Nat) : Int) by omega)]; exact Ev.bind hn (evNow _)
 | p :: t, pre, hl, hp, hn => by
  have hlc := len_cons pre p t; have hpl : pre.length ≤ 32 := by simp at hl; omega
  obtain ⟨hi, hv⟩ := hp p List.mem_cons_self; obtain ⟨b1, b2, b3, b4, b5, _, _⟩ := shape_b hv; have ih := of_loop r t (pre ++ [p]) (by rw [app_snoc]; exact hl) (fun q hq => hp q (List.mem_cons_of_mem _ hq)) (by rw [app_snoc]; exact hn); rw [app_snoc, snoc_len, List.map_append, List.map_singleton] at ih; have c1 : (pre.length : Int) < ((pre ++ p :: t).length : Nat) := by rw [hlc]; omega
  have c2 : (0 : Int) ≤ pre.length := by omega
  have hw : Aside0 (wrap64 ((pre.length : Int) + 1) = (pre.length : Int) + 1) := Aside0.mk (w64 (by omega) (by omega)); have w2 : Aside0 (wrap64 (wrap64 (p.f1 + cnt (sets p.f0)) - 1) = lastOf p) := Aside0.mk (by rw [w64 (x := p.f1 + cnt (sets p.f0)) (by omega) (by omega), w64 (by omega) (by omega)]; unfold lastOf; rfl); refine evSucc ?_; simp only [repert_Of.l0, if_pos c1, if_pos c2, rdSh]; have hcnt := Count_is p.f0 p.f1 hi; rw [if_pos hv] at hcnt; refine Ev.bind hcnt ?_; simp only [w2.out, hw.out, if_pos (show (pre.map rng).length < 8796093022208 by rw [List.length_map]; omega)]; exact ih
theorem rng_ok {ss : List Sh} (hv : ∀ p ∈ ss, vShape p.f0 p.f1 = true) : (ss.map rng).findIdx? PB4.scalars_badP = none := by
 rw [List.findIdx?_eq_none_iff]; intro r hr; obtain ⟨p, hp, rfl⟩ := List.mem_map.1 hr; obtain ⟨b1, b2, b3, _⟩ := shape_b (hv p hp); show (decide (p.f1 < 0) || decide (p.f1 > lastOf p) || decide (lastOf p > 1073741823)) = false; simp only [Bool.or_eq_false_iff, decide_eq_false_iff_not]; exact ⟨⟨by omega, by omega⟩, by omega⟩
def OfSpec (ss : List Sh) (r : List Ra × Int) : Prop := (vScheme ss = false ∧ r = ([], 84)) ∨ (vScheme ss = true ∧ r.2 = 0 ∧ PB4.scalars_IsSet r.1 (Taken ss))
theorem Of_is (ss : List Sh) (hI : InS ss) : ∃ r, Ev (fun k => repert_Of.f k ss) r ∧ OfSpec ss r := by
 have hval := schemeValid_is ss hI; cases hv : vScheme ss
 ·refine ⟨([], 84), ?_, .inl ⟨hv, rfl⟩⟩; rw [hv] at hval; simp only [repert_Of.f]; refine Ev.bind hval ?_; simp only [Bool.false_eq_true, if_false]; exact evNow _
 ·obtain ⟨h1, h2, _⟩ := vScheme_facts hv; obtain ⟨r, r1, r2⟩ := (PB4.scalars_Norm_is (ss.map rng) (by rw [List.length_map]; omega)).2 (rng_ok h2); refine ⟨(r, 0), ?_, .inr ⟨hv, rfl, ?_⟩⟩
  ·rw [hv] at hval; simp only [repert_Of.f]; refine Ev.bind hval ?_; simp only [if_true]; have := of_loop r ss [] (by simpa using h1) (fun p hp => ⟨hI.2 p hp, h2 p hp⟩) (by simpa using r1); simpa using this
  ·exact ⟨r2.1, r2.2.1, fun x => (r2.2.2 x).trans mem_rng⟩
end Go.Proofs.Ytkcklnmbeinfkaa.PBS
end
section
namespace Go.Proofs.Ytkcklnmbeinfkaa.PBS
open Go.RowKit Go.Proofs.YtkcklnmbeinfkaaW.PrintWords Go.Proofs.YtkcklnmbeinfkaaW.PrintLast Go.Proofs.YtkcklnmbeinfkaaW.PrintMore Go.Proofs.Ytkcklnmbeinfkaa.B Go.Proofs.LT Go.Proofs.Ytkcklnmbeinfkaa.PB3
set_option linter.unusedVariables false
set_option linter.unusedSimpArgs false
def PickInv (ss : List Sh) (lo : Int) (i : Nat) (best : Int) : Prop :=
 (best = -1 ∧ ∀ j (hj : j < ss.length), j < i → ¬ lo < ss[j].f1) ∨ (∃ b, ∃ hb : b < ss.length, best = (b : Int) ∧ b < i ∧ lo < ss[b].f1 ∧ ∀ j (hj : j < ss.length), j < i → lo < ss[j].f1 → ss[b].f1 ≤ ss[j].f1)
theorem PickInv.skip {ss : List Sh} {lo best : Int} {i : Nat} (hi : i < ss.length) (h : PickInv ss lo i best) (hn : ¬ lo < ss[i].f1) : PickInv ss lo (i + 1) best := by
 rcases h with ⟨h1, h2⟩ | ⟨b, hb, h1, h2, h3, h4⟩
 ·refine .inl ⟨h1, fun j hj hji => ?_⟩; rcases (by omega : j < i ∨ j = i) with q | rfl
  ·exact h2 j hj q
  ·exact hn
 ·refine .inr ⟨b, hb, h1, by omega, h3, fun j hj hji hlo => ?_⟩; rcases (by omega : j < i ∨ j = i) with q | rfl
  ·exact h4 j hj q hlo
  ·exact (hn hlo).elim
theorem PickInv.first {ss : List Sh} {lo : Int} {i : Nat} (hi : i < ss.length) (h : PickInv ss lo i (-1)) (hn : lo < ss[i].f1) : PickInv ss lo (i + 1) (i : Int) := by
 rcases h with ⟨h1, h2⟩ | ⟨b, hb, h1, h2, h3, h4⟩
 ·refine .inr ⟨i, hi, rfl, by omega, hn, fun j hj hji hlo => ?_⟩; rcases (by omega : j < i ∨ j = i) with q | rfl
  ·exact (h2 j hj q hlo).elim
  ·exact Int.le_refl _
 ·omega
end Go.Proofs.Ytkcklnmbeinfkaa.PBS
end
section
namespace Go.Proofs.Ytkcklnmbeinfkaa.PBS
open Go.RowKit Go.Proofs.YtkcklnmbeinfkaaW.PrintWords Go.Proofs.YtkcklnmbeinfkaaW.PrintLast Go.Proofs.YtkcklnmbeinfkaaW.PrintMore Go.Proofs.Ytkcklnmbeinfkaa.B Go.Proofs.LT Go.Proofs.Ytkcklnmbeinfkaa.PB3
set_option linter.unusedVariables false
set_option linter.unusedSimpArgs false
theorem fixed25 : Ev (fun k => leadtraillaw25_fixed.f k) true := Ev.of (k := 60) (fun k => leadtraillaw25_fixed.mono k) (by kernel_rfl)
def BothSpec (a b : List Sh) (p : Int → Prop) (r : List Ra × Int) : Prop := (¬ (vScheme a = true ∧ vScheme b = true) ∧ r = ([], 84)) ∨ (r.2 = 0 ∧ PB4.scalars_IsSet r.1 p ∧ vScheme a = true ∧ vScheme b = true)
theorem BothSpec.uniq {a b : List Sh} {p : Int → Prop} {r s : List Ra × Int} (h : BothSpec a b p r) (g : BothSpec a b p s) : r = s := by
 rcases h with ⟨h1, rfl⟩ | ⟨h1, h2, h3, h4⟩
 ·rcases g with ⟨_, rfl⟩ | ⟨_, _, g3, g4⟩
  ·rfl
  ·exact (h1 ⟨g3, g4⟩).elim
 ·rcases g with ⟨g1, _⟩ | ⟨g1, g2, _, _⟩
  ·exact (g1 ⟨h3, h4⟩).elim
  ·obtain ⟨r1, r2⟩ := r; obtain ⟨s1, s2⟩ := s; have e1 : r1 = s1 := PB4.scalars_IsSet.uniq h2 g2 (fun _ => Iff.rfl); have e2 : r2 = s2 := h1.trans g1.symm; rw [e1, e2]
theorem set_ok {l : List Ra} {p : Int → Prop} (h : PB4.scalars_IsSet l p) : PB4.setL 1073741823 (l.map PB4.L102) = l.map PB4.L102 := PB4.setL_of h.1
theorem both_is (a b : List Sh) (ha : InS a) (hb : InS b) : ∃ r, Ev (fun k => repert_both.f k a b) r ∧ BothSpec a b (fun x => Taken a x ∧ Taken b x) r := by
 obtain ⟨u, u1, u2⟩ := Of_is a ha; obtain ⟨v, v1, v2⟩ := Of_is b hb; simp only [repert_both.f]; rcases u2 with ⟨h, rfl⟩ | ⟨h, e, hs⟩
 ·refine ⟨([], 84), Ev.bind u1 ?_, .inl ⟨fun q => (by rw [h] at q; cases q.1), rfl⟩⟩; simp only [if_neg (show ¬ (84 : Int) = 0 by omega)]; exact evNow _
 ·rcases v2 with ⟨h', rfl⟩ | ⟨h', e', hs'⟩
  ·refine ⟨([], 84), Ev.bind u1 ?_, .inl ⟨fun q => (by rw [h'] at q; cases q.2), rfl⟩⟩; simp only [if_pos e]; refine Ev.bind v1 ?_; simp only [if_neg (show ¬ (84 : Int) = 0 by omega)]; exact evNow _
  ·obtain ⟨m, m1, m2⟩ := PB4.scalars_Meet_is u.1 v.1 (by have := hs.2.1; omega) (by have := hs'.2.1; omega); refine ⟨(m, 0), Ev.bind u1 ?_, .inr ⟨rfl, ⟨m2.1, m2.2.1, fun x => (m2.2.2 x).trans ?_⟩, h, h'⟩⟩
   ·simp only [if_pos e]; refine Ev.bind v1 ?_; simp only [if_pos e']; exact Ev.bind m1 (evNow _)
   ·rw [set_ok hs, set_ok hs']; have e1 := hs.2.2 x; have e2 := hs'.2.2 x; simp only [e1, e2]
theorem Common25_is (a b : List Sh) (ha : InS a) (hb : InS b) : ∃ r, Ev (fun k => repert_Common.f k a b) r ∧ BothSpec a b (fun x => Taken a x ∧ Taken b x) r := by
 obtain ⟨r, r1, r2⟩ := both_is a b ha hb; exact ⟨r, by simp only [repert_Common.f]; exact Ev.bind r1 (evNow _), r2⟩
theorem BothSpec.len {a b : List Sh} {p : Int → Prop} {r : List Ra × Int} (h : BothSpec a b p r) : r.1.length * 16 ≤ 140737488351232 := by
 rcases h with ⟨_, rfl⟩ | ⟨_, h, _⟩
 ·show 0 * 16 ≤ _; omega
 ·have := h.2.1; omega
end Go.Proofs.Ytkcklnmbeinfkaa.PBS
namespace Go.Proofs.Ytkcklnmbeinfkaa.Pure
open Go.Proofs.Ytkcklnmbeinfkaa.B Go.Proofs.YtkcklnmbeinfkaaW.PrintWords
end Go.Proofs.Ytkcklnmbeinfkaa.Pure
end
section
namespace Go.Proofs.Ytkcklnmbeinfkaa.PBS
open Go.RowKit Go.Proofs.YtkcklnmbeinfkaaW.PrintWords Go.Proofs.YtkcklnmbeinfkaaW.PrintLast Go.Proofs.YtkcklnmbeinfkaaW.PrintMore Go.Proofs.Ytkcklnmbeinfkaa.B Go.Proofs.LT Go.Proofs.Ytkcklnmbeinfkaa.PB3
set_option linter.unusedVariables false
set_option linter.unusedSimpArgs false
def one1 (lo hi : Int) : List Sp := [⟨lo, hi⟩]
theorem one_valid {lo hi : Int} (h0 : 0 ≤ lo) (h1 : lo ≤ hi) (h2 : hi ≤ 255) : ValidFrom 255 (-2) (runs (one1 lo hi)) := ⟨h0, h1, h2, by show (-2 : Int) < lo - 1; omega, trivial⟩
theorem one_size (lo hi : Int) : size (runs (one1 lo hi)) = hi - lo + 1 := by
 show size [(lo, hi)] = _; rw [size_cons, size_nil]; omega
theorem one_ok {lo hi : Int} (h0 : 0 ≤ lo) (h1 : lo ≤ hi) (h2 : hi ≤ 255) : okPart (one1 lo hi) = true := by
 simp only [okPart, (validB_iff _ _ _).2 (one_valid h0 h1 h2)]; rfl
def some10 : List Sh := [⟨[one1 194 223, one1 128 191], 128⟩, ⟨[one1 0 127], 0⟩]
theorem c10a : cnt (sets [one1 194 223, one1 128 191]) = 1920 := by
 show cnt [runs (one1 194 223), runs (one1 128 191)] = 1920; rw [cnt_cons, cnt_cons, cnt_nil, one_size, one_size]; rfl
theorem c10b : cnt (sets [one1 0 127]) = 128 := by
 show cnt [runs (one1 0 127)] = 128; rw [cnt_cons, cnt_nil, one_size]; rfl
theorem v10 : vScheme some10 = true := by
 have h1 : vShape [one1 194 223, one1 128 191] 128 = true := by
  unfold vShape; rw [c10a]; simp [one_ok (show (0 : Int) ≤ 194 by decide) (show (194 : Int) ≤ 223 by decide) (by decide), one_ok (show (0 : Int) ≤ 128 by decide) (show (128 : Int) ≤ 191 by decide) (by decide)]
 have h2 : vShape [one1 0 127] 0 = true := by
  unfold vShape; rw [c10b]; simp [one_ok (show (0 : Int) ≤ 0 by decide) (show (0 : Int) ≤ 127 by decide) (by decide)]
 have h3 : meetsB ⟨[one1 0 127], 0⟩ ⟨[one1 194 223, one1 128 191], 128⟩ = false := by
  simp only [meetsB, lastOf, c10a, c10b]; decide
 show (decide (2 ≤ 32) && (vShape [one1 194 223, one1 128 191] 128 && (!([] : List Sh).any (meetsB _) && (vShape [one1 0 127] 0 && (!([⟨[one1 194 223, one1 128 191], 128⟩] : List Sh).any (meetsB ⟨[one1 0 127], 0⟩) && true))))) = true; rw [h1, h2]; simp [h3]
end Go.Proofs.Ytkcklnmbeinfkaa.PBS
end
section
namespace Go.Proofs.Ytkcklnmbeinfkaa.PB4
open Go.RowKit Go.Proofs.YtkcklnmbeinfkaaW.PrintWords Go.Proofs.YtkcklnmbeinfkaaW.PrintLast Go.Proofs.YtkcklnmbeinfkaaW.PrintMore Go.Proofs.Ytkcklnmbeinfkaa.B Go.Proofs.LT
set_option linter.unusedVariables false
set_option linter.unusedSimpArgs false
theorem refSize_loop (N : Nat) (hN : N ≤ 1073741824) : ∀ (t pre : List S102) (last acc : Int), (pre ++ t).length ≤ N → ValidFrom 1073741823 last (t.map L102) → 0 ≤ acc → acc + size (t.map L102) ≤ 4294967296 →
 Ev (fun k => leadtrailref04_Size.l0 k acc (pre.length : Int) (pre ++ t)) (acc + size (t.map L102))
 | [], pre, last, acc, _, _, _, _ => by
  refine evSucc ?_; simp only [leadtrailref04_Size.l0]; rw [List.append_nil]; simp only [if_neg (show ¬ ((pre.length : Nat) : Int) < ((pre.length : Nat) : Int) by omega)]; simpa [size_nil] using evNow acc
 | r :: t, pre, last, acc, hl, hv, h0, h1 => by
  have hlc := len_cons pre r t; have hs := size_nonneg hv.2.2.2.2; have e1 : size ((r :: t).map L102) = (r.f1 - r.f0 + 1) + size (t.map L102) := size_cons _ _; have v0 : 0 ≤ r.f0 := hv.1; have v1 : r.f0 ≤ r.f1 := hv.2.1; have v2 : r.f1 ≤ 1073741823 := hv.2.2.1; have ih := refSize_loop N hN t (pre ++ [r]) r.f1 (acc + (r.f1 - r.f0 + 1)) (by rw [app_snoc]; exact hl) hv.2.2.2.2 (by omega) (by omega); rw [app_snoc, snoc_len] at ih; refine evSucc ?_; have hw : Aside0 (wrap64 ((pre.length : Int) + 1) = (pre.length : Int) + 1) := Aside0.mk (w64 (by omega) (by simp at hl; omega)); have c1 : (pre.length : Int) < ((pre ++ r :: t).length : Nat) := by rw [hlc]; omega
  have c2 : (0 : Int) ≤ pre.length := by omega
  have w1 : Aside0 (wrap64 (r.f1 - r.f0) = r.f1 - r.f0) := Aside0.mk (w64 (by omega) (by omega)); have w2 : Aside0 (wrap64 (r.f1 - r.f0 + 1) = r.f1 - r.f0 + 1) := Aside0.mk (w64 (by omega) (by omega)); have w3 : Aside0 (wrap64 (acc + (r.f1 - r.f0 + 1)) = acc + (r.f1 - r.f0 + 1)) := Aside0.mk (w64 (by omega) (by omega)); simp only [leadtrailref04_Size.l0, if_pos c1, if_pos c2, rd102, hw.out, w1.out, w2.out, w3.out]; have e2 : acc + size ((r :: t).map L102) = acc + (r.f1 - r.f0 + 1) + size (t.map L102) := by omega
  rw [e2]; exact ih
theorem refSize_is (l : List S102) (hl : l.length * 16 ≤ 140737488351232) : Ev (fun k => leadtrailref04_Size.f k l) (size (setL 1073741823 (l.map L102))) := by
 obtain ⟨s, h1, h2⟩ := refSet_is l hl; obtain ⟨hv, hn⟩ := refSet_facts h2; rw [← h2]; refine Ev.bind h1 ?_; have h := refSize_loop s.length hn s [] (-2) 0 (by simp) hv (by omega) (by have := valid_top hv (by omega); omega); simpa using h
end Go.Proofs.Ytkcklnmbeinfkaa.PB4
end
section
namespace Go.Proofs.Ytkcklnmbeinfkaa.PBS
open Go.RowKit Go.Proofs.YtkcklnmbeinfkaaW.PrintWords Go.Proofs.YtkcklnmbeinfkaaW.PrintLast Go.Proofs.YtkcklnmbeinfkaaW.PrintMore Go.Proofs.Ytkcklnmbeinfkaa.B Go.Proofs.LT Go.Proofs.Ytkcklnmbeinfkaa.PB3
set_option linter.unusedVariables false
set_option linter.unusedSimpArgs false
def PartOf (ss : List Sh) (m : Nat) (x : Int) : Prop := ∃ p ∈ ss, ∃ q ∈ p.f0.take m, Mem (runs q) x
theorem gath_in (m : Int) (ss : List Sh) (i n : Int) (Q : Int → Prop) : ∀ (t pre : List (List Sp)) (acc : List Sp) (P : Int → Prop), (pre ++ t).length ≤ 8 → (∀ q ∈ t, In1 q ∧ okPart q = true) → PB3.spans_IsSet acc P →
 (∀ acc', PB3.spans_IsSet acc' (fun x => P x ∨ ∃ q ∈ t, Mem (runs q) x) → ∃ r, Ev (fun k => repert_gathered.l0 k m acc' ss n (wrap64 (i + 1))) (r, 0) ∧ PB3.spans_IsSet r Q) →
 ∃ r, Ev (fun k => repert_gathered.l1 k m acc ss n i (pre ++ t) (((pre ++ t).length : Nat) : Int) (pre.length : Int)) (r, 0) ∧ PB3.spans_IsSet r Q
 | [], pre, acc, P, _, _, hs, cont => by
  obtain ⟨r, r1, r2⟩ := cont acc ⟨hs.1, hs.2.1, fun x => (hs.2.2 x).trans ⟨.inl, fun h => h.elim id fun ⟨q, hq, _⟩ => by cases hq⟩⟩; refine ⟨r, evSucc ?_, r2⟩; rw [List.append_nil]; simp only [repert_gathered.l1, if_neg (show ¬ ((pre.length : Nat) : Int) < ((pre.length : Nat) : Int) by omega)]; exact r1
 | q :: t, pre, acc, P, hl, hi, hs, cont => by
  have hlc := len_cons pre q t; have hpl : pre.length ≤ 8 := by simp at hl; omega
  obtain ⟨q1, q2⟩ := hi q List.mem_cons_self; obtain ⟨a, a1, a2⟩ := PB3.spans_Union_is acc q (by have := hs.2.1; omega) q1; rw [PB3.setL_of hs.1, show q.map PB3.L113 = runs q from rfl, PB3.setL_of (okPart_good q2).1] at a2; have c1 : (pre.length : Int) < ((pre ++ q :: t).length : Nat) := by rw [hlc]; omega
  have c2 : (0 : Int) ≤ pre.length := by omega
  have hw : wrap64 ((pre.length : Int) + 1) = (pre.length : Int) + 1 := w64 (by omega) (by omega); obtain ⟨r, r1, r2⟩ := gath_in m ss i n Q t (pre ++ [q]) a (fun x => P x ∨ Mem (runs q) x) (by rw [app_snoc]; exact hl) (fun s hs => hi s (List.mem_cons_of_mem _ hs)) ⟨a2.1, a2.2.1, fun x => (a2.2.2 x).trans (or_congr (hs.2.2 x) Iff.rfl)⟩ (fun acc' h => cont acc' ⟨h.1, h.2.1, fun x => (h.2.2 x).trans ⟨fun h => by
   rcases h with (h | h) | ⟨s, hs, h⟩
   ·exact .inl h
   ·exact .inr ⟨q, List.mem_cons_self, h⟩
   ·exact .inr ⟨s, List.mem_cons_of_mem _ hs, h⟩, fun h => by
   rcases h with h2 | ⟨s, hs, h2⟩
   ·exact .inl (.inl h2)
   ·rcases List.mem_cons.1 hs with e | hs
    ·rw [e] at h2; exact .inl (.inr h2)
    ·exact .inr ⟨s, hs, h2⟩⟩⟩)
  rw [app_snoc, snoc_len] at r1; refine ⟨r, evSucc ?_, r2⟩; simp only [repert_gathered.l1, if_pos c1, if_pos c2, rdL, hw]; exact Ev.bind a1 r1
theorem gath_loop (m : Nat) (hm : m ≤ 8) : ∀ (t pre : List Sh) (acc : List Sp), (pre ++ t).length ≤ 32 → (∀ p ∈ t, In2 p.f0 ∧ vShape p.f0 p.f1 = true) → PB3.spans_IsSet acc (PartOf pre m) →
 ∃ r, Ev (fun k => repert_gathered.l0 k (m : Int) acc (pre ++ t) (((pre ++ t).length : Nat) : Int) (pre.length : Int)) (r, 0) ∧ PB3.spans_IsSet r (PartOf (pre ++ t) m)
 | [], pre, acc, _, _, hs => by
  refine ⟨acc, evSucc ?_, by rw [List.append_nil]; exact hs⟩; rw [List.append_nil]; simp only [repert_gathered.l0, if_neg (show ¬ ((pre.length : Nat) : Int) < ((pre.length : Nat) : Int) by omega)]; exact evNow _
 | p :: t, pre, acc, hl, hp, hs => by
  have hlc := len_cons pre p t; have hpl : pre.length ≤ 32 := by simp at hl; omega
  obtain ⟨hi, hv⟩ := hp p List.mem_cons_self; obtain ⟨_, _, _, _, _, hall, hl8⟩ := shape_b hv; have c1 : (pre.length : Int) < ((pre ++ p :: t).length : Nat) := by rw [hlc]; omega
  have c2 : (0 : Int) ≤ pre.length := by omega
  have hw : wrap64 ((pre.length : Int) + 1) = (pre.length : Int) + 1 := w64 (by omega) (by omega); have hmn : mn (m : Int) (p.f0.length : Int) = ((min m p.f0.length : Nat) : Int) := by rw [mn_eq]; omega
  have htk : p.f0.take ((min m p.f0.length : Nat) : Int).toNat = p.f0.take m := by
   rw [Int.toNat_natCast]; exact (List.take_eq_take_iff.2 (by omega))
  have hlt : (p.f0.take m).length ≤ 8 := by rw [List.length_take]; omega
  obtain ⟨r, r1, r2⟩ := gath_in (m : Int) (pre ++ p :: t) (pre.length : Int) (((pre ++ p :: t).length : Nat) : Int) (PartOf (pre ++ p :: t) m) (p.f0.take m) [] acc (PartOf pre m) (by simpa using hlt)
   (fun q hq => ⟨hi.2 q (List.mem_of_mem_take hq), List.all_eq_true.1 hall q (List.mem_of_mem_take hq)⟩) hs (fun acc' h => by
    have := gath_loop m hm t (pre ++ [p]) acc' (by rw [app_snoc]; exact hl) (fun q hq => hp q (List.mem_cons_of_mem _ hq)) ⟨h.1, h.2.1, fun x => (h.2.2 x).trans ⟨fun h => by
     rcases h with ⟨s, hs, h⟩ | ⟨q, hq, h⟩
     ·exact ⟨s, by simp [hs], h⟩
     ·exact ⟨p, by simp, q, hq, h⟩, fun ⟨s, hs, h⟩ => by
     rcases List.mem_append.1 hs with hs | hs
     ·exact .inl ⟨s, hs, h⟩
     ·rw [List.mem_singleton.1 hs] at h; exact .inr h⟩⟩
    rw [app_snoc, snoc_len] at this; rw [hw]; exact this)
  refine ⟨r, evSucc ?_, r2⟩; simp only [repert_gathered.l0, if_pos c1, if_pos c2, rdSh, hmn, if_pos (show (0 : Int) ≤ ((min m p.f0.length : Nat) : Int) by omega), if_pos (show ((min m p.f0.length : Nat) : Int) ≤ (p.f0.length : Int) by omega), htk, Option.bind_some]; simpa using r1
theorem gathered_is (ss : List Sh) (hI : InS ss) (hv : vScheme ss = true) (m : Nat) (hm : m ≤ 8) : ∃ r, Ev (fun k => repert_gathered.f k ss (m : Int)) (r, 0) ∧ PB3.spans_IsSet r (PartOf ss m) := by
 obtain ⟨h1, h2, _⟩ := vScheme_facts hv; have hval := schemeValid_is ss hI; rw [hv] at hval; obtain ⟨r, r1, r2⟩ := gath_loop m hm ss [] [] (by simpa using h1) (fun p hp => ⟨hI.2 p hp, h2 p hp⟩) ⟨trivial, by simp, fun x => ⟨fun h => (Mem.nil h).elim, fun ⟨s, hs, _⟩ => by cases hs⟩⟩; refine ⟨r, ?_, by simpa using r2⟩; simp only [repert_gathered.f]; refine Ev.bind hval ?_; simp only [if_true]; simpa using r1
end Go.Proofs.Ytkcklnmbeinfkaa.PBS
end
section
namespace Go.Proofs.Ytkcklnmbeinfkaa.PB3
open Go.RowKit Go.Proofs.YtkcklnmbeinfkaaW.PrintWords Go.Proofs.YtkcklnmbeinfkaaW.PrintLast Go.Proofs.YtkcklnmbeinfkaaW.PrintMore Go.Proofs.Ytkcklnmbeinfkaa.B Go.Proofs.LT
set_option linter.unusedVariables false
set_option linter.unusedSimpArgs false
theorem valid_snoc {top : Int} {r : Run} : ∀ {l : List Run} {last : Int}, ValidFrom top last (l ++ [r]) ↔ (ValidFrom top last l ∧ 0 ≤ r.1 ∧ r.1 ≤ r.2 ∧ r.2 ≤ top ∧ last < r.1 - 1 ∧ ∀ q ∈ l, q.2 < r.1 - 1)
 | [], last => by simp [ValidFrom]
 | q :: t, last => by
  have ih := valid_snoc (top := top) (r := r) (l := t) (last := q.2); rw [List.cons_append]; show (0 ≤ q.1 ∧ q.1 ≤ q.2 ∧ q.2 ≤ top ∧ last < q.1 - 1 ∧ ValidFrom top q.2 (t ++ [r])) ↔ ((0 ≤ q.1 ∧ q.1 ≤ q.2 ∧ q.2 ≤ top ∧ last < q.1 - 1 ∧ ValidFrom top q.2 t) ∧ _); rw [ih]; constructor
  ·rintro ⟨h0, h1, h2, h3, h4, h5, h6, h7, h8, h9⟩; refine ⟨⟨h0, h1, h2, h3, h4⟩, h5, h6, h7, by omega, fun x hx => ?_⟩; rcases List.mem_cons.1 hx with rfl | hx
   ·exact h8
   ·exact h9 x hx
  ·rintro ⟨⟨h0, h1, h2, h3, h4⟩, h5, h6, h7, h8, h9⟩; exact ⟨h0, h1, h2, h3, h4, h5, h6, h7, h9 q List.mem_cons_self, fun x hx => h9 x (List.mem_cons_of_mem _ hx)⟩
theorem rd_last (l : List S113) (q : S113) : rd_T113 (l ++ [q]) ((l ++ [q]).length - 1 : Nat) = q := by simp [rd_T113]
theorem snoc_of {α : Type} : ∀ {l : List α}, 0 < l.length → ∃ i q, l = i ++ [q] := fun {l} h => ⟨l.dropLast, l.getLast (by intro e; rw [e] at h; exact absurd h (by simp)), (List.dropLast_concat_getLast _).symm⟩
theorem setP_spec (p : Nat → Bool) : ∀ n, n ≤ 256 → ValidFrom 255 (-2) ((setP p n).map L113) ∧ (∀ x : Int, Mem ((setP p n).map L113) x ↔ (0 ≤ x ∧ x < n ∧ p x.toNat = true))
 | 0, _ => ⟨trivial, fun x => ⟨fun h => (Mem.nil h).elim, fun h => by omega⟩⟩
 | n + 1, hn => by
  obtain ⟨hv, hm⟩ := setP_spec p n (by omega); by_cases hp : p n = true
  ·by_cases c : 0 < n ∧ p (n - 1) = true
   ·have hpos : 0 < (setP p n).length := by
     have := (hm ((n - 1 : Nat) : Int)).2 ⟨by omega, by omega, by rw [Int.toNat_natCast]; exact c.2⟩; rcases Nat.eq_zero_or_pos (setP p n).length with h | h
     ·rw [List.eq_nil_of_length_eq_zero h] at this; exact (Mem.nil this).elim
     ·exact h
    obtain ⟨i, q, e⟩ := snoc_of hpos; have e1 : setP p (n + 1) = i ++ [⟨q.f0, n⟩] := by
     rw [setP, if_pos hp, if_pos c, e, rd_last]; simp
    rw [e, List.map_append] at hv hm; rw [e1, List.map_append]; have hs := valid_snoc.1 (show ValidFrom 255 (-2) (i.map L113 ++ [L113 q]) from hv); have eL : (L113 q).1 = q.f0 ∧ (L113 q).2 = q.f1 := ⟨rfl, rfl⟩; rw [eL.1, eL.2] at hs; obtain ⟨s0, s1, s2, s3, s4, s5⟩ := hs; have one : ∀ {r : S113} {x : Int}, Mem ([r].map L113) x ↔ (r.f0 ≤ x ∧ x ≤ r.f1) := fun {r x} => by
     show Mem [L113 r] x ↔ _; rw [mem_cons]; exact ⟨fun h => by rcases h with h | h; exact h; exact (Mem.nil h).elim, fun h => .inl h⟩
    have hq : q.f1 = (n : Int) - 1 := by
     have h1 := (hm q.f1).1 (mem_append.2 (.inr (one.2 ⟨s2, by omega⟩))); have h2 := (hm ((n - 1 : Nat) : Int)).2 ⟨by omega, by omega, by rw [Int.toNat_natCast]; exact c.2⟩; rcases mem_append.1 h2 with h2 | h2
     ·obtain ⟨r, hr, h3, h4⟩ := h2; have := s5 r hr; omega
     ·have := one.1 h2; omega
    refine ⟨valid_snoc.2 ⟨s0, s1, ?_, ?_, s4, s5⟩, fun x => ?_⟩
    ·show q.f0 ≤ (n : Int); omega
    ·show (n : Int) ≤ 255; omega
    ·rw [mem_append, one]; have h := hm x; rw [mem_append, one] at h; by_cases cx : x = (n : Int)
     ·subst cx; refine ⟨fun _ => ⟨by omega, by omega, by rw [Int.toNat_natCast]; exact hp⟩, fun _ => .inr ⟨by show q.f0 ≤ (n : Int); omega, Int.le_refl _⟩⟩
     ·constructor
      ·rintro (g | g)
       ·have := h.1 (.inl g); exact ⟨this.1, by omega, this.2.2⟩
       ·have := h.1 (.inr ⟨g.1, by have := g.2; show x ≤ q.f1; rw [hq]; have : x ≤ (n : Int) := this; omega⟩); exact ⟨this.1, by omega, this.2.2⟩
      ·rintro ⟨g1, g2, g3⟩; rcases h.2 ⟨g1, by omega, g3⟩ with g | g
       ·exact .inl g
       ·exact .inr ⟨g.1, by show x ≤ (n : Int); omega⟩
   ·have e1 : setP p (n + 1) = setP p n ++ [⟨n, n⟩] := by rw [setP, if_pos hp, if_neg c]
    rw [e1, List.map_append]; have one : ∀ {x : Int}, Mem ([(⟨n, n⟩ : S113)].map L113) x ↔ x = n := fun {x} => by
     show Mem [((n : Int), (n : Int))] x ↔ _; rw [mem_cons]; exact ⟨fun h => by rcases h with h | h; exact Int.le_antisymm h.2 h.1; exact (Mem.nil h).elim, fun h => .inl ⟨by show (n : Int) ≤ x; omega, by show x ≤ (n : Int); omega⟩⟩
    refine ⟨valid_snoc.2 ⟨hv, by show (0 : Int) ≤ (n : Int); omega, Int.le_refl _, by show (n : Int) ≤ 255; omega, by show (-2 : Int) < (n : Int) - 1; omega, fun q hq => ?_⟩, fun x => ?_⟩
    ·show q.2 < (n : Int) - 1; have hr := hv.each q hq; have h1 := (hm q.2).1 ⟨q, hq, hr.2.1, Int.le_refl _⟩; rcases (by omega : q.2 < (n : Int) - 1 ∨ (n : Int) - 1 ≤ q.2) with h | h
     ·exact h
     ·refine (c ⟨by omega, ?_⟩).elim; have e : q.2.toNat = n - 1 := by omega
      rw [← e]; exact h1.2.2
    ·rw [mem_append, one, hm x]; constructor
     ·rintro (g | rfl)
      ·exact ⟨g.1, by omega, g.2.2⟩
      ·exact ⟨by omega, by omega, by rw [Int.toNat_natCast]; exact hp⟩
     ·rintro ⟨g1, g2, g3⟩; by_cases cx : x = n
      ·exact .inr cx
      ·exact .inl ⟨g1, by omega, g3⟩
  ·have e1 : setP p (n + 1) = setP p n := by rw [setP, if_neg hp]
   rw [e1]; refine ⟨hv, fun x => ?_⟩; rw [hm x]; constructor
   ·rintro ⟨g1, g2, g3⟩; exact ⟨g1, by omega, g3⟩
   ·rintro ⟨g1, g2, g3⟩; refine ⟨g1, ?_, g3⟩; rcases (by omega : x < (n : Int) ∨ (n : Int) ≤ x) with h | h
    ·exact h
    ·have e : x.toNat = n := by omega
     rw [e] at g3; exact (hp g3).elim
theorem setP_is (p : Nat → Bool) (q : Int → Prop) (h : ∀ x : Int, (0 ≤ x ∧ x < 256 ∧ p x.toNat = true) ↔ q x) : spans_IsSet (setP p 256) q := by
 obtain ⟨hv, hm⟩ := setP_spec p 256 (Nat.le_refl _); refine ⟨hv, ?_, fun x => by rw [hm x]; exact h x⟩; have := valid_len' hv (by omega) (by omega); simpa using this
end Go.Proofs.Ytkcklnmbeinfkaa.PB3
end
section
namespace Go.Proofs.Ytkcklnmbeinfkaa.PBS
open Go.RowKit Go.Proofs.YtkcklnmbeinfkaaW.PrintWords Go.Proofs.YtkcklnmbeinfkaaW.PrintLast Go.Proofs.YtkcklnmbeinfkaaW.PrintMore Go.Proofs.Ytkcklnmbeinfkaa.B Go.Proofs.LT Go.Proofs.Ytkcklnmbeinfkaa.PB3
set_option linter.unusedVariables false
set_option linter.unusedSimpArgs false
def foldW : List Sh → List Int → List Int
 | [], o => o
 | p :: t, o => foldW t (o.set p.f0.length (wrap64 (rd o (p.f0.length : Int) + cnt (sets p.f0))))
theorem foldW_len : ∀ (t : List Sh) (o : List Int), (foldW t o).length = o.length
 | [], _ => rfl
 | p :: t, o => by show (foldW t _).length = _; rw [foldW_len t, List.length_set]
theorem lensW_loop : ∀ (t pre : List Sh) (out : List Int), (pre ++ t).length ≤ 32 → (∀ p ∈ t, In2 p.f0 ∧ vShape p.f0 p.f1 = true) → out.length = 9 →
 Ev (fun k => repert_Lengths.l0 k out (pre ++ t) (((pre ++ t).length : Nat) : Int) (pre.length : Int)) (foldW t out, 0)
 | [], pre, out, _, _, ho => by
  refine evSucc ?_; rw [List.append_nil]; simp only [repert_Lengths.l0, if_neg (show ¬ ((pre.length : Nat) : Int) < ((pre.length : Nat) : Int) by omega)]; exact evNow _
 | p :: t, pre, out, hl, hp, ho => by
  have hlc := len_cons pre p t; have hpl : pre.length ≤ 32 := by simp at hl; omega
  obtain ⟨hi, hv⟩ := hp p List.mem_cons_self; have hl8 := (vShape_good hv).1.2; have c1 : (pre.length : Int) < ((pre ++ p :: t).length : Nat) := by rw [hlc]; omega
  have c2 : (0 : Int) ≤ pre.length := by omega
  have hw : Aside0 (wrap64 ((pre.length : Int) + 1) = (pre.length : Int) + 1) := Aside0.mk (w64 (by omega) (by omega)); have ih := lensW_loop t (pre ++ [p]) (out.set p.f0.length (wrap64 (rd out (p.f0.length : Int) + cnt (sets p.f0)))) (by rw [app_snoc]; exact hl) (fun q hq => hp q (List.mem_cons_of_mem _ hq)) (by rw [List.length_set]; exact ho); rw [app_snoc, snoc_len] at ih; have hcnt := Count_is p.f0 p.f1 hi; rw [if_pos hv] at hcnt; refine evSucc ?_; simp only [repert_Lengths.l0, if_pos c1, if_pos c2, rdSh, if_pos (show (0 : Int) ≤ (p.f0.length : Int) by omega), if_pos (show (p.f0.length : Int) < (out.length : Int) by omega)]; refine Ev.bind hcnt ?_; simp only [hw.out, Int.toNat_natCast]; exact ih
theorem lensR_loop : ∀ (t pre : List Sh) (out : List Int), (pre ++ t).length ≤ 32 → (∀ p ∈ t, In2 p.f0 ∧ vShape p.f0 p.f1 = true) → out.length = 9 →
 Ev (fun k => leadtrailref25_Lengths.l0 k (pre.length : Int) out (pre ++ t)) (foldW t out, 0)
 | [], pre, out, _, _, ho => by
  refine evSucc ?_; rw [List.append_nil]; simp only [leadtrailref25_Lengths.l0, if_neg (show ¬ ((pre.length : Nat) : Int) < ((pre.length : Nat) : Int) by omega)]; exact evNow _
 | p :: t, pre, out, hl, hp, ho => by
  have hlc := len_cons pre p t; have hpl : pre.length ≤ 32 := by simp at hl; omega
  obtain ⟨hi, hv⟩ := hp p List.mem_cons_self; have vg := vShape_good hv; have hl8 := vg.1.2; have pi := cnt_pos vg.2.2.2.1; have c1 : (pre.length : Int) < ((pre ++ p :: t).length : Nat) := by rw [hlc]; omega
  have c2 : (0 : Int) ≤ pre.length := by omega
  have hw : Aside0 (wrap64 ((pre.length : Int) + 1) = (pre.length : Int) + 1) := Aside0.mk (w64 (by omega) (by omega)); have ih := lensR_loop t (pre ++ [p]) (out.set p.f0.length (wrap64 (rd out (p.f0.length : Int) + cnt (sets p.f0)))) (by rw [app_snoc]; exact hl) (fun q hq => hp q (List.mem_cons_of_mem _ hq)) (by rw [List.length_set]; exact ho); rw [app_snoc, snoc_len] at ih; have hcnt := refCount8_is p.f0 p.f1 hi vg.2.2.1 hl8; rw [show min (cnt (sets p.f0)) 1073741825 = cnt (sets p.f0) by have := vg.2.1; have := vg.2.2.2.2; omega] at hcnt; refine evSucc ?_; simp only [leadtrailref25_Lengths.l0, if_pos c1, if_pos c2, rdSh, if_pos (show (0 : Int) ≤ (p.f0.length : Int) by omega), if_pos (show (p.f0.length : Int) < (out.length : Int) by omega)]; refine Ev.bind hcnt ?_; simp only [hw.out, Int.toNat_natCast]; exact ih
def lensS (ss : List Sh) : List Int × Int := if vScheme ss = true then (foldW ss (List.replicate 9 0), 0) else ([], 84)
theorem lensS_len (ss : List Sh) : (lensS ss).1.length ≤ 9 := by
 unfold lensS; split
 ·show (foldW ss _).length ≤ 9; rw [foldW_len]; simp
 ·simp
theorem LengthsW_is (ss : List Sh) (hI : InS ss) : Ev (fun k => repert_Lengths.f k ss) (lensS ss) ∧ Ev (fun k => leadtrailref25_Lengths.f k ss) (lensS ss) := by
 unfold lensS; have hA := schemeValid_is ss hI; have hB := refValid8_is ss hI; cases h : vScheme ss
 ·rw [h] at hA hB; refine ⟨?_, ?_⟩
  ·simp only [repert_Lengths.f]; refine Ev.bind hA ?_; simp only [Bool.false_eq_true, if_false]; exact evNow _
  ·simp only [leadtrailref25_Lengths.f]; refine Ev.bind hB ?_; simp only [Bool.false_eq_true, if_false]; exact evNow _
 ·rw [h] at hA hB; obtain ⟨h1, h2, _⟩ := vScheme_facts h; have l1 := lensW_loop ss [] (List.replicate 9 0) (by simpa using h1) (fun p hp => ⟨hI.2 p hp, h2 p hp⟩) (by simp); have l2 := lensR_loop ss [] (List.replicate 9 0) (by simpa using h1) (fun p hp => ⟨hI.2 p hp, h2 p hp⟩) (by simp); refine ⟨?_, ?_⟩
  ·simp only [repert_Lengths.f]; refine Ev.bind hA ?_; simp only [if_true, if_pos (show (9 : Int) ≤ 35184372088832 by omega)]; simpa using l1
  ·simp only [leadtrailref25_Lengths.f]; refine Ev.bind hB ?_; simp only [if_true, if_pos (show (9 : Int) ≤ 35184372088832 by omega)]; simpa using l2
theorem b25_row (m : Nat) : ∀ (t : List (List Sp)) (i : Nat) (p : Nat → Bool), (∀ q ∈ t, In1 q ∧ okPart q = true) → ∃ p', Ev (fun k => b25.row k (m : Int) i t p) p' ∧ ∀ j : Nat, p' j = true ↔ (p j = true ∨ ∃ q ∈ t.take (m - i), Mem (runs q) (j : Int))
 | [], i, p, _ => ⟨p, evNow _, fun j => by simp⟩
 | s :: t, i, p, h => by
  by_cases c : i < m
  ·obtain ⟨hs1, hs2⟩ := h s List.mem_cons_self; obtain ⟨q, q1, q2⟩ := memb_is s hs1; obtain ⟨p', e1, e2⟩ := b25_row m t (i + 1) (fun j => p j || q j) (fun x hx => h x (List.mem_cons_of_mem _ hx)); refine ⟨p', ?_, fun j => ?_⟩
   ·simp only [b25.row, if_pos (show (i : Int) < (m : Int) by omega)]; exact Ev.bind q1 e1
   ·have hq : q j = true ↔ Mem (runs s) (j : Int) := by
     rw [q2 j, show setL 255 (s.map L113) = runs s from setL_of (okPart_good hs2).1]; exact memB_iff
    rw [e2 j, Bool.or_eq_true, hq, show m - i = (m - (i + 1)) + 1 by omega, List.take_succ_cons]; constructor
    ·rintro ((h1 | h1) | ⟨x, hx, h1⟩)
     ·exact .inl h1
     ·exact .inr ⟨s, List.mem_cons_self, h1⟩
     ·exact .inr ⟨x, List.mem_cons_of_mem _ hx, h1⟩
    ·rintro (h1 | ⟨x, hx, h1⟩)
     ·exact .inl (.inl h1)
     ·rcases List.mem_cons.1 hx with rfl | hx
      ·exact .inl (.inr h1)
      ·exact .inr ⟨x, hx, h1⟩
  ·refine ⟨p, ?_, fun j => ?_⟩
   ·simp only [b25.row, if_neg (show ¬ (i : Int) < (m : Int) by omega)]; exact evNow _
   ·rw [show m - i = 0 by omega]; simp
theorem b25_rows (m : Nat) : ∀ (t : List Sh) (p : Nat → Bool), (∀ s ∈ t, In2 s.f0 ∧ vShape s.f0 s.f1 = true) → ∃ p', Ev (fun k => b25.rows k (m : Int) t p) p' ∧ ∀ j : Nat, p' j = true ↔ (p j = true ∨ PartOf t m (j : Int))
 | [], p, _ => ⟨p, evNow _, fun j => ⟨fun h => .inl h, fun h => by
  rcases h with h | ⟨s, hs, _⟩
  ·exact h
  ·cases hs⟩⟩
 | s :: t, p, h => by
  obtain ⟨hs1, hs2⟩ := h s List.mem_cons_self; obtain ⟨q, q1, q2⟩ := b25_row m s.f0 0 p (fun x hx => ⟨hs1.2 x hx, List.all_eq_true.1 (vShape_good hs2).2.2.1 x hx⟩); obtain ⟨p', e1, e2⟩ := b25_rows m t q (fun x hx => h x (List.mem_cons_of_mem _ hx)); refine ⟨p', Ev.bind q1 e1, fun j => ?_⟩; rw [e2 j, q2 j, Nat.sub_zero]; constructor
  ·rintro ((h1 | h1) | ⟨x, hx, h1⟩)
   ·exact .inl h1
   ·exact .inr ⟨s, List.mem_cons_self, h1⟩
   ·exact .inr ⟨x, List.mem_cons_of_mem _ hx, h1⟩
  ·rintro (h1 | ⟨x, hx, h1⟩)
   ·exact .inl (.inl h1)
   ·rcases List.mem_cons.1 hx with rfl | hx
    ·exact .inl (.inr h1)
    ·exact .inr ⟨x, hx, h1⟩
theorem part_range {ss : List Sh} {m : Nat} (hv : ∀ p ∈ ss, vShape p.f0 p.f1 = true) {x : Int} (h : PartOf ss m x) : 0 ≤ x ∧ x ≤ 255 := by
 obtain ⟨p, hp, q, hq, hm⟩ := h; have := okPart_good (List.all_eq_true.1 (vShape_good (hv p hp)).2.2.1 q (List.mem_of_mem_take hq)); exact this.1.range hm
theorem refBytes25_is (ss : List Sh) (hI : InS ss) (hv : vScheme ss = true) (m : Nat) : ∃ r, Ev (fun k => leadtrailref25_Bytes.f k ss (m : Int)) (r, 0) ∧ PB3.spans_IsSet r (PartOf ss m) := by
 obtain ⟨h1, h2, _⟩ := vScheme_facts hv; have hB := refValid8_is ss hI; rw [hv] at hB; obtain ⟨P, e1, e2⟩ := b25_rows m ss (fun _ => false) (fun s hs => ⟨hI.2 s hs, h2 s hs⟩); refine ⟨setP P 256, ?_, setP_is P _ (fun x => ?_)⟩
 ·simp only [leadtrailref25_Bytes.f]; refine Ev.bind hB ?_; have hs : b25.small ss = true := by
   unfold b25.small; rw [Bool.and_eq_true, decide_eq_true_iff, List.all_eq_true]; exact ⟨by omega, fun s hs => decide_eq_true (by have := (hI.2 s hs).1; omega)⟩
  simp only [if_true, if_pos hs]; exact Ev.bind e1 (evNow _)
 ·constructor
  ·rintro ⟨a, b, c⟩; have := (e2 x.toNat).1 c; rw [Int.toNat_of_nonneg a] at this; rcases this with h | h
   ·cases h
   ·exact h
  ·intro h; have hr := part_range h2 h; exact ⟨hr.1, by omega, (e2 x.toNat).2 (.inr (by rw [Int.toNat_of_nonneg hr.1]; exact h))⟩
theorem gathered_no (ss : List Sh) (hI : InS ss) (hv : vScheme ss = false) (m : Int) : Ev (fun k => repert_gathered.f k ss m) ([], 84) := by
 have hA := schemeValid_is ss hI; rw [hv] at hA; simp only [repert_gathered.f]; refine Ev.bind hA ?_; simp only [Bool.false_eq_true, if_false]; exact evNow _
theorem refBytes25_no (ss : List Sh) (hI : InS ss) (hv : vScheme ss = false) (m : Int) : Ev (fun k => leadtrailref25_Bytes.f k ss m) ([], 84) := by
 have hB := refValid8_is ss hI; rw [hv] at hB; simp only [leadtrailref25_Bytes.f]; refine Ev.bind hB ?_; simp only [Bool.false_eq_true, if_false]; exact evNow _
theorem OfSpec.uniq {ss : List Sh} {r s : List Ra × Int} (h : OfSpec ss r) (g : OfSpec ss s) : r = s := by
 rcases h with ⟨h1, rfl⟩ | ⟨h1, h2, h3⟩ <;> rcases g with ⟨g1, rfl⟩ | ⟨g1, g2, g3⟩
 ·rfl
 ·rw [h1] at g1; cases g1
 ·rw [g1] at h1; cases h1
 ·obtain ⟨r1, r2⟩ := r; obtain ⟨s1, s2⟩ := s; have e1 : r1 = s1 := PB4.scalars_IsSet.uniq h3 g3 (fun _ => Iff.rfl); have e2 : r2 = s2 := h2.trans g2.symm; rw [e1, e2]
theorem OfSpec.len {ss : List Sh} {r : List Ra × Int} (h : OfSpec ss r) : r.1.length ≤ 1073741824 := by
 rcases h with ⟨h1, rfl⟩ | ⟨h1, h2, h3⟩
 ·simp
 ·exact h3.2.1
theorem bytes_both (ss : List Sh) (hI : InS ss) (m : Nat) (hm : m ≤ 8) : ∃ r : List Sp × Int, Ev (fun k => repert_gathered.f k ss (m : Int)) r ∧ Ev (fun k => leadtrailref25_Bytes.f k ss (m : Int)) r ∧ r.1.length ≤ 1073741824 := by
 cases hv : vScheme ss
 ·exact ⟨([], 84), gathered_no ss hI hv _, refBytes25_no ss hI hv _, by simp⟩
 ·obtain ⟨r, r1, r2⟩ := gathered_is ss hI hv m hm; obtain ⟨s, s1, s2⟩ := refBytes25_is ss hI hv m; have e : s = r := PB3.spans_IsSet.uniq s2 r2 (fun _ => Iff.rfl); subst e; exact ⟨(s, 0), r1, s1, r2.2.1⟩
end Go.Proofs.Ytkcklnmbeinfkaa.PBS
end
section
namespace Go.Proofs.Ytkcklnmbeinfkaa.PBS
open Go.RowKit Go.Proofs.YtkcklnmbeinfkaaW.PrintWords Go.Proofs.YtkcklnmbeinfkaaW.PrintLast Go.Proofs.YtkcklnmbeinfkaaW.PrintMore Go.Proofs.Ytkcklnmbeinfkaa.B Go.Proofs.LT Go.Proofs.Ytkcklnmbeinfkaa.PB3
set_option linter.unusedVariables false
set_option linter.unusedSimpArgs false
theorem leadtraillaw25_RepertOwns_ev (ss : List Sh) (hI : InS ss) : Ev (fun k => leadtraillaw25_RepertOwns.f k ss) true := by
 obtain ⟨r, r1, r2⟩ := Of_is ss hI; obtain ⟨c, c1, c2⟩ := Common25_is ss ss hI hI; obtain ⟨n1, _⟩ := LengthsW_is ss hI; obtain ⟨x, x1, _, x3⟩ := bytes_both ss hI 1 (by omega); obtain ⟨y, y1, _, y3⟩ := bytes_both ss hI 8 (by omega); have hx : Ev (fun k => repert_Firsts.f k ss) x := by
  simp only [repert_Firsts.f]; exact Ev.bind x1 (evNow _)
 have hy : Ev (fun k => repert_Bytes.f k ss) y := by
  simp only [repert_Bytes.f]; exact Ev.bind y1 (evNow _)
 have l1 := r2.len; have l2 := c2.len; have l3 := lensS_len ss; have o1 : leadtrailmem_OwnRanges.f [r.1, c.1] = some true := by
  unfold leadtrailmem_OwnRanges.f; rw [if_pos (show [r.1, c.1].length ≤ 5864062014804 by show 2 ≤ 5864062014804; omega), if_pos (List.all_eq_true.2 fun z hz => decide_eq_true (by
   rcases List.mem_cons.1 hz with rfl | hz
   ·omega
   ·rw [List.mem_singleton.1 hz]; omega))]
 have o2 : leadtrailmem_OwnInts.f [(lensS ss).1] = some true := by
  unfold leadtrailmem_OwnInts.f; rw [if_pos (show [(lensS ss).1].length ≤ 5864062014804 by show 1 ≤ 5864062014804; omega), if_pos (List.all_eq_true.2 fun z hz => decide_eq_true (by rw [List.mem_singleton.1 hz]; omega))]
 have o3 : leadtrailmem_OwnSpans.f [x.1, y.1, x.1] = some true := by
  unfold leadtrailmem_OwnSpans.f; rw [if_pos (show [x.1, y.1, x.1].length ≤ 5864062014804 by show 3 ≤ 5864062014804; omega), if_pos (List.all_eq_true.2 fun z hz => decide_eq_true (by
   rcases List.mem_cons.1 hz with rfl | hz
   ·omega
   ·rcases List.mem_cons.1 hz with rfl | hz
    ·omega
    ·rw [List.mem_singleton.1 hz]; omega))]
 simp only [leadtraillaw25_RepertOwns.f]; refine Ev.bind fixed25 ?_; simp only [if_true]; refine Ev.bind (CopyS_is ss hI) (Ev.bind r1 (Ev.bind c1 (Ev.bind n1 (Ev.bind hx (Ev.bind hy (Ev.bind hx ?_)))))); simp only [o1, o2, o3, Option.bind_some, if_true]; refine Ev.bind (SameS_self ss hI) ?_; exact evNow _
end Go.Proofs.Ytkcklnmbeinfkaa.PBS
namespace Go.Proofs.Ytkcklnmbeinfkaa.Pure
open Go.Proofs.Ytkcklnmbeinfkaa.B Go.Proofs.YtkcklnmbeinfkaaW.PrintWords
theorem RepertOwns : ∀ (l0_0 : List S50), (l0_0.length * 32 ≤ 140737488351232 ∧ ∀ x ∈ l0_0, ((x.f0.length * 24 ≤ 140737488351232 ∧ ∀ y ∈ x.f0, (y.length * 16 ≤ 140737488351232 ∧ ∀ x ∈ y, ((Lit.int .i64 x.f0).wf = true ∧ (Lit.int .i64 x.f1).wf = true))) ∧ (Lit.int .i64 x.f1).wf = true)) → ∃ k, leadtraillaw25_RepertOwns.f k l0_0 = some true :=
 fun l0 h => Ev.rounds (PBS.leadtraillaw25_RepertOwns_ev l0 ⟨h.1, fun p hp => ⟨(h.2 p hp).1.1, fun x hx => ((h.2 p hp).1.2 x hx).1⟩⟩)
end Go.Proofs.Ytkcklnmbeinfkaa.Pure
end
