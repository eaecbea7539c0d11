/- Words and laws of this claim, of 15 texts. -/
import Derived.Test.YtkcklnmbeinfkaaKqBx0
import Derived.Test.YtkcklnmbeinfkaaKqBx22
import Derived.Test.YtkcklnmbeinfkaaKqBx23
import Derived.Test.YtkcklnmbeinfkaaKqBx25
import Derived.Test.YtkcklnmbeinfkaaKqBx26
import Derived.Test.YtkcklnmbeinfkaaKqBx12
import Derived.Test.YtkcklnmbeinfkaaKqBx8
import Derived.Test.YtkcklnmbeinfkaaKqBx5
import Derived.Test.YtkcklnmbeinfkaaKqBx9
import Derived.Test.YtkcklnmbeinfkaaKqBx13
import Derived.Test.YtkcklnmbeinfkaaKqBx1
import Derived.Test.YtkcklnmbeinfkaaKqQP0
import Derived.Test.YtkcklnmbeinfkaaKqQW1
import Derived.Test.YtkcklnmbeinfkaaKqBx47
import Derived.Test.YtkcklnmbeinfkaaKqBx40
import Derived.Test.YtkcklnmbeinfkaaKqBx41
import Derived.Test.YtkcklnmbeinfkaaKqBx43
import Derived.Test.YtkcklnmbeinfkaaKqBx44
import Derived.Test.YtkcklnmbeinfkaaKqBx42
import Derived.Test.YtkcklnmbeinfkaaKqBx46
import Derived.KernelRfl
import Derived.Test.YtkcklnmbeinfkaaKqBx52
import Derived.Test.YtkcklnmbeinfkaaKqBx45
section
namespace Go.Proofs.Ytkcklnmbeinfkaa.PBS
open Go.RowKit Go.Proofs.YtkcklnmbeinfkaaW.PrintWords Go.Proofs.YtkcklnmbeinfkaaW.PrintLast Go.Proofs.YtkcklnmbeinfkaaW.PrintMore Go.Proofs.Ytkcklnmbeinfkaa.B Go.Proofs.LT Go.Proofs.Ytkcklnmbeinfkaa.PB3
set_option linter.unusedVariables false
set_option linter.unusedSimpArgs false
def C (p : Sh) : Cs := (sets p.f0, p.f1)
def cs (ss : List Sh) : List Cs := ss.map C
theorem last_C (p : Sh) : lastC (C p) = lastOf p := rfl
theorem vS_facts : ∀ (t pre : List Sh), vS pre t = true → (∀ p ∈ t, vShape p.f0 p.f1 = true) ∧ (∀ q ∈ pre, ∀ p ∈ t, meetsB p q = false) ∧ Apart (cs t)
 | [], _, _ => ⟨fun _ h => (by cases h), fun _ _ _ h => (by cases h), trivial⟩
 | p :: t, pre, h => by
  have h' : (vShape p.f0 p.f1 && (!(pre.any (meetsB p)) && vS (pre ++ [p]) t)) = true := h; simp only [Bool.and_eq_true, Bool.not_eq_true'] at h'; obtain ⟨h1, h2, h3⟩ := h'; obtain ⟨k1, k2, k3⟩ := vS_facts t (pre ++ [p]) h3; refine ⟨fun q hq => ?_, fun q hq r hr => ?_, fun r hr => ?_, k3⟩
  ·rcases List.mem_cons.1 hq with rfl | hq
   ·exact h1
   ·exact k1 q hq
  ·rcases List.mem_cons.1 hr with rfl | hr
   ·cases e : meetsB r q
    ·rfl
    ·rw [List.any_eq_true.2 ⟨q, hq, e⟩] at h2; cases h2
   ·exact k2 q (List.mem_append_left _ hq) r hr
  ·obtain ⟨q, hq, rfl⟩ := List.mem_map.1 hr; have e := k2 p (List.mem_append_right _ (List.mem_singleton.2 rfl)) q hq; simp only [meetsB, Bool.and_eq_false_iff, decide_eq_false_iff_not] at e; rw [last_C, last_C]; show lastOf p < q.f1 ∨ lastOf q < p.f1; omega
theorem vScheme_facts {ss : List Sh} (h : vScheme ss = true) : ss.length ≤ 32 ∧ (∀ p ∈ ss, vShape p.f0 p.f1 = true) ∧ Apart (cs ss) ∧ AllGood (cs ss) := by
 simp only [vScheme, Bool.and_eq_true, decide_eq_true_eq] at h; obtain ⟨k1, k2, k3⟩ := vS_facts ss [] h.2; refine ⟨h.1, k1, k3, fun p hp => ?_⟩; obtain ⟨q, hq, rfl⟩ := List.mem_map.1 hp; exact (vShape_good (k1 q hq)).2.2.2.1
theorem rdSh_at (ss : List Sh) (i : Nat) (h : i < ss.length) : rd_T50 ss (i : Int) = ss[i] := by simp [rd_T50, List.getD, h]
theorem succ_wrap (i : Nat) (h : i ≤ 4611686018427387904) : Aside0 (wrap64 ((i : Int) + 1) = ((i + 1 : Nat) : Int)) := Aside0.mk (by rw [w64 (by omega) (by omega)]; simp)
theorem refMeet_loop (ss : List Sh) (hI : InS ss) (i : Nat) (hi : i < ss.length) (hs : ss.length ≤ 32) (hv : ∀ p ∈ ss.take (i + 1), vShape p.f0 p.f1 = true) : ∀ (n j : Nat), j + n = i → ((ss.take j).any (meetsB ss[i]) = false) →
 Ev (fun k => leadtrailref08_meet.l0 k ss (i : Int) (j : Int)) ((ss.take i).any (meetsB ss[i]))
 | 0, j, hj, hno => by
  refine evSucc ?_; obtain rfl : j = i := by omega
  simp only [leadtrailref08_meet.l0, if_neg (show ¬ (j : Int) < (j : Int) by omega)]; rw [hno]; exact evNow _
 | n + 1, j, hj, hno => by
  have hjl : j < ss.length := by omega
  have vi := vShape_good (hv ss[i] (by rw [List.take_succ_eq_append_getElem hi]; exact List.mem_append_right _ (List.mem_singleton.2 rfl))); have vj := vShape_good (hv ss[j] (by
   have : (ss.take (i + 1))[j]'(by simp; omega) = ss[j] := List.getElem_take ..; rw [← this]; exact List.getElem_mem _))
  have pi := cnt_pos vi.2.2.2.1; have pj := cnt_pos vj.2.2.2.1; have ci := refCount8_is ss[i].f0 ss[i].f1 (hI.2 _ (List.getElem_mem _)) vi.2.2.1 vi.1.2; have cj := refCount8_is ss[j].f0 ss[j].f1 (hI.2 _ (List.getElem_mem _)) vj.2.2.1 vj.1.2; rw [show min (cnt (sets ss[i].f0)) 1073741825 = cnt (sets ss[i].f0) by omega] at ci; rw [show min (cnt (sets ss[j].f0)) 1073741825 = cnt (sets ss[j].f0) by omega] at cj; have hw := succ_wrap j (by omega); have wi : Aside0 (wrap64 (wrap64 (ss[i].f1 + cnt (sets ss[i].f0)) - 1) = lastOf ss[i]) := Aside0.mk (by rw [w64 (x := ss[i].f1 + cnt (sets ss[i].f0)) (by omega) (by omega), w64 (by omega) (by omega)]; rfl); have wj : Aside0 (wrap64 (wrap64 (ss[j].f1 + cnt (sets ss[j].f0)) - 1) = lastOf ss[j]) := Aside0.mk (by rw [w64 (x := ss[j].f1 + cnt (sets ss[j].f0)) (by omega) (by omega), w64 (by omega) (by omega)]; rfl); have yes : meetsB ss[i] ss[j] = true → (ss.take i).any (meetsB ss[i]) = true := fun h => by
   refine List.any_eq_true.2 ⟨ss[j], ?_, h⟩; have : (ss.take i)[j]'(by simp; omega) = ss[j] := List.getElem_take ..; rw [← this]; exact List.getElem_mem _
  have next : meetsB ss[i] ss[j] = false → Ev (fun k => leadtrailref08_meet.l0 k ss (i : Int) (wrap64 ((j : Int) + 1))) ((ss.take i).any (meetsB ss[i])) := fun h => by
   rw [hw.out]; refine refMeet_loop ss hI i hi hs hv n (j + 1) (by omega) ?_; rw [List.take_succ_eq_append_getElem hjl, List.any_append, hno]; simp [h]
  refine evSucc ?_; simp only [leadtrailref08_meet.l0, if_pos (show (j : Int) < (i : Int) by omega), if_pos (show (0 : Int) ≤ (i : Int) by omega), if_pos (show (i : Int) < (ss.length : Int) by omega), if_pos (show (0 : Int) ≤ (j : Int) by omega), if_pos (show (j : Int) < (ss.length : Int) by omega), rdSh_at ss i hi, rdSh_at ss j hjl]; refine Ev.bind cj ?_; simp only [wj.out]; by_cases c1 : ss[i].f1 ≤ lastOf ss[j]
  ·simp only [if_pos c1]; refine Ev.bind ci ?_; simp only [wi.out]; by_cases c2 : ss[j].f1 ≤ lastOf ss[i]
   ·simp only [if_pos c2]; rw [yes (by simp only [meetsB, decide_eq_true c1, decide_eq_true c2]; rfl)]; exact evNow _
   ·simp only [if_neg c2]; exact next (by simp only [meetsB, decide_eq_false c2, Bool.and_false])
  ·simp only [if_neg c1]; exact next (by simp only [meetsB, decide_eq_false c1, Bool.false_and])
theorem refValid_loop8 (ss : List Sh) (hI : InS ss) (hs : ss.length ≤ 32) : ∀ (n i : Nat), i + n = ss.length → (∀ p ∈ ss.take i, vShape p.f0 p.f1 = true) →
 Ev (fun k => leadtrailref08_Valid.l0 k (i : Int) ss) (vS (ss.take i) (ss.drop i))
 | 0, i, hi, hv => by
  refine evSucc ?_; simp only [leadtrailref08_Valid.l0, if_neg (show ¬ (i : Int) < (ss.length : Int) by omega)]; rw [List.drop_of_length_le (by omega)]; exact evNow _
 | n + 1, i, hi, hv => by
  have hil : i < ss.length := by omega
  have hw := succ_wrap i (by omega); have e : vS (ss.take i) (ss.drop i) = (vShape ss[i].f0 ss[i].f1 && (!((ss.take i).any (meetsB ss[i])) && vS (ss.take (i + 1)) (ss.drop (i + 1)))) := by
   rw [List.drop_eq_getElem_cons hil, List.take_succ_eq_append_getElem hil]; rfl
  rw [e]; refine evSucc ?_; simp only [leadtrailref08_Valid.l0, if_pos (show (i : Int) < (ss.length : Int) by omega), if_pos (show (0 : Int) ≤ (i : Int) by omega), rdSh_at ss i hil]; refine Ev.bind (refVShape_is _ _ (hI.2 _ (List.getElem_mem _))) ?_; cases hp : vShape ss[i].f0 ss[i].f1
  ·simp only [Bool.false_eq_true, if_false, Bool.false_and]; exact evNow _
  ·simp only [if_true, Bool.true_and]; have hv' : ∀ p ∈ ss.take (i + 1), vShape p.f0 p.f1 = true := fun p hq => by
    rw [List.take_succ_eq_append_getElem hil] at hq; rcases List.mem_append.1 hq with h | h
    ·exact hv p h
    ·rw [List.mem_singleton.1 h]; exact hp
   have hm := refMeet_loop ss hI i hil hs hv' i 0 (by omega) (by simp); refine Ev.bind (show Ev (fun k => leadtrailref08_meet.f k ss (i : Int)) _ from hm) ?_; cases hq : (ss.take i).any (meetsB ss[i])
   ·simp only [Bool.false_eq_true, if_false, Bool.not_false, Bool.true_and, hw.out]; exact refValid_loop8 ss hI hs n (i + 1) (by omega) hv'
   ·simp only [if_true, Bool.not_true, Bool.false_and]; exact evNow _
theorem refValid8_is (ss : List Sh) (hI : InS ss) : Ev (fun k => leadtrailref08_Valid.f k ss) (vScheme ss) := by
 simp only [leadtrailref08_Valid.f]; by_cases c : (ss.length : Int) > 32
 ·simp only [if_pos c]; rw [show vScheme ss = false by simp only [vScheme, decide_eq_false (show ¬ ss.length ≤ 32 by omega), Bool.false_and]]; exact evNow _
 ·simp only [if_neg c]; rw [show vScheme ss = vS [] ss by simp only [vScheme, decide_eq_true (show ss.length ≤ 32 by omega), Bool.true_and]]; simpa using refValid_loop8 ss hI (by omega) ss.length 0 (by omega) (by simp)
theorem copyS_loop (ss : List Sh) (hI : InS ss) : ∀ (n i : Nat), i + n = ss.length → Ev (fun k => leadtrailref08_Copy.l0 k (i : Int) ss (ss.take i)) ss
 | 0, i, hi => by
  refine evSucc ?_; simp only [leadtrailref08_Copy.l0, if_neg (show ¬ (i : Int) < (ss.length : Int) by omega)]; rw [List.take_of_length_le (by omega)]; exact evNow _
 | n + 1, i, hi => by
  have hil : i < ss.length := by omega
  have h2 := hI.1; have hw := succ_wrap i (by omega); have ih := copyS_loop ss hI n (i + 1) (by omega); rw [List.take_succ_eq_append_getElem hil] at ih; refine evSucc ?_; simp only [leadtrailref08_Copy.l0, if_pos (show (i : Int) < (ss.length : Int) by omega), if_pos (show (0 : Int) ≤ (i : Int) by omega), rdSh_at ss i hil]; refine Ev.bind (Copy_is _ _ (hI.2 _ (List.getElem_mem _))) ?_; simp only [if_pos (show (ss.take i).length < 4398046511104 by rw [List.length_take]; omega), hw.out]; exact ih
theorem CopyS_is (ss : List Sh) (hI : InS ss) : Ev (fun k => leadtrailref08_Copy.f k ss) ss := by
 have := copyS_loop ss hI ss.length 0 (by omega); rw [List.take_zero] at this; exact this
theorem sameS_loop (ss : List Sh) (hI : InS ss) : ∀ (n i : Nat), i + n = ss.length → Ev (fun k => leadtrailref08_Same.l0 k (i : Int) ss ss) true
 | 0, i, hi => by
  refine evSucc ?_; simp only [leadtrailref08_Same.l0, if_neg (show ¬ (i : Int) < (ss.length : Int) by omega)]; exact evNow _
 | n + 1, i, hi => by
  have hil : i < ss.length := by omega
  have h2 := hI.1; have hw := succ_wrap i (by omega); refine evSucc ?_; simp only [leadtrailref08_Same.l0, if_pos (show (i : Int) < (ss.length : Int) by omega), if_pos (show (0 : Int) ≤ (i : Int) by omega), rdSh_at ss i hil]; refine Ev.bind (SameShape_self _ _ (hI.2 _ (List.getElem_mem _))) ?_; simp only [if_true, hw.out]; exact sameS_loop ss hI n (i + 1) (by omega)
theorem SameS_self (ss : List Sh) (hI : InS ss) : Ev (fun k => leadtrailref08_Same.f k ss ss) true := by
 simp only [leadtrailref08_Same.f, if_true]; exact sameS_loop ss hI ss.length 0 (by omega)
end Go.Proofs.Ytkcklnmbeinfkaa.PBS
end
section
namespace Go.Proofs.Ytkcklnmbeinfkaa.PB4
open Go.RowKit Go.Proofs.YtkcklnmbeinfkaaW.PrintWords Go.Proofs.YtkcklnmbeinfkaaW.PrintLast Go.Proofs.YtkcklnmbeinfkaaW.PrintMore Go.Proofs.Ytkcklnmbeinfkaa.B Go.Proofs.LT
set_option linter.unusedVariables false
set_option linter.unusedSimpArgs false
def cnt (l : List Int) (x : Int) : Nat := l.countP fun y => decide (y ≤ x)
theorem cnt_nil (x : Int) : cnt [] x = 0 := rfl
theorem cnt_cons (y : Int) (l : List Int) (x : Int) : cnt (y :: l) x = cnt l x + if y ≤ x then 1 else 0 := by
 unfold cnt; rw [List.countP_cons]; simp
theorem cnt_pos {l : List Int} {x : Int} (h : 0 < cnt l x) : ∃ y ∈ l, y ≤ x := by
 unfold cnt at h; obtain ⟨y, hy, h⟩ := List.countP_pos_iff.1 h; exact ⟨y, hy, by simpa using h⟩
attribute [irreducible] cnt
end Go.Proofs.Ytkcklnmbeinfkaa.PB4
end
section
namespace Go.Proofs.Ytkcklnmbeinfkaa.PB4
open Go.RowKit Go.Proofs.YtkcklnmbeinfkaaW.PrintWords Go.Proofs.YtkcklnmbeinfkaaW.PrintLast Go.Proofs.YtkcklnmbeinfkaaW.PrintMore Go.Proofs.Ytkcklnmbeinfkaa.B Go.Proofs.LT
set_option linter.unusedVariables false
set_option linter.unusedSimpArgs false
theorem refValid_loop (N : Nat) (hN : N ≤ 8796093022206) : ∀ (t q : List S102) (p : S102), (q ++ p :: t).length ≤ N → p.f1 ≤ 1073741823 → 0 ≤ p.f1 → Ev (fun k => leadtrailref04_Valid.l0 k (q ++ p :: t) ((q.length : Int) + 1)) (validB 1073741823 p.f1 (t.map L102))
 | [], q, p, _, _, _ => by
  refine evSucc ?_; have hlc := len_cons q p []; have c1 : ¬ (q.length : Int) + 1 < ((q ++ [p]).length : Nat) := by rw [hlc]; simp
  simp only [leadtrailref04_Valid.l0, if_neg c1]; rw [show validB 1073741823 p.f1 (([] : List S102).map L102) = true from validB_nil _ _]; exact evNow _
 | r :: t, q, p, hl, hp, hp0 => by
  have hlc := len_cons q p (r :: t); have e1 : q ++ p :: r :: t = (q ++ [p]) ++ r :: t := by simp
  have e2 : ((q.length : Int) + 1) = ((q ++ [p]).length : Nat) := by simp
  have rr : rd_T102 (q ++ p :: r :: t) ((q.length : Int) + 1) = r := by rw [e1, e2]; exact rd102 _ _ _
  have rp : rd_T102 (q ++ p :: r :: t) (q.length : Int) = p := rd102 _ _ _; have hq : q.length ≤ N := by simp at hl; omega
  have c1 : (q.length : Int) + 1 < ((q ++ p :: r :: t).length : Nat) := by rw [hlc]; simp; omega
  have c2 : (0 : Int) ≤ (q.length : Int) + 1 := by omega
  have c3 : (q.length : Int) + 1 > 0 := by omega
  have c4 : (0 : Int) ≤ (q.length : Int) := by omega
  have c5 : (q.length : Int) < ((q ++ p :: r :: t).length : Nat) := by omega
  have hw1 : Aside0 (wrap64 ((q.length : Int) + 1 - 1) = (q.length : Int)) := Aside0.mk (by rw [w64 (by omega) (by omega)]; omega); have hw2 : Aside0 (wrap64 ((q.length : Int) + 1 + 1) = (q.length : Int) + 1 + 1) := Aside0.mk (w64 (by omega) (by omega)); have hw3 : Aside0 (wrap64 (p.f1 + 1) = p.f1 + 1) := Aside0.mk (w64 (by omega) (by omega)); refine evSucc ?_; simp only [leadtrailref04_Valid.l0, if_pos c1, if_pos c2, if_pos c3, rr, hw1.out, hw2.out, hw3.out, if_pos c4, if_pos c5, rp, List.map_cons, validB_cons]; show Ev _ (if r.f0 < 0 then false else if r.f0 > r.f1 then false else if r.f1 > 1073741823 then false else if r.f0 - 1 ≤ p.f1 then false else validB 1073741823 r.f1 (t.map L102)); by_cases d1 : r.f0 < 0
  ·simp only [if_pos d1]; exact evNow _
  by_cases d2 : r.f0 > r.f1
  ·simp only [if_neg d1, if_pos d2]; exact evNow _
  by_cases d3 : r.f1 > 1073741823
  ·simp only [if_neg d1, if_neg d2, if_pos d3]; exact evNow _
  by_cases d4 : r.f0 ≤ p.f1 + 1
  ·simp only [if_neg d1, if_neg d2, if_neg d3, if_pos d4, if_pos (show r.f0 - 1 ≤ p.f1 by omega)]; exact evNow _
  ·have ih := refValid_loop N hN t (q ++ [p]) r (by rw [← e1]; exact hl) (by omega) (by omega); rw [← e1, ← e2] at ih; simp only [if_neg d1, if_neg d2, if_neg d3, if_neg d4, if_neg (show ¬ r.f0 - 1 ≤ p.f1 by omega)]; exact ih
theorem refValid_is (l : List S102) (hl : l.length * 16 ≤ 140737488351232) : Ev (fun k => leadtrailref04_Valid.f k l) (validB 1073741823 (-2) (l.map L102)) := by
 simp only [leadtrailref04_Valid.f]; cases l with
 | nil =>
  refine evSucc ?_; simp only [leadtrailref04_Valid.l0, List.length_nil, if_neg (show ¬ (0 : Int) < ((0 : Nat) : Int) by omega), List.map_nil, validB_nil]; exact evNow _
 | cons r t =>
  have c1 : (0 : Int) < (((r :: t).length : Nat) : Int) := by rw [List.length_cons]; omega
  have r1 : rd_T102 (r :: t) 0 = r := rfl; have hw : Aside0 (wrap64 ((0 : Int) + 1) = 1) := Aside0.mk (by rw [w64 (by omega) (by omega)]; rfl); refine evSucc ?_; simp only [leadtrailref04_Valid.l0, if_pos c1, if_pos (show (0 : Int) ≤ 0 by omega), r1, if_neg (show ¬ (0 : Int) > 0 by omega), hw.out, List.map_cons, validB_cons]; show Ev _ (if r.f0 < 0 then false else if r.f0 > r.f1 then false else if r.f1 > 1073741823 then false else if r.f0 - 1 ≤ -2 then false else validB 1073741823 r.f1 (t.map L102)); by_cases d1 : r.f0 < 0
  ·simp only [if_pos d1]; exact evNow _
  by_cases d2 : r.f0 > r.f1
  ·simp only [if_neg d1, if_pos d2]; exact evNow _
  by_cases d3 : r.f1 > 1073741823
  ·simp only [if_neg d1, if_neg d2, if_pos d3]; exact evNow _
  simp only [if_neg d1, if_neg d2, if_neg d3, if_neg (show ¬ r.f0 - 1 ≤ -2 by omega)]; exact refValid_loop (r :: t).length (by omega) t [] r (by simp) (by omega) (by omega)
theorem refSet_is (l : List S102) (hl : l.length * 16 ≤ 140737488351232) : ∃ t, Ev (fun k => leadtrailref04_set.f k l) t ∧ t.map L102 = setL 1073741823 (l.map L102) := by
 have h := refValid_is l hl; by_cases d : validB 1073741823 (-2) (l.map L102) = true
 ·refine ⟨l, Ev.bind h ?_, by unfold setL; rw [if_pos d]⟩; simp only [if_pos d]; exact evNow _
 ·refine ⟨[], Ev.bind h ?_, by unfold setL; rw [if_neg d]; rfl⟩; simp only [if_neg d]; exact evNow _
theorem refSet_facts {l : List S102} {s : List S102} (h : s.map L102 = setL 1073741823 (l.map L102)) : ValidFrom 1073741823 (-2) (s.map L102) ∧ s.length ≤ 1073741824 := by
 have hv : ValidFrom 1073741823 (-2) (s.map L102) := by rw [h]; exact setL_valid _ _
 have := valid_len' hv (by omega) (by omega); exact ⟨hv, by simpa using this⟩
theorem valid_snoc {top : Int} : ∀ {o : List Run} {last : Int} {r : Run}, ValidFrom top last o → 0 ≤ r.1 → r.1 ≤ r.2 → r.2 ≤ top → last < r.1 - 1 → (∀ x, Mem o x → x < r.1 - 1) → ValidFrom top last (o ++ [r])
 | [], _, r, _, h0, h1, h2, h3, _ => ⟨h0, h1, h2, h3, trivial⟩
 | q :: o, last, r, hv, h0, h1, h2, h3, hm => by
  obtain ⟨v0, v1, v2, v3, v4⟩ := hv; exact ⟨v0, v1, v2, v3, valid_snoc v4 h0 h1 h2 (hm q.2 (mem_cons.2 (.inl ⟨v1, Int.le_refl _⟩))) fun x hx => hm x (mem_cons.2 (.inr hx))⟩
theorem valid_stretch {top : Int} : ∀ {o : List Run} {last : Int} {q : Run} {h : Int}, ValidFrom top last (o ++ [q]) → q.2 ≤ h → h ≤ top → ValidFrom top last (o ++ [(q.1, h)])
 | [], _, q, h, hv, h1, h2 => ⟨hv.1, Int.le_trans hv.2.1 h1, h2, hv.2.2.2.1, trivial⟩
 | p :: o, last, q, h, hv, h1, h2 => ⟨hv.1, hv.2.1, hv.2.2.1, hv.2.2.2.1, valid_stretch hv.2.2.2.2 h1 h2⟩
section
variable (a b : List S102) (both first second : Bool) (cuts : List Int)
end
end Go.Proofs.Ytkcklnmbeinfkaa.PB4
end
section
namespace Go.Proofs.Ytkcklnmbeinfkaa.PBS
open Go.RowKit Go.Proofs.YtkcklnmbeinfkaaW.PrintWords Go.Proofs.YtkcklnmbeinfkaaW.PrintLast Go.Proofs.YtkcklnmbeinfkaaW.PrintMore Go.Proofs.Ytkcklnmbeinfkaa.B Go.Proofs.LT Go.Proofs.Ytkcklnmbeinfkaa.PB3
set_option linter.unusedVariables false
set_option linter.unusedSimpArgs false
def rng (p : Sh) : Ra := ⟨p.f1, lastOf p⟩
theorem shape_b {p : Sh} (h : vShape p.f0 p.f1 = true) : 0 ≤ p.f1 ∧ p.f1 ≤ lastOf p ∧ lastOf p ≤ 1073741823 ∧ cnt (sets p.f0) = lastOf p - p.f1 + 1 ∧ 1 ≤ cnt (sets p.f0) ∧ p.f0.all okPart = true ∧ p.f0.length ≤ 8 := by
 obtain ⟨h1, h2, h3, h4, h5⟩ := vShape_good h; have hc := cnt_pos h4; unfold lastOf; exact ⟨h2.1, by omega, by omega, by omega, hc, h3, h1.2⟩
theorem mem_rng {ss : List Sh} {x : Int} : Mem ((ss.map rng).map PB4.L102) x ↔ Taken ss x := by
 constructor
 ·rintro ⟨r, hr, h1, h2⟩; rw [List.map_map] at hr; obtain ⟨p, hp, rfl⟩ := List.mem_map.1 hr; exact ⟨p, hp, h1, h2⟩
 ·rintro ⟨p, hp, h1, h2⟩; exact ⟨_, List.mem_map.2 ⟨_, List.mem_map.2 ⟨p, hp, rfl⟩, rfl⟩, h1, h2⟩
theorem of_loop (r : List Ra) : ∀ (t pre : List Sh), (pre ++ t).length ≤ 32 → (∀ p ∈ t, In2 p.f0 ∧ vShape p.f0 p.f1 = true) → Ev (fun k => scalars_Norm.f k ((pre ++ t).map rng)) (r, 0, 0) →
 Ev (fun k => repert_Of.l0 k (pre.map rng) (pre ++ t) (((pre ++ t).length : Nat) : Int) (pre.length : Int)) (r, 0)
 | [], pre, _, _, hn => by
  refine evSucc ?_; rw [List.append_nil] at hn ⊢; simp only [repert_Of.l0, if_neg (show ¬ ((pre.length : Nat) : Int) < ((pre.length : Nat) : Int) by omega)]; exact Ev.bind hn (evNow _)
 | p :: t, pre, hl, hp, hn => by
  have hlc := len_cons pre p t; have hpl : pre.length ≤ 32 := by simp at hl; omega
  obtain ⟨hi, hv⟩ := hp p List.mem_cons_self; obtain ⟨b1, b2, b3, b4, b5, _, _⟩ := shape_b hv; have ih := of_loop r t (pre ++ [p]) (by rw [app_snoc]; exact hl) (fun q hq => hp q (List.mem_cons_of_mem _ hq)) (by rw [app_snoc]; exact hn); rw [app_snoc, snoc_len, List.map_append, List.map_singleton] at ih; have c1 : (pre.length : Int) < ((pre ++ p :: t).length : Nat) := by rw [hlc]; omega
  have c2 : (0 : Int) ≤ pre.length := by omega
  have hw : Aside0 (wrap64 ((pre.length : Int) + 1) = (pre.length : Int) + 1) := Aside0.mk (w64 (by omega) (by omega)); have w2 : Aside0 (wrap64 (wrap64 (p.f1 + cnt (sets p.f0)) - 1) = lastOf p) := Aside0.mk (by rw [w64 (x := p.f1 + cnt (sets p.f0)) (by omega) (by omega), w64 (by omega) (by omega)]; unfold lastOf; rfl); refine evSucc ?_; simp only [repert_Of.l0, if_pos c1, if_pos c2, rdSh]; have hcnt := Count_is p.f0 p.f1 hi; rw [if_pos hv] at hcnt; refine Ev.bind hcnt ?_; simp only [w2.out, hw.out, if_pos (show (pre.map rng).length < 8796093022208 by rw [List.length_map]; omega)]; exact ih
theorem rng_ok {ss : List Sh} (hv : ∀ p ∈ ss, vShape p.f0 p.f1 = true) : (ss.map rng).findIdx? PB4.scalars_badP = none := by
 rw [List.findIdx?_eq_none_iff]; intro r hr; obtain ⟨p, hp, rfl⟩ := List.mem_map.1 hr; obtain ⟨b1, b2, b3, _⟩ := shape_b (hv p hp); show (decide (p.f1 < 0) || decide (p.f1 > lastOf p) || decide (lastOf p > 1073741823)) = false; simp only [Bool.or_eq_false_iff, decide_eq_false_iff_not]; exact ⟨⟨by omega, by omega⟩, by omega⟩
def OfSpec (ss : List Sh) (r : List Ra × Int) : Prop := (vScheme ss = false ∧ r = ([], 84)) ∨ (vScheme ss = true ∧ r.2 = 0 ∧ PB4.scalars_IsSet r.1 (Taken ss))
theorem Of_is (ss : List Sh) (hI : InS ss) : ∃ r, Ev (fun k => repert_Of.f k ss) r ∧ OfSpec ss r := by
 have hval := schemeValid_is ss hI; cases hv : vScheme ss
 ·refine ⟨([], 84), ?_, .inl ⟨hv, rfl⟩⟩; rw [hv] at hval; simp only [repert_Of.f]; refine Ev.bind hval ?_; simp only [Bool.false_eq_true, if_false]; exact evNow _
 ·obtain ⟨h1, h2, _⟩ := vScheme_facts hv; obtain ⟨r, r1, r2⟩ := (PB4.scalars_Norm_is (ss.map rng) (by rw [List.length_map]; omega)).2 (rng_ok h2); refine ⟨(r, 0), ?_, .inr ⟨hv, rfl, ?_⟩⟩
  ·rw [hv] at hval; simp only [repert_Of.f]; refine Ev.bind hval ?_; simp only [if_true]; have := of_loop r ss [] (by simpa using h1) (fun p hp => ⟨hI.2 p hp, h2 p hp⟩) (by simpa using r1); simpa using this
  ·exact ⟨r2.1, r2.2.1, fun x => (r2.2.2 x).trans mem_rng⟩
end Go.Proofs.Ytkcklnmbeinfkaa.PBS
end
section
namespace Go.Proofs.Ytkcklnmbeinfkaa.PBS
open Go.RowKit Go.Proofs.YtkcklnmbeinfkaaW.PrintWords Go.Proofs.YtkcklnmbeinfkaaW.PrintLast Go.Proofs.YtkcklnmbeinfkaaW.PrintMore Go.Proofs.Ytkcklnmbeinfkaa.B Go.Proofs.LT Go.Proofs.Ytkcklnmbeinfkaa.PB3
set_option linter.unusedVariables false
set_option linter.unusedSimpArgs false
abbrev Rw := S109
theorem vS_iff2 : ∀ (t pre : List Sh), vS pre t = true → t.Pairwise (fun a b => meetsB b a = false)
 | [], pre, _ => List.Pairwise.nil
 | p :: t, pre, h => by
  simp only [vS, Bool.and_eq_true, Bool.not_eq_true'] at h; refine List.pairwise_cons.2 ⟨fun q hq => ?_, vS_iff2 t _ h.2.2⟩; exact (vS_facts t (pre ++ [p]) h.2.2).2.1 p (by simp) q hq
def PickInv (ss : List Sh) (lo : Int) (i : Nat) (best : Int) : Prop :=
 (best = -1 ∧ ∀ j (hj : j < ss.length), j < i → ¬ lo < ss[j].f1) ∨ (∃ b, ∃ hb : b < ss.length, best = (b : Int) ∧ b < i ∧ lo < ss[b].f1 ∧ ∀ j (hj : j < ss.length), j < i → lo < ss[j].f1 → ss[b].f1 ≤ ss[j].f1)
theorem PickInv.skip {ss : List Sh} {lo best : Int} {i : Nat} (hi : i < ss.length) (h : PickInv ss lo i best) (hn : ¬ lo < ss[i].f1) : PickInv ss lo (i + 1) best := by
 rcases h with ⟨h1, h2⟩ | ⟨b, hb, h1, h2, h3, h4⟩
 ·refine .inl ⟨h1, fun j hj hji => ?_⟩; rcases (by omega : j < i ∨ j = i) with q | rfl
  ·exact h2 j hj q
  ·exact hn
 ·refine .inr ⟨b, hb, h1, by omega, h3, fun j hj hji hlo => ?_⟩; rcases (by omega : j < i ∨ j = i) with q | rfl
  ·exact h4 j hj q hlo
  ·exact (hn hlo).elim
theorem PickInv.first {ss : List Sh} {lo : Int} {i : Nat} (hi : i < ss.length) (h : PickInv ss lo i (-1)) (hn : lo < ss[i].f1) : PickInv ss lo (i + 1) (i : Int) := by
 rcases h with ⟨h1, h2⟩ | ⟨b, hb, h1, h2, h3, h4⟩
 ·refine .inr ⟨i, hi, rfl, by omega, hn, fun j hj hji hlo => ?_⟩; rcases (by omega : j < i ∨ j = i) with q | rfl
  ·exact (h2 j hj q hlo).elim
  ·exact Int.le_refl _
 ·omega
theorem PickInv.less {ss : List Sh} {lo : Int} {i b : Nat} (hi : i < ss.length) (hb : b < ss.length) (h : PickInv ss lo i (b : Int)) (hn : lo < ss[i].f1) (hl : ss[i].f1 < ss[b].f1) : PickInv ss lo (i + 1) (i : Int) := by
 rcases h with ⟨h1, h2⟩ | ⟨b', hb', h1, h2, h3, h4⟩
 ·omega
 ·obtain rfl : b = b' := by omega
  refine .inr ⟨i, hi, rfl, by omega, hn, fun j hj hji hlo => ?_⟩; rcases (by omega : j < i ∨ j = i) with q | rfl
  ·have := h4 j hj q hlo; omega
  ·exact Int.le_refl _
theorem PickInv.more {ss : List Sh} {lo : Int} {i b : Nat} (hi : i < ss.length) (hb : b < ss.length) (h : PickInv ss lo i (b : Int)) (hl : ¬ ss[i].f1 < ss[b].f1) : PickInv ss lo (i + 1) (b : Int) := by
 rcases h with ⟨h1, h2⟩ | ⟨b', hb', h1, h2, h3, h4⟩
 ·omega
 ·obtain rfl : b = b' := by omega
  refine .inr ⟨b, hb, rfl, by omega, h3, fun j hj hji hlo => ?_⟩; rcases (by omega : j < i ∨ j = i) with q | rfl
  ·exact h4 j hj q hlo
  ·omega
theorem pick (ss : List Sh) (hs : ss.length ≤ 32) (h0 : ∀ p ∈ ss, 0 ≤ p.f1) (x3 : List Rw) (lo : Int) (hx : (x3 = [] ∧ lo = -1) ∨ (∃ o q, x3 = o ++ [q] ∧ lo = q.f0)) (hx3 : x3.length ≤ 32) (res : List Rw)
 (tail : ∀ b : Int, PickInv ss lo ss.length b → Ev (fun k => leadtrailref15_Rows.l1 k x3 b (ss.length : Int) ss) res) :
 ∀ (n i : Nat) (best : Int), i + n = ss.length → PickInv ss lo i best → Ev (fun k => leadtrailref15_Rows.l1 k x3 best (i : Int) ss) res
 | 0, i, best, hn, hI => by
  obtain rfl : i = ss.length := by omega
  exact tail best hI
 | n + 1, i, best, hn, hI => by
  have hi : i < ss.length := by omega
  have ih := pick ss hs h0 x3 lo hx hx3 res tail n (i + 1); have hw := succ_wrap i (by omega); have rdi := rdSh_at ss i hi; have choose : lo < ss[i].f1 → ∀ g : Nat → Option (List Rw), g = (fun k => if best < 0 then leadtrailref15_Rows.l1 k x3 (i : Int) ((i + 1 : Nat) : Int) ss else (if 0 ≤ best then (if best < (ss.length : Int) then (if ss[i].f1 < (rd_T50 ss best).f1 then leadtrailref15_Rows.l1 k x3 (i : Int) ((i + 1 : Nat) : Int) ss else leadtrailref15_Rows.l1 k x3 best ((i + 1 : Nat) : Int) ss) else none) else none)) → Ev g res := fun hc g hg => by
   rw [hg]; rcases hI with ⟨h1, h2⟩ | ⟨b, hb, h1, h2, h3, h4⟩
   ·subst h1; simp only [if_pos (show (-1 : Int) < 0 by omega)]; exact ih (i : Int) (by omega) (PickInv.first hi (.inl ⟨rfl, h2⟩) hc)
   ·subst h1; have hI' : PickInv ss lo i (b : Int) := .inr ⟨b, hb, rfl, h2, h3, h4⟩; simp only [if_neg (show ¬ (b : Int) < 0 by omega), if_pos (show (0 : Int) ≤ (b : Int) by omega), if_pos (show (b : Int) < (ss.length : Int) by omega), rdSh_at ss b hb]; by_cases c : ss[i].f1 < ss[b].f1
    ·simp only [if_pos c]; exact ih (i : Int) (by omega) (PickInv.less hi hb hI' hc c)
    ·simp only [if_neg c]; exact ih (b : Int) (by omega) (PickInv.more hi hb hI' c)
  refine evSucc ?_; simp only [leadtrailref15_Rows.l1, if_pos (show (i : Int) < (ss.length : Int) by omega), if_pos (show (0 : Int) ≤ (i : Int) by omega), rdi, hw.out]; rcases hx with ⟨rfl, hlo⟩ | ⟨o, q, rfl, hlo⟩
  ·simp only [if_pos (show ((([] : List Rw).length : Nat) : Int) = 0 from rfl)]; exact choose (by have := h0 _ (List.getElem_mem hi); omega) _ rfl
  ·have hl : (((o ++ [q]).length : Nat) : Int) = (o.length : Int) + 1 := by simp
   have hol : o.length ≤ 32 := by simp at hx3; omega
   have hw1 : wrap64 ((o.length : Int) + 1 - 1) = (o.length : Int) := by rw [w64 (by omega) (by omega)]; omega
   have hrd : rd_T109 (o ++ [q]) (o.length : Int) = q := by simp [rd_T109]
   simp only [hl, if_neg (show ¬ (o.length : Int) + 1 = 0 by omega), hw1, if_pos (show (0 : Int) ≤ (o.length : Int) by omega), if_pos (show (o.length : Int) < (o.length : Int) + 1 by omega), hrd]; by_cases c : ss[i].f1 > q.f0
   ·simp only [if_pos c]; exact choose (by omega) _ rfl
   ·simp only [if_neg c]; exact ih best (by omega) (PickInv.skip hi hI (by omega))
end Go.Proofs.Ytkcklnmbeinfkaa.PBS
end
section
namespace Go.Proofs.Ytkcklnmbeinfkaa.PBS
open Go.RowKit Go.Proofs.YtkcklnmbeinfkaaW.PrintWords Go.Proofs.YtkcklnmbeinfkaaW.PrintLast Go.Proofs.YtkcklnmbeinfkaaW.PrintMore Go.Proofs.Ytkcklnmbeinfkaa.B Go.Proofs.LT Go.Proofs.Ytkcklnmbeinfkaa.PB3
set_option linter.unusedVariables false
set_option linter.unusedSimpArgs false
def keyR (r : Rw) : Int × Int := (r.f0, r.f1)
def keyS (p : Sh) : Int × Int := (p.f1, lastOf p)
theorem rows_loop (ss : List Sh) (hI : InS ss) (hs : ss.length ≤ 32) (hv : ∀ p ∈ ss, vShape p.f0 p.f1 = true) : ∀ (t pre : List Sh) (x3 : List Rw), (pre ++ t).Perm ss → (pre ++ t).Pairwise (fun p q => lastOf p < q.f1) → x3.map keyR = pre.map keyS →
 ∃ R, Ev (fun k => leadtrailref15_Rows.l0 k x3 ss) R ∧ R.map keyR = (pre ++ t).map keyS
 | [], pre, x3, hp, _, hk => by
  refine ⟨x3, evSucc ?_, by rw [List.append_nil]; exact hk⟩; have h1 := hp.length_eq; have h2 := congrArg List.length hk; simp only [List.length_map, List.append_nil] at h1 h2; simp only [leadtrailref15_Rows.l0, if_neg (show ¬ (x3.length : Int) < (ss.length : Int) by omega)]; exact evNow _
 | p :: t, pre, x3, hp, hw, hk => by
  have h1 := hp.length_eq; have h2 := congrArg List.length hk; simp only [List.length_map, List.length_append, List.length_cons] at h1 h2; have hpm : p ∈ ss := hp.subset (by simp); have hwp := List.pairwise_append.1 hw; have hwt := List.pairwise_cons.1 hwp.2.1; have hx : ∃ lo : Int, ((x3 = [] ∧ lo = -1) ∨ (∃ o q, x3 = o ++ [q] ∧ lo = q.f0)) ∧ lo < p.f1 ∧ ∀ c ∈ pre, c.f1 ≤ lo := by
   rcases List.eq_nil_or_concat pre with rfl | ⟨o, q, rfl⟩
   ·refine ⟨-1, .inl ⟨List.map_eq_nil_iff.1 hk, rfl⟩, ?_, fun c hc => by cases hc⟩; have := (shape_b (hv p hpm)).1; omega
   ·rw [List.concat_eq_append] at hk hwp hp hw; rw [List.map_append, List.map_singleton] at hk; rcases List.eq_nil_or_concat x3 with rfl | ⟨o', q', rfl⟩
    ·simp at hk
    ·rw [List.concat_eq_append] at hk ⊢; rw [List.map_append, List.map_singleton] at hk; have hq := (List.append_inj' hk rfl).2; have hq0 : q'.f0 = q.f1 := congrArg Prod.fst (List.cons.inj hq).1; refine ⟨q'.f0, .inr ⟨o', q', rfl, rfl⟩, ?_, fun c hc => ?_⟩
     ·have a := hwp.2.2 q (by simp) p (by simp); have := shape_b (hv q (hp.subset (by simp))); omega
     ·rw [hq0]; rw [List.concat_eq_append] at hc; rcases List.mem_append.1 hc with hc | hc
      ·have a := (List.pairwise_append.1 hwp.1).2.2 c hc q (by simp); have := shape_b (hv c (hp.subset (by simp [hc]))); omega
      ·rw [List.mem_singleton.1 hc]; exact Int.le_refl _
  obtain ⟨lo, hlo, hlp, hpre⟩ := hx; obtain ⟨hb0, _, _, hcn, _, hall, hl8⟩ := shape_b (hv p hpm); have cands : ∀ c ∈ ss, lo < c.f1 → c = p ∨ p.f1 < c.f1 := fun c hc hcl => by
   rcases List.mem_append.1 (hp.symm.subset hc) with hc' | hc'
   ·have := hpre c hc'; omega
   ·rcases List.mem_cons.1 hc' with rfl | hc'
    ·exact .inl rfl
    ·have := hwt.1 c hc'; have := shape_b (hv p hpm); exact .inr (by omega)
  have key : ∀ b : Nat, (hb : b < ss.length) → ss[b] = p → ∃ R, Ev (fun k => leadtrailref15_Rows.l0 k (x3 ++ [(⟨p.f1, lastOf p, (b : Int)⟩ : Rw)]) ss) R ∧ R.map keyR = (pre ++ p :: t).map keyS := fun b hb hbp => by
   have := rows_loop ss hI hs hv t (pre ++ [p]) (x3 ++ [(⟨p.f1, lastOf p, (b : Int)⟩ : Rw)]) (by rw [app_snoc]; exact hp) (by rw [app_snoc]; exact hw) (by rw [List.map_append, List.map_append, hk]; rfl); rwa [app_snoc] at this
  obtain ⟨b0, hb0l, hb0p⟩ := List.getElem_of_mem hpm; have found : ∀ best : Int, PickInv ss lo ss.length best → ∃ b : Nat, ∃ hb : b < ss.length, best = (b : Int) ∧ ss[b] = p := fun best h => by
   rcases h with ⟨_, h2⟩ | ⟨b, hb, e, _, h3, h4⟩
   ·exact (h2 b0 hb0l hb0l (by rw [hb0p]; exact hlp)).elim
   ·refine ⟨b, hb, e, ?_⟩; rcases cands _ (List.getElem_mem hb) h3 with q | q
    ·exact q
    ·have := h4 b0 hb0l hb0l (by rw [hb0p]; exact hlp); rw [hb0p] at this; omega
  have uniq : ∀ b b' : Nat, (hb : b < ss.length) → (hb' : b' < ss.length) → ss[b] = p → ss[b'] = p → b = b' := fun b b' hb hb' e e' => by
   have hsym : ss.Pairwise (fun p q => p ≠ q) := by
    have hne : (pre ++ p :: t).Pairwise (fun p q => p ≠ q) := by
     refine List.Pairwise.imp_of_mem ?_ hw; intro a c ha hc hac e; subst e; have := shape_b (hv a (hp.subset ha)); omega
    exact (hp.pairwise_iff (fun h => Ne.symm h)).1 hne
   rcases Nat.lt_trichotomy b b' with q | q | q
   ·exact (List.pairwise_iff_getElem.1 hsym b b' hb hb' q (e.trans e'.symm)).elim
   ·exact q
   ·exact (List.pairwise_iff_getElem.1 hsym b' b hb' hb q (e'.trans e.symm)).elim
  obtain ⟨R, hR, hRk⟩ := key b0 hb0l hb0p; refine ⟨R, evSucc ?_, hRk⟩; simp only [leadtrailref15_Rows.l0, if_pos (show (x3.length : Int) < (ss.length : Int) by omega)]; have := pick ss hs (fun q hq => (shape_b (hv q hq)).1) x3 lo hlo (by omega) R (fun best hbest => by
   obtain ⟨b, hb, rfl, hbp⟩ := found best hbest; obtain rfl := uniq b b0 hb hb0l hbp hb0p; refine evSucc ?_; have hcnt := refCount8_is p.f0 p.f1 (hI.2 p hpm) hall hl8; rw [show min (cnt (sets p.f0)) 1073741825 = cnt (sets p.f0) by omega] at hcnt; have w2 : wrap64 (wrap64 (p.f1 + cnt (sets p.f0)) - 1) = lastOf p := by rw [w64 (x := p.f1 + cnt (sets p.f0)) (by omega) (by omega), w64 (by omega) (by omega)]; unfold lastOf; rfl
   simp only [leadtrailref15_Rows.l1, if_neg (show ¬ (ss.length : Int) < (ss.length : Int) by omega), if_pos (show (0 : Int) ≤ (b : Int) by omega), if_pos (show (b : Int) < (ss.length : Int) by omega), rdSh_at ss b hb, hbp]; refine Ev.bind hcnt ?_; simp only [w2, if_pos (show x3.length < 5864062014805 by omega)]; exact hR) ss.length 0 (-1) (by omega) (.inl ⟨rfl, fun j _ h => by omega⟩)
  exact this
theorem sorted_of {ss : List Sh} (hv : vScheme ss = true) : ∃ S : List Sh, S.Perm ss ∧ S.Pairwise (fun p q => lastOf p < q.f1) := by
 obtain ⟨_, h2, _⟩ := vScheme_facts hv; simp only [vScheme, Bool.and_eq_true, decide_eq_true_eq] at hv; have hm := vS_iff2 ss [] hv.2; have hd : ss.Pairwise (fun p q => lastOf p < q.f1 ∨ lastOf q < p.f1) := by
  refine hm.imp ?_; intro a b h; simp only [meetsB, Bool.and_eq_false_iff, decide_eq_false_iff_not] at h; omega
 have hS := List.mergeSort_perm ss (fun p q => decide (p.f1 ≤ q.f1)); have hp : (ss.mergeSort (fun p q => decide (p.f1 ≤ q.f1))).Pairwise (fun p q => decide (p.f1 ≤ q.f1) = true) := List.pairwise_mergeSort (fun a b c h1 h2 => by simp only [decide_eq_true_eq] at *; omega) (fun a b => by simp only [Bool.or_eq_true, decide_eq_true_eq]; omega) ss; refine ⟨_, hS, ?_⟩; have hd' := (hS.pairwise_iff (R := fun p q => lastOf p < q.f1 ∨ lastOf q < p.f1) (fun h => h.symm)).2 hd; refine List.Pairwise.imp_of_mem ?_ (hp.and hd'); rintro a b ha hb ⟨h1, h3⟩; have := shape_b (h2 a (hS.subset ha)); have := shape_b (h2 b (hS.subset hb)); simp only [decide_eq_true_eq] at h1; omega
theorem taken_perm {a b : List Sh} (h : a.Perm b) (x : Int) : Taken a x ↔ Taken b x := ⟨fun ⟨q, hq, e⟩ => ⟨q, h.subset hq, e⟩, fun ⟨q, hq, e⟩ => ⟨q, h.symm.subset hq, e⟩⟩
end Go.Proofs.Ytkcklnmbeinfkaa.PBS
end
section
namespace Go.Proofs.Ytkcklnmbeinfkaa.PBS
open Go.RowKit Go.Proofs.YtkcklnmbeinfkaaW.PrintWords Go.Proofs.YtkcklnmbeinfkaaW.PrintLast Go.Proofs.YtkcklnmbeinfkaaW.PrintMore Go.Proofs.Ytkcklnmbeinfkaa.B Go.Proofs.LT Go.Proofs.Ytkcklnmbeinfkaa.PB3
set_option linter.unusedVariables false
set_option linter.unusedSimpArgs false
theorem valid_le {top : Int} : ∀ {l : List Run} {last : Int}, ValidFrom top last l → ∀ r ∈ l, r.1 ≤ r.2 ∧ -2 < r.1
 | [], _, _, r, hr => by cases hr
 | q :: t, last, hv, r, hr => by
  obtain ⟨v0, v1, v2, v3, v4⟩ := hv; rcases List.mem_cons.1 hr with rfl | hr
  ·exact ⟨v1, by omega⟩
  ·exact valid_le v4 r hr
theorem below_last {top : Int} : ∀ {o : List Run} {last : Int} {q : Run}, ValidFrom top last (o ++ [q]) → ∀ s ∈ o, s.2 < q.1 - 1
 | [], _, _, _, s, hs => by cases hs
 | p :: o, last, q, hv, s, hs => by
  obtain ⟨_, _, _, _, v4⟩ := hv; have from_ : ∀ {l : List Run} {a : Int}, ValidFrom top a l → ∀ r ∈ l, a < r.1 - 1 := fun {l} => by
   induction l with
   | nil => intro a _ r hr; cases hr
   | cons z l ih =>
    intro a hv r hr; rcases List.mem_cons.1 hr with rfl | hr
    ·exact hv.2.2.2.1
    ·have := ih hv.2.2.2.2 r hr; have := hv.2.2.2.1; have := hv.2.1; omega
  rcases List.mem_cons.1 hs with rfl | hs
  ·exact from_ v4 q (by simp)
  ·exact below_last v4 s hs
def AccInv (pre : List Rw) (acc : List Ra) : Prop :=
 acc.length ≤ pre.length ∧ ValidFrom 1073741823 (-2) (acc.map PB4.L102) ∧ (∀ x, Mem (acc.map PB4.L102) x ↔ ∃ r ∈ pre, r.f0 ≤ x ∧ x ≤ r.f1) ∧ (acc = [] ∨ ∃ o q p, acc = o ++ [q] ∧ p ∈ pre ∧ q.f1 = p.f1)
theorem of25_loop : ∀ (t pre : List Rw) (acc : List Ra), (pre ++ t).length ≤ 32 → (∀ r ∈ pre ++ t, 0 ≤ r.f0 ∧ r.f0 ≤ r.f1 ∧ r.f1 ≤ 1073741823) → (pre ++ t).Pairwise (fun a b => a.f1 < b.f0) → AccInv pre acc →
 ∃ r, Ev (fun k => leadtrailref25_Of.l0 k acc (pre.length : Int) (pre ++ t)) (r, 0) ∧ AccInv (pre ++ t) r
 | [], pre, acc, hl, _, _, hA => by
  refine ⟨acc, evSucc ?_, by rw [List.append_nil]; exact hA⟩; rw [List.append_nil]; simp only [leadtrailref25_Of.l0, if_neg (show ¬ (pre.length : Int) < (pre.length : Int) by omega)]; exact evNow _
 | r :: t, pre, acc, hl, hb, hw, hA => by
  have hlc := len_cons pre r t; have hpl : pre.length ≤ 32 := by simp at hl; omega
  obtain ⟨r0, r1, r2⟩ := hb r (by simp); have hwp := List.pairwise_append.1 hw; have hlt : ∀ a ∈ pre, a.f1 < r.f0 := fun a ha => hwp.2.2 a ha r (by simp)
  obtain ⟨a1, a2, a3, a4⟩ := hA; have hmem : ∀ x, Mem (acc.map PB4.L102) x → x < r.f0 := fun x hx => by
   obtain ⟨a, ha, _, h2⟩ := (a3 x).1 hx; have := hlt a ha; omega
  have step : ∀ acc' : List Ra, AccInv (pre ++ [r]) acc' → ∃ q, Ev (fun k => leadtrailref25_Of.l0 k acc' ((pre.length : Int) + 1) (pre ++ r :: t)) (q, 0) ∧ AccInv (pre ++ r :: t) q := fun acc' h => by
   have := of25_loop t (pre ++ [r]) acc' (by rw [app_snoc]; exact hl) (by rw [app_snoc]; exact hb) (by rw [app_snoc]; exact hw) h; rwa [app_snoc, snoc_len] at this
  have c1 : (pre.length : Int) < ((pre ++ r :: t).length : Nat) := by rw [hlc]; omega
  have c2 : (0 : Int) ≤ pre.length := by omega
  have hwr : wrap64 ((pre.length : Int) + 1) = (pre.length : Int) + 1 := w64 (by omega) (by omega); have hrd : rd_T109 (pre ++ r :: t) (pre.length : Int) = r := by simp [rd_T109]
  have memr : ∀ x, (∃ s ∈ pre ++ [r], s.f0 ≤ x ∧ x ≤ s.f1) ↔ ((∃ s ∈ pre, s.f0 ≤ x ∧ x ≤ s.f1) ∨ (r.f0 ≤ x ∧ x ≤ r.f1)) := fun x => by
   constructor
   ·rintro ⟨s, hs, h⟩; rcases List.mem_append.1 hs with hs | hs
    ·exact .inl ⟨s, hs, h⟩
    ·rw [List.mem_singleton.1 hs] at h; exact .inr h
   ·rintro (⟨s, hs, h⟩ | h)
    ·exact ⟨s, by simp [hs], h⟩
    ·exact ⟨r, by simp, h⟩
  have fresh : (∀ x, Mem (acc.map PB4.L102) x → x < r.f0 - 1) → AccInv (pre ++ [r]) (acc ++ [(⟨r.f0, r.f1⟩ : Ra)]) := fun hm => by
   refine ⟨by simp; omega, ?_, fun x => ?_, .inr ⟨acc, ⟨r.f0, r.f1⟩, r, rfl, by simp, rfl⟩⟩
   ·rw [List.map_append, List.map_singleton]; exact PB4.valid_snoc a2 r0 r1 r2 (by show (-2 : Int) < r.f0 - 1; omega) hm
   ·rw [List.map_append, List.map_singleton, mem_append, a3 x, memr x, mem_cons]; exact ⟨fun h => h.elim .inl fun h => h.elim .inr fun h => (Mem.nil h).elim, fun h => h.elim .inl fun h => .inr (.inl h)⟩
  have own : (∀ x, Mem (acc.map PB4.L102) x → x < r.f0 - 1) → ∃ q, Ev (fun k => leadtrailref25_Of.l0 k (acc ++ [(⟨r.f0, r.f1⟩ : Ra)]) ((pre.length : Int) + 1) (pre ++ r :: t)) (q, 0) ∧ AccInv (pre ++ r :: t) q := fun hm => step _ (fresh hm)
  rcases a4 with rfl | ⟨o, q, p, rfl, hp, hq⟩
  ·obtain ⟨z, z1, z2⟩ := own (fun x hx => (Mem.nil hx).elim); refine ⟨z, evSucc ?_, z2⟩; simp only [leadtrailref25_Of.l0, if_pos c1, if_pos c2, hrd, hwr, if_neg (show ¬ ((([] : List Ra).length : Nat) : Int) > 0 by simp), if_pos (show ([] : List Ra).length < 8796093022208 by simp)]; exact z1
  ·have hol : o.length ≤ 32 := by simp at a1; omega
   have hl1 : (((o ++ [q]).length : Nat) : Int) = (o.length : Int) + 1 := by simp
   have hw1 : wrap64 ((o.length : Int) + 1 - 1) = (o.length : Int) := by rw [w64 (by omega) (by omega)]; omega
   have hrq : rd_T102 (o ++ [q]) (o.length : Int) = q := by simp [rd_T102]
   have hql := hlt p hp; have hpb := hb p (by simp [hp]); have hwq : wrap64 (q.f1 + 1) = q.f1 + 1 := w64 (by omega) (by omega); have hset : (o ++ [q]).set ((o.length : Int)).toNat (⟨q.f0, r.f1⟩ : Ra) = o ++ [(⟨q.f0, r.f1⟩ : Ra)] := by simp
   rw [List.map_append, List.map_singleton] at a2 a3; have hqle := (valid_le a2 (PB4.L102 q) (by simp)).1; by_cases c : q.f1 + 1 = r.f0
   ·
     have hA' : AccInv (pre ++ [r]) (o ++ [(⟨q.f0, r.f1⟩ : Ra)]) := by
      refine ⟨by simp at a1 ⊢; omega, ?_, fun x => ?_, .inr ⟨o, ⟨q.f0, r.f1⟩, r, rfl, by simp, rfl⟩⟩
      ·rw [List.map_append, List.map_singleton]; exact PB4.valid_stretch a2 (by show q.f1 ≤ r.f1; omega) r2
      ·rw [List.map_append, List.map_singleton, memr x, ← a3 x, mem_append, mem_append, mem_cons, mem_cons]; have hqle' : q.f0 ≤ q.f1 := hqle; show (_ ∨ ((q.f0 ≤ x ∧ x ≤ r.f1) ∨ _)) ↔ ((_ ∨ ((q.f0 ≤ x ∧ x ≤ q.f1) ∨ _)) ∨ _); constructor
       ·rintro (h | h | h)
        ·exact .inl (.inl h)
        ·rcases (by omega : x ≤ q.f1 ∨ r.f0 ≤ x) with e | e
         ·exact .inl (.inr (.inl ⟨h.1, e⟩))
         ·exact .inr ⟨e, h.2⟩
        ·exact (Mem.nil h).elim
       ·rintro ((h | h | h) | h)
        ·exact .inl h
        ·exact .inr (.inl ⟨h.1, by omega⟩)
        ·exact (Mem.nil h).elim
        ·exact .inr (.inl ⟨by omega, h.2⟩)
     obtain ⟨z, z1, z2⟩ := step _ hA'; refine ⟨z, evSucc ?_, z2⟩; simp only [leadtrailref25_Of.l0, if_pos c1, if_pos c2, hrd, hwr, hl1, if_pos (show (o.length : Int) + 1 > 0 by omega), hw1, if_pos (show (0 : Int) ≤ (o.length : Int) by omega), if_pos (show (o.length : Int) < (o.length : Int) + 1 by omega), hrq, hwq, if_pos c, hset]; exact z1
   ·obtain ⟨z, z1, z2⟩ := own (fun x hx => by
     rw [List.map_append, List.map_singleton] at hx; obtain ⟨s, hs, h1, h2⟩ := hx; rcases List.mem_append.1 hs with hs | hs
     ·
       have hmq : Mem (o.map PB4.L102 ++ [PB4.L102 q]) q.f1 := ⟨PB4.L102 q, by simp, hqle, Int.le_refl _⟩; have hb := below_last a2 s hs; have e : (PB4.L102 q).1 = q.f0 := rfl; have hqle' : q.f0 ≤ q.f1 := hqle; rw [e] at hb; omega
     ·rw [List.mem_singleton.1 hs] at h2; have h2' : x ≤ q.f1 := h2; omega)
    refine ⟨z, evSucc ?_, z2⟩; simp only [leadtrailref25_Of.l0, if_pos c1, if_pos c2, hrd, hwr, hl1, if_pos (show (o.length : Int) + 1 > 0 by omega), hw1, if_pos (show (0 : Int) ≤ (o.length : Int) by omega), if_pos (show (o.length : Int) < (o.length : Int) + 1 by omega), hrq, hwq, if_neg c, if_pos (show (o ++ [q]).length < 8796093022208 by simp; omega)]; exact z1
theorem refOf25_is (ss : List Sh) (hI : InS ss) : ∃ r, Ev (fun k => leadtrailref25_Of.f k ss) r ∧ OfSpec ss r := by
 have hval := refValid8_is ss hI; cases hv : vScheme ss
 ·refine ⟨([], 84), ?_, .inl ⟨hv, rfl⟩⟩; rw [hv] at hval; simp only [leadtrailref25_Of.f]; refine Ev.bind hval ?_; simp only [Bool.false_eq_true, if_false]; exact evNow _
 ·obtain ⟨h1, h2, _⟩ := vScheme_facts hv; obtain ⟨S, hS, hw⟩ := sorted_of hv; obtain ⟨R, hR, hRk⟩ := rows_loop ss hI h1 h2 S [] [] (by simpa using hS) (by simpa using hw) rfl; rw [List.nil_append] at hRk; have hlen : R.length ≤ 32 := by
   have := congrArg List.length hRk; simp only [List.length_map] at this; have := hS.length_eq; omega
  have hmem : ∀ r ∈ R, ∃ p ∈ S, r.f0 = p.f1 ∧ r.f1 = lastOf p := fun r hr => by
   have : keyR r ∈ S.map keyS := by rw [← hRk]; exact List.mem_map.2 ⟨r, hr, rfl⟩
   obtain ⟨p, hp, e⟩ := List.mem_map.1 this; exact ⟨p, hp, (congrArg Prod.fst e).symm, (congrArg Prod.snd e).symm⟩
  have hmem' : ∀ p ∈ S, ∃ r ∈ R, r.f0 = p.f1 ∧ r.f1 = lastOf p := fun p hp => by
   have : keyS p ∈ R.map keyR := by rw [hRk]; exact List.mem_map.2 ⟨p, hp, rfl⟩
   obtain ⟨r, hr, e⟩ := List.mem_map.1 this; exact ⟨r, hr, congrArg Prod.fst e, congrArg Prod.snd e⟩
  have hwR : R.Pairwise (fun a b => a.f1 < b.f0) := by
   have : (R.map keyR).Pairwise (fun a b => a.2 < b.1) := by
    rw [hRk, List.pairwise_map]; exact hw
   rw [List.pairwise_map] at this; exact this
  obtain ⟨r, r1, r2⟩ := of25_loop R [] [] (by simpa using hlen) (fun r hr => by
   obtain ⟨p, hp, e1, e2⟩ := hmem r (by simpa using hr); have := shape_b (h2 p (hS.subset hp)); omega) (by simpa using hwR) ⟨Nat.le_refl _, trivial, fun x => ⟨fun h => (Mem.nil h).elim, fun ⟨s, hs, _⟩ => by cases hs⟩, .inl rfl⟩
  rw [List.nil_append] at r1 r2; refine ⟨(r, 0), ?_, .inr ⟨hv, rfl, r2.2.1, (by have := r2.1; show r.length ≤ 1073741824; omega), fun x => ?_⟩⟩
  ·rw [hv] at hval; simp only [leadtrailref25_Of.f]; refine Ev.bind hval ?_; simp only [if_true]; have hR' : Ev (fun k => leadtrailref15_Rows.f k ss) R := by simp only [leadtrailref15_Rows.f]; exact hR
   exact Ev.bind hR' r1
  ·rw [r2.2.2.1 x, ← taken_perm hS x]; constructor
   ·rintro ⟨s, hs, e1, e2⟩; obtain ⟨p, hp, q1, q2⟩ := hmem s hs; exact ⟨p, hp, by omega, by omega⟩
   ·rintro ⟨p, hp, e1, e2⟩; obtain ⟨s, hs, q1, q2⟩ := hmem' p hp; exact ⟨s, hs, by omega, by omega⟩
end Go.Proofs.Ytkcklnmbeinfkaa.PBS
end
section
namespace Go.Proofs.Ytkcklnmbeinfkaa.PB4
open Go.RowKit Go.Proofs.YtkcklnmbeinfkaaW.PrintWords Go.Proofs.YtkcklnmbeinfkaaW.PrintLast Go.Proofs.YtkcklnmbeinfkaaW.PrintMore Go.Proofs.Ytkcklnmbeinfkaa.B Go.Proofs.LT
set_option linter.unusedVariables false
set_option linter.unusedSimpArgs false
theorem leadtrailref04_Same_loop (N : Nat) (hN : N ≤ 8796093022206) : ∀ (t pre : List S102), (pre ++ t).length ≤ N → Ev (fun k => leadtrailref04_Same.l0 k (pre ++ t) (pre ++ t) (pre.length : Int)) true
 | [], pre, _ => by
  refine evSucc ?_; simp only [leadtrailref04_Same.l0]; rw [List.append_nil]; simp only [if_neg (show ¬ ((pre.length : Nat) : Int) < ((pre.length : Nat) : Int) by omega)]; exact evNow _
 | r :: t, pre, hl => by
  have hlc := len_cons pre r t; have ih := leadtrailref04_Same_loop N hN t (pre ++ [r]) (by rw [app_snoc]; exact hl); rw [app_snoc, snoc_len] at ih; refine evSucc ?_; have c1 : (pre.length : Int) < ((pre ++ r :: t).length : Nat) := by rw [hlc]; omega
  have c2 : (0 : Int) ≤ pre.length := by omega
  have hw : Aside0 (wrap64 ((pre.length : Int) + 1) = (pre.length : Int) + 1) := Aside0.mk (w64 (by omega) (by simp at hl; omega)); simp only [leadtrailref04_Same.l0, if_pos c1, if_pos c2, rd102, hw.out, beq_self_eq_true, Bool.not_true, Bool.or_self, Bool.false_eq_true, if_false]; exact ih
theorem leadtrailref04_Same_self (a : List S102) (hl : a.length * 16 ≤ 140737488351232) : Ev (fun k => leadtrailref04_Same.f k a a) true := by
 have h := leadtrailref04_Same_loop a.length (by omega) a [] (by simp); simp only [leadtrailref04_Same.f, if_true]; simpa using h
end Go.Proofs.Ytkcklnmbeinfkaa.PB4
end
section
namespace Go.Proofs.Ytkcklnmbeinfkaa.PBS
open Go.RowKit Go.Proofs.YtkcklnmbeinfkaaW.PrintWords Go.Proofs.YtkcklnmbeinfkaaW.PrintLast Go.Proofs.YtkcklnmbeinfkaaW.PrintMore Go.Proofs.Ytkcklnmbeinfkaa.B Go.Proofs.LT Go.Proofs.Ytkcklnmbeinfkaa.PB3
set_option linter.unusedVariables false
set_option linter.unusedSimpArgs false
theorem fixed25 : Ev (fun k => leadtraillaw25_fixed.f k) true := Ev.of (k := 60) (fun k => leadtraillaw25_fixed.mono k) (by kernel_rfl)
def BothSpec (a b : List Sh) (p : Int → Prop) (r : List Ra × Int) : Prop := (¬ (vScheme a = true ∧ vScheme b = true) ∧ r = ([], 84)) ∨ (r.2 = 0 ∧ PB4.scalars_IsSet r.1 p ∧ vScheme a = true ∧ vScheme b = true)
theorem BothSpec.uniq {a b : List Sh} {p : Int → Prop} {r s : List Ra × Int} (h : BothSpec a b p r) (g : BothSpec a b p s) : r = s := by
 rcases h with ⟨h1, rfl⟩ | ⟨h1, h2, h3, h4⟩
 ·rcases g with ⟨_, rfl⟩ | ⟨_, _, g3, g4⟩
  ·rfl
  ·exact (h1 ⟨g3, g4⟩).elim
 ·rcases g with ⟨g1, _⟩ | ⟨g1, g2, _, _⟩
  ·exact (g1 ⟨h3, h4⟩).elim
  ·obtain ⟨r1, r2⟩ := r; obtain ⟨s1, s2⟩ := s; have e1 : r1 = s1 := PB4.scalars_IsSet.uniq h2 g2 (fun _ => Iff.rfl); have e2 : r2 = s2 := h1.trans g1.symm; rw [e1, e2]
theorem BothSpec.len {a b : List Sh} {p : Int → Prop} {r : List Ra × Int} (h : BothSpec a b p r) : r.1.length * 16 ≤ 140737488351232 := by
 rcases h with ⟨_, rfl⟩ | ⟨_, h, _⟩
 ·show 0 * 16 ≤ _; omega
 ·have := h.2.1; omega
end Go.Proofs.Ytkcklnmbeinfkaa.PBS
namespace Go.Proofs.Ytkcklnmbeinfkaa.Pure
open Go.Proofs.Ytkcklnmbeinfkaa.B Go.Proofs.YtkcklnmbeinfkaaW.PrintWords
end Go.Proofs.Ytkcklnmbeinfkaa.Pure
end
section
namespace Go.Proofs.Ytkcklnmbeinfkaa.PBS
open Go.RowKit Go.Proofs.YtkcklnmbeinfkaaW.PrintWords Go.Proofs.YtkcklnmbeinfkaaW.PrintLast Go.Proofs.YtkcklnmbeinfkaaW.PrintMore Go.Proofs.Ytkcklnmbeinfkaa.B Go.Proofs.LT Go.Proofs.Ytkcklnmbeinfkaa.PB3
set_option linter.unusedVariables false
set_option linter.unusedSimpArgs false
def one1 (lo hi : Int) : List Sp := [⟨lo, hi⟩]
theorem one_valid {lo hi : Int} (h0 : 0 ≤ lo) (h1 : lo ≤ hi) (h2 : hi ≤ 255) : ValidFrom 255 (-2) (runs (one1 lo hi)) := ⟨h0, h1, h2, by show (-2 : Int) < lo - 1; omega, trivial⟩
theorem one_size (lo hi : Int) : size (runs (one1 lo hi)) = hi - lo + 1 := by
 show size [(lo, hi)] = _; rw [size_cons, size_nil]; omega
theorem one_ok {lo hi : Int} (h0 : 0 ≤ lo) (h1 : lo ≤ hi) (h2 : hi ≤ 255) : okPart (one1 lo hi) = true := by
 simp only [okPart, (validB_iff _ _ _).2 (one_valid h0 h1 h2)]; rfl
def some10 : List Sh := [⟨[one1 194 223, one1 128 191], 128⟩, ⟨[one1 0 127], 0⟩]
theorem c10a : cnt (sets [one1 194 223, one1 128 191]) = 1920 := by
 show cnt [runs (one1 194 223), runs (one1 128 191)] = 1920; rw [cnt_cons, cnt_cons, cnt_nil, one_size, one_size]; rfl
theorem c10b : cnt (sets [one1 0 127]) = 128 := by
 show cnt [runs (one1 0 127)] = 128; rw [cnt_cons, cnt_nil, one_size]; rfl
theorem v10 : vScheme some10 = true := by
 have h1 : vShape [one1 194 223, one1 128 191] 128 = true := by
  unfold vShape; rw [c10a]; simp [one_ok (show (0 : Int) ≤ 194 by decide) (show (194 : Int) ≤ 223 by decide) (by decide), one_ok (show (0 : Int) ≤ 128 by decide) (show (128 : Int) ≤ 191 by decide) (by decide)]
 have h2 : vShape [one1 0 127] 0 = true := by
  unfold vShape; rw [c10b]; simp [one_ok (show (0 : Int) ≤ 0 by decide) (show (0 : Int) ≤ 127 by decide) (by decide)]
 have h3 : meetsB ⟨[one1 0 127], 0⟩ ⟨[one1 194 223, one1 128 191], 128⟩ = false := by
  simp only [meetsB, lastOf, c10a, c10b]; decide
 show (decide (2 ≤ 32) && (vShape [one1 194 223, one1 128 191] 128 && (!([] : List Sh).any (meetsB _) && (vShape [one1 0 127] 0 && (!([⟨[one1 194 223, one1 128 191], 128⟩] : List Sh).any (meetsB ⟨[one1 0 127], 0⟩) && true))))) = true; rw [h1, h2]; simp [h3]
end Go.Proofs.Ytkcklnmbeinfkaa.PBS
end
section
namespace Go.Proofs.Ytkcklnmbeinfkaa.PB4
open Go.RowKit Go.Proofs.YtkcklnmbeinfkaaW.PrintWords Go.Proofs.YtkcklnmbeinfkaaW.PrintLast Go.Proofs.YtkcklnmbeinfkaaW.PrintMore Go.Proofs.Ytkcklnmbeinfkaa.B Go.Proofs.LT
set_option linter.unusedVariables false
set_option linter.unusedSimpArgs false
theorem refSize_loop (N : Nat) (hN : N ≤ 1073741824) : ∀ (t pre : List S102) (last acc : Int), (pre ++ t).length ≤ N → ValidFrom 1073741823 last (t.map L102) → 0 ≤ acc → acc + size (t.map L102) ≤ 4294967296 →
 Ev (fun k => leadtrailref04_Size.l0 k acc (pre.length : Int) (pre ++ t)) (acc + size (t.map L102))
 | [], pre, last, acc, _, _, _, _ => by
  refine evSucc ?_; simp only [leadtrailref04_Size.l0]; rw [List.append_nil]; simp only [if_neg (show ¬ ((pre.length : Nat) : Int) < ((pre.length : Nat) : Int) by omega)]; simpa [size_nil] using evNow acc
 | r :: t, pre, last, acc, hl, hv, h0, h1 => by
  have hlc := len_cons pre r t; have hs := size_nonneg hv.2.2.2.2; have e1 : size ((r :: t).map L102) = (r.f1 - r.f0 + 1) + size (t.map L102) := size_cons _ _; have v0 : 0 ≤ r.f0 := hv.1; have v1 : r.f0 ≤ r.f1 := hv.2.1; have v2 : r.f1 ≤ 1073741823 := hv.2.2.1; have ih := refSize_loop N hN t (pre ++ [r]) r.f1 (acc + (r.f1 - r.f0 + 1)) (by rw [app_snoc]; exact hl) hv.2.2.2.2 (by omega) (by omega); rw [app_snoc, snoc_len] at ih; refine evSucc ?_; have hw : Aside0 (wrap64 ((pre.length : Int) + 1) = (pre.length : Int) + 1) := Aside0.mk (w64 (by omega) (by simp at hl; omega)); have c1 : (pre.length : Int) < ((pre ++ r :: t).length : Nat) := by rw [hlc]; omega
  have c2 : (0 : Int) ≤ pre.length := by omega
  have w1 : Aside0 (wrap64 (r.f1 - r.f0) = r.f1 - r.f0) := Aside0.mk (w64 (by omega) (by omega)); have w2 : Aside0 (wrap64 (r.f1 - r.f0 + 1) = r.f1 - r.f0 + 1) := Aside0.mk (w64 (by omega) (by omega)); have w3 : Aside0 (wrap64 (acc + (r.f1 - r.f0 + 1)) = acc + (r.f1 - r.f0 + 1)) := Aside0.mk (w64 (by omega) (by omega)); simp only [leadtrailref04_Size.l0, if_pos c1, if_pos c2, rd102, hw.out, w1.out, w2.out, w3.out]; have e2 : acc + size ((r :: t).map L102) = acc + (r.f1 - r.f0 + 1) + size (t.map L102) := by omega
  rw [e2]; exact ih
theorem refSize_is (l : List S102) (hl : l.length * 16 ≤ 140737488351232) : Ev (fun k => leadtrailref04_Size.f k l) (size (setL 1073741823 (l.map L102))) := by
 obtain ⟨s, h1, h2⟩ := refSet_is l hl; obtain ⟨hv, hn⟩ := refSet_facts h2; rw [← h2]; refine Ev.bind h1 ?_; have h := refSize_loop s.length hn s [] (-2) 0 (by simp) hv (by omega) (by have := valid_top hv (by omega); omega); simpa using h
end Go.Proofs.Ytkcklnmbeinfkaa.PB4
end
section
namespace Go.Proofs.Ytkcklnmbeinfkaa.PBS
open Go.RowKit Go.Proofs.YtkcklnmbeinfkaaW.PrintWords Go.Proofs.YtkcklnmbeinfkaaW.PrintLast Go.Proofs.YtkcklnmbeinfkaaW.PrintMore Go.Proofs.Ytkcklnmbeinfkaa.B Go.Proofs.LT Go.Proofs.Ytkcklnmbeinfkaa.PB3
set_option linter.unusedVariables false
set_option linter.unusedSimpArgs false
def PartOf (ss : List Sh) (m : Nat) (x : Int) : Prop := ∃ p ∈ ss, ∃ q ∈ p.f0.take m, Mem (runs q) x
theorem gath_in (m : Int) (ss : List Sh) (i n : Int) (Q : Int → Prop) : ∀ (t pre : List (List Sp)) (acc : List Sp) (P : Int → Prop), (pre ++ t).length ≤ 8 → (∀ q ∈ t, In1 q ∧ okPart q = true) → PB3.spans_IsSet acc P →
 (∀ acc', PB3.spans_IsSet acc' (fun x => P x ∨ ∃ q ∈ t, Mem (runs q) x) → ∃ r, Ev (fun k => repert_gathered.l0 k m acc' ss n (wrap64 (i + 1))) (r, 0) ∧ PB3.spans_IsSet r Q) →
 ∃ r, Ev (fun k => repert_gathered.l1 k m acc ss n i (pre ++ t) (((pre ++ t).length : Nat) : Int) (pre.length : Int)) (r, 0) ∧ PB3.spans_IsSet r Q
 | [], pre, acc, P, _, _, hs, cont => by
  obtain ⟨r, r1, r2⟩ := cont acc ⟨hs.1, hs.2.1, fun x => (hs.2.2 x).trans ⟨.inl, fun h => h.elim id fun ⟨q, hq, _⟩ => by cases hq⟩⟩; refine ⟨r, evSucc ?_, r2⟩; rw [List.append_nil]; simp only [repert_gathered.l1, if_neg (show ¬ ((pre.length : Nat) : Int) < ((pre.length : Nat) : Int) by omega)]; exact r1
 | q :: t, pre, acc, P, hl, hi, hs, cont => by
  have hlc := len_cons pre q t; have hpl : pre.length ≤ 8 := by simp at hl; omega
  obtain ⟨q1, q2⟩ := hi q List.mem_cons_self; obtain ⟨a, a1, a2⟩ := PB3.spans_Union_is acc q (by have := hs.2.1; omega) q1; rw [PB3.setL_of hs.1, show q.map PB3.L113 = runs q from rfl, PB3.setL_of (okPart_good q2).1] at a2; have c1 : (pre.length : Int) < ((pre ++ q :: t).length : Nat) := by rw [hlc]; omega
  have c2 : (0 : Int) ≤ pre.length := by omega
  have hw : wrap64 ((pre.length : Int) + 1) = (pre.length : Int) + 1 := w64 (by omega) (by omega); obtain ⟨r, r1, r2⟩ := gath_in m ss i n Q t (pre ++ [q]) a (fun x => P x ∨ Mem (runs q) x) (by rw [app_snoc]; exact hl) (fun s hs => hi s (List.mem_cons_of_mem _ hs)) ⟨a2.1, a2.2.1, fun x => (a2.2.2 x).trans (or_congr (hs.2.2 x) Iff.rfl)⟩ (fun acc' h => cont acc' ⟨h.1, h.2.1, fun x => (h.2.2 x).trans ⟨fun h => by
   rcases h with (h | h) | ⟨s, hs, h⟩
   ·exact .inl h
   ·exact .inr ⟨q, List.mem_cons_self, h⟩
   ·exact .inr ⟨s, List.mem_cons_of_mem _ hs, h⟩, fun h => by
   rcases h with h2 | ⟨s, hs, h2⟩
   ·exact .inl (.inl h2)
   ·rcases List.mem_cons.1 hs with e | hs
    ·rw [e] at h2; exact .inl (.inr h2)
    ·exact .inr ⟨s, hs, h2⟩⟩⟩)
  rw [app_snoc, snoc_len] at r1; refine ⟨r, evSucc ?_, r2⟩; simp only [repert_gathered.l1, if_pos c1, if_pos c2, rdL, hw]; exact Ev.bind a1 r1
theorem gath_loop (m : Nat) (hm : m ≤ 8) : ∀ (t pre : List Sh) (acc : List Sp), (pre ++ t).length ≤ 32 → (∀ p ∈ t, In2 p.f0 ∧ vShape p.f0 p.f1 = true) → PB3.spans_IsSet acc (PartOf pre m) →
 ∃ r, Ev (fun k => repert_gathered.l0 k (m : Int) acc (pre ++ t) (((pre ++ t).length : Nat) : Int) (pre.length : Int)) (r, 0) ∧ PB3.spans_IsSet r (PartOf (pre ++ t) m)
 | [], pre, acc, _, _, hs => by
  refine ⟨acc, evSucc ?_, by rw [List.append_nil]; exact hs⟩; rw [List.append_nil]; simp only [repert_gathered.l0, if_neg (show ¬ ((pre.length : Nat) : Int) < ((pre.length : Nat) : Int) by omega)]; exact evNow _
 | p :: t, pre, acc, hl, hp, hs => by
  have hlc := len_cons pre p t; have hpl : pre.length ≤ 32 := by simp at hl; omega
  obtain ⟨hi, hv⟩ := hp p List.mem_cons_self; obtain ⟨_, _, _, _, _, hall, hl8⟩ := shape_b hv; have c1 : (pre.length : Int) < ((pre ++ p :: t).length : Nat) := by rw [hlc]; omega
  have c2 : (0 : Int) ≤ pre.length := by omega
  have hw : wrap64 ((pre.length : Int) + 1) = (pre.length : Int) + 1 := w64 (by omega) (by omega); have hmn : mn (m : Int) (p.f0.length : Int) = ((min m p.f0.length : Nat) : Int) := by rw [mn_eq]; omega
  have htk : p.f0.take ((min m p.f0.length : Nat) : Int).toNat = p.f0.take m := by
   rw [Int.toNat_natCast]; exact (List.take_eq_take_iff.2 (by omega))
  have hlt : (p.f0.take m).length ≤ 8 := by rw [List.length_take]; omega
  obtain ⟨r, r1, r2⟩ := gath_in (m : Int) (pre ++ p :: t) (pre.length : Int) (((pre ++ p :: t).length : Nat) : Int) (PartOf (pre ++ p :: t) m) (p.f0.take m) [] acc (PartOf pre m) (by simpa using hlt)
   (fun q hq => ⟨hi.2 q (List.mem_of_mem_take hq), List.all_eq_true.1 hall q (List.mem_of_mem_take hq)⟩) hs (fun acc' h => by
    have := gath_loop m hm t (pre ++ [p]) acc' (by rw [app_snoc]; exact hl) (fun q hq => hp q (List.mem_cons_of_mem _ hq)) ⟨h.1, h.2.1, fun x => (h.2.2 x).trans ⟨fun h => by
     rcases h with ⟨s, hs, h⟩ | ⟨q, hq, h⟩
     ·exact ⟨s, by simp [hs], h⟩
     ·exact ⟨p, by simp, q, hq, h⟩, fun ⟨s, hs, h⟩ => by
     rcases List.mem_append.1 hs with hs | hs
     ·exact .inl ⟨s, hs, h⟩
     ·rw [List.mem_singleton.1 hs] at h; exact .inr h⟩⟩
    rw [app_snoc, snoc_len] at this; rw [hw]; exact this)
  refine ⟨r, evSucc ?_, r2⟩; simp only [repert_gathered.l0, if_pos c1, if_pos c2, rdSh, hmn, if_pos (show (0 : Int) ≤ ((min m p.f0.length : Nat) : Int) by omega), if_pos (show ((min m p.f0.length : Nat) : Int) ≤ (p.f0.length : Int) by omega), htk, Option.bind_some]; simpa using r1
theorem gathered_is (ss : List Sh) (hI : InS ss) (hv : vScheme ss = true) (m : Nat) (hm : m ≤ 8) : ∃ r, Ev (fun k => repert_gathered.f k ss (m : Int)) (r, 0) ∧ PB3.spans_IsSet r (PartOf ss m) := by
 obtain ⟨h1, h2, _⟩ := vScheme_facts hv; have hval := schemeValid_is ss hI; rw [hv] at hval; obtain ⟨r, r1, r2⟩ := gath_loop m hm ss [] [] (by simpa using h1) (fun p hp => ⟨hI.2 p hp, h2 p hp⟩) ⟨trivial, by simp, fun x => ⟨fun h => (Mem.nil h).elim, fun ⟨s, hs, _⟩ => by cases hs⟩⟩; refine ⟨r, ?_, by simpa using r2⟩; simp only [repert_gathered.f]; refine Ev.bind hval ?_; simp only [if_true]; simpa using r1
end Go.Proofs.Ytkcklnmbeinfkaa.PBS
end
section
namespace Go.Proofs.Ytkcklnmbeinfkaa.PB3
open Go.RowKit Go.Proofs.YtkcklnmbeinfkaaW.PrintWords Go.Proofs.YtkcklnmbeinfkaaW.PrintLast Go.Proofs.YtkcklnmbeinfkaaW.PrintMore Go.Proofs.Ytkcklnmbeinfkaa.B Go.Proofs.LT
set_option linter.unusedVariables false
set_option linter.unusedSimpArgs false
theorem valid_snoc {top : Int} {r : Run} : ∀ {l : List Run} {last : Int}, ValidFrom top last (l ++ [r]) ↔ (ValidFrom top last l ∧ 0 ≤ r.1 ∧ r.1 ≤ r.2 ∧ r.2 ≤ top ∧ last < r.1 - 1 ∧ ∀ q ∈ l, q.2 < r.1 - 1)
 | [], last => by simp [ValidFrom]
 | q :: t, last => by
  have ih := valid_snoc (top := top) (r := r) (l := t) (last := q.2); rw [List.cons_append]; show (0 ≤ q.1 ∧ q.1 ≤ q.2 ∧ q.2 ≤ top ∧ last < q.1 - 1 ∧ ValidFrom top q.2 (t ++ [r])) ↔ ((0 ≤ q.1 ∧ q.1 ≤ q.2 ∧ q.2 ≤ top ∧ last < q.1 - 1 ∧ ValidFrom top q.2 t) ∧ _); rw [ih]; constructor
  ·rintro ⟨h0, h1, h2, h3, h4, h5, h6, h7, h8, h9⟩; refine ⟨⟨h0, h1, h2, h3, h4⟩, h5, h6, h7, by omega, fun x hx => ?_⟩; rcases List.mem_cons.1 hx with rfl | hx
   ·exact h8
   ·exact h9 x hx
  ·rintro ⟨⟨h0, h1, h2, h3, h4⟩, h5, h6, h7, h8, h9⟩; exact ⟨h0, h1, h2, h3, h4, h5, h6, h7, h9 q List.mem_cons_self, fun x hx => h9 x (List.mem_cons_of_mem _ hx)⟩
theorem rd_last (l : List S113) (q : S113) : rd_T113 (l ++ [q]) ((l ++ [q]).length - 1 : Nat) = q := by simp [rd_T113]
theorem snoc_of {α : Type} : ∀ {l : List α}, 0 < l.length → ∃ i q, l = i ++ [q] := fun {l} h => ⟨l.dropLast, l.getLast (by intro e; rw [e] at h; exact absurd h (by simp)), (List.dropLast_concat_getLast _).symm⟩
theorem setP_spec (p : Nat → Bool) : ∀ n, n ≤ 256 → ValidFrom 255 (-2) ((setP p n).map L113) ∧ (∀ x : Int, Mem ((setP p n).map L113) x ↔ (0 ≤ x ∧ x < n ∧ p x.toNat = true))
 | 0, _ => ⟨trivial, fun x => ⟨fun h => (Mem.nil h).elim, fun h => by omega⟩⟩
 | n + 1, hn => by
  obtain ⟨hv, hm⟩ := setP_spec p n (by omega); by_cases hp : p n = true
  ·by_cases c : 0 < n ∧ p (n - 1) = true
   ·have hpos : 0 < (setP p n).length := by
     have := (hm ((n - 1 : Nat) : Int)).2 ⟨by omega, by omega, by rw [Int.toNat_natCast]; exact c.2⟩; rcases Nat.eq_zero_or_pos (setP p n).length with h | h
     ·rw [List.eq_nil_of_length_eq_zero h] at this; exact (Mem.nil this).elim
     ·exact h
    obtain ⟨i, q, e⟩ := snoc_of hpos; have e1 : setP p (n + 1) = i ++ [⟨q.f0, n⟩] := by
     rw [setP, if_pos hp, if_pos c, e, rd_last]; simp
    rw [e, List.map_append] at hv hm; rw [e1, List.map_append]; have hs := valid_snoc.1 (show ValidFrom 255 (-2) (i.map L113 ++ [L113 q]) from hv); have eL : (L113 q).1 = q.f0 ∧ (L113 q).2 = q.f1 := ⟨rfl, rfl⟩; rw [eL.1, eL.2] at hs; obtain ⟨s0, s1, s2, s3, s4, s5⟩ := hs; have one : ∀ {r : S113} {x : Int}, Mem ([r].map L113) x ↔ (r.f0 ≤ x ∧ x ≤ r.f1) := fun {r x} => by
     show Mem [L113 r] x ↔ _; rw [mem_cons]; exact ⟨fun h => by rcases h with h | h; exact h; exact (Mem.nil h).elim, fun h => .inl h⟩
    have hq : q.f1 = (n : Int) - 1 := by
     have h1 := (hm q.f1).1 (mem_append.2 (.inr (one.2 ⟨s2, by omega⟩))); have h2 := (hm ((n - 1 : Nat) : Int)).2 ⟨by omega, by omega, by rw [Int.toNat_natCast]; exact c.2⟩; rcases mem_append.1 h2 with h2 | h2
     ·obtain ⟨r, hr, h3, h4⟩ := h2; have := s5 r hr; omega
     ·have := one.1 h2; omega
    refine ⟨valid_snoc.2 ⟨s0, s1, ?_, ?_, s4, s5⟩, fun x => ?_⟩
    ·show q.f0 ≤ (n : Int); omega
    ·show (n : Int) ≤ 255; omega
    ·rw [mem_append, one]; have h := hm x; rw [mem_append, one] at h; by_cases cx : x = (n : Int)
     ·subst cx; refine ⟨fun _ => ⟨by omega, by omega, by rw [Int.toNat_natCast]; exact hp⟩, fun _ => .inr ⟨by show q.f0 ≤ (n : Int); omega, Int.le_refl _⟩⟩
     ·constructor
      ·rintro (g | g)
       ·have := h.1 (.inl g); exact ⟨this.1, by omega, this.2.2⟩
       ·have := h.1 (.inr ⟨g.1, by have := g.2; show x ≤ q.f1; rw [hq]; have : x ≤ (n : Int) := this; omega⟩); exact ⟨this.1, by omega, this.2.2⟩
      ·rintro ⟨g1, g2, g3⟩; rcases h.2 ⟨g1, by omega, g3⟩ with g | g
       ·exact .inl g
       ·exact .inr ⟨g.1, by show x ≤ (n : Int); omega⟩
   ·have e1 : setP p (n + 1) = setP p n ++ [⟨n, n⟩] := by rw [setP, if_pos hp, if_neg c]
    rw [e1, List.map_append]; have one : ∀ {x : Int}, Mem ([(⟨n, n⟩ : S113)].map L113) x ↔ x = n := fun {x} => by
     show Mem [((n : Int), (n : Int))] x ↔ _; rw [mem_cons]; exact ⟨fun h => by rcases h with h | h; exact Int.le_antisymm h.2 h.1; exact (Mem.nil h).elim, fun h => .inl ⟨by show (n : Int) ≤ x; omega, by show x ≤ (n : Int); omega⟩⟩
    refine ⟨valid_snoc.2 ⟨hv, by show (0 : Int) ≤ (n : Int); omega, Int.le_refl _, by show (n : Int) ≤ 255; omega, by show (-2 : Int) < (n : Int) - 1; omega, fun q hq => ?_⟩, fun x => ?_⟩
    ·show q.2 < (n : Int) - 1; have hr := hv.each q hq; have h1 := (hm q.2).1 ⟨q, hq, hr.2.1, Int.le_refl _⟩; rcases (by omega : q.2 < (n : Int) - 1 ∨ (n : Int) - 1 ≤ q.2) with h | h
     ·exact h
     ·refine (c ⟨by omega, ?_⟩).elim; have e : q.2.toNat = n - 1 := by omega
      rw [← e]; exact h1.2.2
    ·rw [mem_append, one, hm x]; constructor
     ·rintro (g | rfl)
      ·exact ⟨g.1, by omega, g.2.2⟩
      ·exact ⟨by omega, by omega, by rw [Int.toNat_natCast]; exact hp⟩
     ·rintro ⟨g1, g2, g3⟩; by_cases cx : x = n
      ·exact .inr cx
      ·exact .inl ⟨g1, by omega, g3⟩
  ·have e1 : setP p (n + 1) = setP p n := by rw [setP, if_neg hp]
   rw [e1]; refine ⟨hv, fun x => ?_⟩; rw [hm x]; constructor
   ·rintro ⟨g1, g2, g3⟩; exact ⟨g1, by omega, g3⟩
   ·rintro ⟨g1, g2, g3⟩; refine ⟨g1, ?_, g3⟩; rcases (by omega : x < (n : Int) ∨ (n : Int) ≤ x) with h | h
    ·exact h
    ·have e : x.toNat = n := by omega
     rw [e] at g3; exact (hp g3).elim
theorem setP_is (p : Nat → Bool) (q : Int → Prop) (h : ∀ x : Int, (0 ≤ x ∧ x < 256 ∧ p x.toNat = true) ↔ q x) : spans_IsSet (setP p 256) q := by
 obtain ⟨hv, hm⟩ := setP_spec p 256 (Nat.le_refl _); refine ⟨hv, ?_, fun x => by rw [hm x]; exact h x⟩; have := valid_len' hv (by omega) (by omega); simpa using this
end Go.Proofs.Ytkcklnmbeinfkaa.PB3
end
section
namespace Go.Proofs.Ytkcklnmbeinfkaa.PBS
open Go.RowKit Go.Proofs.YtkcklnmbeinfkaaW.PrintWords Go.Proofs.YtkcklnmbeinfkaaW.PrintLast Go.Proofs.YtkcklnmbeinfkaaW.PrintMore Go.Proofs.Ytkcklnmbeinfkaa.B Go.Proofs.LT Go.Proofs.Ytkcklnmbeinfkaa.PB3
set_option linter.unusedVariables false
set_option linter.unusedSimpArgs false
def foldW : List Sh → List Int → List Int
 | [], o => o
 | p :: t, o => foldW t (o.set p.f0.length (wrap64 (rd o (p.f0.length : Int) + cnt (sets p.f0))))
theorem foldW_len : ∀ (t : List Sh) (o : List Int), (foldW t o).length = o.length
 | [], _ => rfl
 | p :: t, o => by show (foldW t _).length = _; rw [foldW_len t, List.length_set]
theorem lensW_loop : ∀ (t pre : List Sh) (out : List Int), (pre ++ t).length ≤ 32 → (∀ p ∈ t, In2 p.f0 ∧ vShape p.f0 p.f1 = true) → out.length = 9 →
 Ev (fun k => repert_Lengths.l0 k out (pre ++ t) (((pre ++ t).length : Nat) : Int) (pre.length : Int)) (foldW t out, 0)
 | [], pre, out, _, _, ho => by
  refine evSucc ?_; rw [List.append_nil]; simp only [repert_Lengths.l0, if_neg (show ¬ ((pre.length : Nat) : Int) < ((pre.length : Nat) : Int) by omega)]; exact evNow _
 | p :: t, pre, out, hl, hp, ho => by
  have hlc := len_cons pre p t; have hpl : pre.length ≤ 32 := by simp at hl; omega
  obtain ⟨hi, hv⟩ := hp p List.mem_cons_self; have hl8 := (vShape_good hv).1.2; have c1 : (pre.length : Int) < ((pre ++ p :: t).length : Nat) := by rw [hlc]; omega
  have c2 : (0 : Int) ≤ pre.length := by omega
  have hw : Aside0 (wrap64 ((pre.length : Int) + 1) = (pre.length : Int) + 1) := Aside0.mk (w64 (by omega) (by omega)); have ih := lensW_loop t (pre ++ [p]) (out.set p.f0.length (wrap64 (rd out (p.f0.length : Int) + cnt (sets p.f0)))) (by rw [app_snoc]; exact hl) (fun q hq => hp q (List.mem_cons_of_mem _ hq)) (by rw [List.length_set]; exact ho); rw [app_snoc, snoc_len] at ih; have hcnt := Count_is p.f0 p.f1 hi; rw [if_pos hv] at hcnt; refine evSucc ?_; simp only [repert_Lengths.l0, if_pos c1, if_pos c2, rdSh, if_pos (show (0 : Int) ≤ (p.f0.length : Int) by omega), if_pos (show (p.f0.length : Int) < (out.length : Int) by omega)]; refine Ev.bind hcnt ?_; simp only [hw.out, Int.toNat_natCast]; exact ih
theorem lensR_loop : ∀ (t pre : List Sh) (out : List Int), (pre ++ t).length ≤ 32 → (∀ p ∈ t, In2 p.f0 ∧ vShape p.f0 p.f1 = true) → out.length = 9 →
 Ev (fun k => leadtrailref25_Lengths.l0 k (pre.length : Int) out (pre ++ t)) (foldW t out, 0)
 | [], pre, out, _, _, ho => by
  refine evSucc ?_; rw [List.append_nil]; simp only [leadtrailref25_Lengths.l0, if_neg (show ¬ ((pre.length : Nat) : Int) < ((pre.length : Nat) : Int) by omega)]; exact evNow _
 | p :: t, pre, out, hl, hp, ho => by
  have hlc := len_cons pre p t; have hpl : pre.length ≤ 32 := by simp at hl; omega
  obtain ⟨hi, hv⟩ := hp p List.mem_cons_self; have vg := vShape_good hv; have hl8 := vg.1.2; have pi := cnt_pos vg.2.2.2.1; have c1 : (pre.length : Int) < ((pre ++ p :: t).length : Nat) := by rw [hlc]; omega
  have c2 : (0 : Int) ≤ pre.length := by omega
  have hw : Aside0 (wrap64 ((pre.length : Int) + 1) = (pre.length : Int) + 1) := Aside0.mk (w64 (by omega) (by omega)); have ih := lensR_loop t (pre ++ [p]) (out.set p.f0.length (wrap64 (rd out (p.f0.length : Int) + cnt (sets p.f0)))) (by rw [app_snoc]; exact hl) (fun q hq => hp q (List.mem_cons_of_mem _ hq)) (by rw [List.length_set]; exact ho); rw [app_snoc, snoc_len] at ih; have hcnt := refCount8_is p.f0 p.f1 hi vg.2.2.1 hl8; rw [show min (cnt (sets p.f0)) 1073741825 = cnt (sets p.f0) by have := vg.2.1; have := vg.2.2.2.2; omega] at hcnt; refine evSucc ?_; simp only [leadtrailref25_Lengths.l0, if_pos c1, if_pos c2, rdSh, if_pos (show (0 : Int) ≤ (p.f0.length : Int) by omega), if_pos (show (p.f0.length : Int) < (out.length : Int) by omega)]; refine Ev.bind hcnt ?_; simp only [hw.out, Int.toNat_natCast]; exact ih
def lensS (ss : List Sh) : List Int × Int := if vScheme ss = true then (foldW ss (List.replicate 9 0), 0) else ([], 84)
theorem lensS_len (ss : List Sh) : (lensS ss).1.length ≤ 9 := by
 unfold lensS; split
 ·show (foldW ss _).length ≤ 9; rw [foldW_len]; simp
 ·simp
theorem LengthsW_is (ss : List Sh) (hI : InS ss) : Ev (fun k => repert_Lengths.f k ss) (lensS ss) ∧ Ev (fun k => leadtrailref25_Lengths.f k ss) (lensS ss) := by
 unfold lensS; have hA := schemeValid_is ss hI; have hB := refValid8_is ss hI; cases h : vScheme ss
 ·rw [h] at hA hB; refine ⟨?_, ?_⟩
  ·simp only [repert_Lengths.f]; refine Ev.bind hA ?_; simp only [Bool.false_eq_true, if_false]; exact evNow _
  ·simp only [leadtrailref25_Lengths.f]; refine Ev.bind hB ?_; simp only [Bool.false_eq_true, if_false]; exact evNow _
 ·rw [h] at hA hB; obtain ⟨h1, h2, _⟩ := vScheme_facts h; have l1 := lensW_loop ss [] (List.replicate 9 0) (by simpa using h1) (fun p hp => ⟨hI.2 p hp, h2 p hp⟩) (by simp); have l2 := lensR_loop ss [] (List.replicate 9 0) (by simpa using h1) (fun p hp => ⟨hI.2 p hp, h2 p hp⟩) (by simp); refine ⟨?_, ?_⟩
  ·simp only [repert_Lengths.f]; refine Ev.bind hA ?_; simp only [if_true, if_pos (show (9 : Int) ≤ 35184372088832 by omega)]; simpa using l1
  ·simp only [leadtrailref25_Lengths.f]; refine Ev.bind hB ?_; simp only [if_true, if_pos (show (9 : Int) ≤ 35184372088832 by omega)]; simpa using l2
theorem sameInts_loop : ∀ (t pre : List Int), (pre ++ t).length ≤ 100 → Ev (fun k => leadtrailref17_SameInts.l0 k (pre ++ t) (pre ++ t) (pre.length : Int)) true
 | [], pre, _ => by
  refine evSucc ?_; rw [List.append_nil]; simp only [leadtrailref17_SameInts.l0, if_neg (show ¬ ((pre.length : Nat) : Int) < ((pre.length : Nat) : Int) by omega)]; exact evNow _
 | r :: t, pre, hl => by
  have hlc := len_cons pre r t; have ih := sameInts_loop t (pre ++ [r]) (by rw [app_snoc]; exact hl); rw [app_snoc, snoc_len] at ih; refine evSucc ?_; have c1 : (pre.length : Int) < ((pre ++ r :: t).length : Nat) := by rw [hlc]; omega
  have c2 : (0 : Int) ≤ pre.length := by omega
  have hw : Aside0 (wrap64 ((pre.length : Int) + 1) = (pre.length : Int) + 1) := Aside0.mk (w64 (by omega) (by simp at hl; omega)); simp only [leadtrailref17_SameInts.l0, if_pos c1, if_pos c2, hw.out, if_true]; exact ih
theorem sameInts_self (a : List Int) (hl : a.length ≤ 100) : Ev (fun k => leadtrailref17_SameInts.f k a a) true := by
 have h := sameInts_loop a [] (by simpa using hl); simp only [leadtrailref17_SameInts.f, if_true]; simpa using h
theorem b25_row (m : Nat) : ∀ (t : List (List Sp)) (i : Nat) (p : Nat → Bool), (∀ q ∈ t, In1 q ∧ okPart q = true) → ∃ p', Ev (fun k => b25.row k (m : Int) i t p) p' ∧ ∀ j : Nat, p' j = true ↔ (p j = true ∨ ∃ q ∈ t.take (m - i), Mem (runs q) (j : Int))
 | [], i, p, _ => ⟨p, evNow _, fun j => by simp⟩
 | s :: t, i, p, h => by
  by_cases c : i < m
  ·obtain ⟨hs1, hs2⟩ := h s List.mem_cons_self; obtain ⟨q, q1, q2⟩ := memb_is s hs1; obtain ⟨p', e1, e2⟩ := b25_row m t (i + 1) (fun j => p j || q j) (fun x hx => h x (List.mem_cons_of_mem _ hx)); refine ⟨p', ?_, fun j => ?_⟩
   ·simp only [b25.row, if_pos (show (i : Int) < (m : Int) by omega)]; exact Ev.bind q1 e1
   ·have hq : q j = true ↔ Mem (runs s) (j : Int) := by
     rw [q2 j, show setL 255 (s.map L113) = runs s from setL_of (okPart_good hs2).1]; exact memB_iff
    rw [e2 j, Bool.or_eq_true, hq, show m - i = (m - (i + 1)) + 1 by omega, List.take_succ_cons]; constructor
    ·rintro ((h1 | h1) | ⟨x, hx, h1⟩)
     ·exact .inl h1
     ·exact .inr ⟨s, List.mem_cons_self, h1⟩
     ·exact .inr ⟨x, List.mem_cons_of_mem _ hx, h1⟩
    ·rintro (h1 | ⟨x, hx, h1⟩)
     ·exact .inl (.inl h1)
     ·rcases List.mem_cons.1 hx with rfl | hx
      ·exact .inl (.inr h1)
      ·exact .inr ⟨x, hx, h1⟩
  ·refine ⟨p, ?_, fun j => ?_⟩
   ·simp only [b25.row, if_neg (show ¬ (i : Int) < (m : Int) by omega)]; exact evNow _
   ·rw [show m - i = 0 by omega]; simp
theorem b25_rows (m : Nat) : ∀ (t : List Sh) (p : Nat → Bool), (∀ s ∈ t, In2 s.f0 ∧ vShape s.f0 s.f1 = true) → ∃ p', Ev (fun k => b25.rows k (m : Int) t p) p' ∧ ∀ j : Nat, p' j = true ↔ (p j = true ∨ PartOf t m (j : Int))
 | [], p, _ => ⟨p, evNow _, fun j => ⟨fun h => .inl h, fun h => by
  rcases h with h | ⟨s, hs, _⟩
  ·exact h
  ·cases hs⟩⟩
 | s :: t, p, h => by
  obtain ⟨hs1, hs2⟩ := h s List.mem_cons_self; obtain ⟨q, q1, q2⟩ := b25_row m s.f0 0 p (fun x hx => ⟨hs1.2 x hx, List.all_eq_true.1 (vShape_good hs2).2.2.1 x hx⟩); obtain ⟨p', e1, e2⟩ := b25_rows m t q (fun x hx => h x (List.mem_cons_of_mem _ hx)); refine ⟨p', Ev.bind q1 e1, fun j => ?_⟩; rw [e2 j, q2 j, Nat.sub_zero]; constructor
  ·rintro ((h1 | h1) | ⟨x, hx, h1⟩)
   ·exact .inl h1
   ·exact .inr ⟨s, List.mem_cons_self, h1⟩
   ·exact .inr ⟨x, List.mem_cons_of_mem _ hx, h1⟩
  ·rintro (h1 | ⟨x, hx, h1⟩)
   ·exact .inl (.inl h1)
   ·rcases List.mem_cons.1 hx with rfl | hx
    ·exact .inl (.inr h1)
    ·exact .inr ⟨x, hx, h1⟩
theorem part_range {ss : List Sh} {m : Nat} (hv : ∀ p ∈ ss, vShape p.f0 p.f1 = true) {x : Int} (h : PartOf ss m x) : 0 ≤ x ∧ x ≤ 255 := by
 obtain ⟨p, hp, q, hq, hm⟩ := h; have := okPart_good (List.all_eq_true.1 (vShape_good (hv p hp)).2.2.1 q (List.mem_of_mem_take hq)); exact this.1.range hm
theorem refBytes25_is (ss : List Sh) (hI : InS ss) (hv : vScheme ss = true) (m : Nat) : ∃ r, Ev (fun k => leadtrailref25_Bytes.f k ss (m : Int)) (r, 0) ∧ PB3.spans_IsSet r (PartOf ss m) := by
 obtain ⟨h1, h2, _⟩ := vScheme_facts hv; have hB := refValid8_is ss hI; rw [hv] at hB; obtain ⟨P, e1, e2⟩ := b25_rows m ss (fun _ => false) (fun s hs => ⟨hI.2 s hs, h2 s hs⟩); refine ⟨setP P 256, ?_, setP_is P _ (fun x => ?_)⟩
 ·simp only [leadtrailref25_Bytes.f]; refine Ev.bind hB ?_; have hs : b25.small ss = true := by
   unfold b25.small; rw [Bool.and_eq_true, decide_eq_true_iff, List.all_eq_true]; exact ⟨by omega, fun s hs => decide_eq_true (by have := (hI.2 s hs).1; omega)⟩
  simp only [if_true, if_pos hs]; exact Ev.bind e1 (evNow _)
 ·constructor
  ·rintro ⟨a, b, c⟩; have := (e2 x.toNat).1 c; rw [Int.toNat_of_nonneg a] at this; rcases this with h | h
   ·cases h
   ·exact h
  ·intro h; have hr := part_range h2 h; exact ⟨hr.1, by omega, (e2 x.toNat).2 (.inr (by rw [Int.toNat_of_nonneg hr.1]; exact h))⟩
theorem gathered_no (ss : List Sh) (hI : InS ss) (hv : vScheme ss = false) (m : Int) : Ev (fun k => repert_gathered.f k ss m) ([], 84) := by
 have hA := schemeValid_is ss hI; rw [hv] at hA; simp only [repert_gathered.f]; refine Ev.bind hA ?_; simp only [Bool.false_eq_true, if_false]; exact evNow _
theorem refBytes25_no (ss : List Sh) (hI : InS ss) (hv : vScheme ss = false) (m : Int) : Ev (fun k => leadtrailref25_Bytes.f k ss m) ([], 84) := by
 have hB := refValid8_is ss hI; rw [hv] at hB; simp only [leadtrailref25_Bytes.f]; refine Ev.bind hB ?_; simp only [Bool.false_eq_true, if_false]; exact evNow _
theorem OfSpec.uniq {ss : List Sh} {r s : List Ra × Int} (h : OfSpec ss r) (g : OfSpec ss s) : r = s := by
 rcases h with ⟨h1, rfl⟩ | ⟨h1, h2, h3⟩ <;> rcases g with ⟨g1, rfl⟩ | ⟨g1, g2, g3⟩
 ·rfl
 ·rw [h1] at g1; cases g1
 ·rw [g1] at h1; cases h1
 ·obtain ⟨r1, r2⟩ := r; obtain ⟨s1, s2⟩ := s; have e1 : r1 = s1 := PB4.scalars_IsSet.uniq h3 g3 (fun _ => Iff.rfl); have e2 : r2 = s2 := h2.trans g2.symm; rw [e1, e2]
theorem OfSpec.len {ss : List Sh} {r : List Ra × Int} (h : OfSpec ss r) : r.1.length ≤ 1073741824 := by
 rcases h with ⟨h1, rfl⟩ | ⟨h1, h2, h3⟩
 ·simp
 ·exact h3.2.1
theorem bytes_both (ss : List Sh) (hI : InS ss) (m : Nat) (hm : m ≤ 8) : ∃ r : List Sp × Int, Ev (fun k => repert_gathered.f k ss (m : Int)) r ∧ Ev (fun k => leadtrailref25_Bytes.f k ss (m : Int)) r ∧ r.1.length ≤ 1073741824 := by
 cases hv : vScheme ss
 ·exact ⟨([], 84), gathered_no ss hI hv _, refBytes25_no ss hI hv _, by simp⟩
 ·obtain ⟨r, r1, r2⟩ := gathered_is ss hI hv m hm; obtain ⟨s, s1, s2⟩ := refBytes25_is ss hI hv m; have e : s = r := PB3.spans_IsSet.uniq s2 r2 (fun _ => Iff.rfl); subst e; exact ⟨(s, 0), r1, s1, r2.2.1⟩
end Go.Proofs.Ytkcklnmbeinfkaa.PBS
end
section
namespace Go.Proofs.Ytkcklnmbeinfkaa.PBS
open Go.RowKit Go.Proofs.YtkcklnmbeinfkaaW.PrintWords Go.Proofs.YtkcklnmbeinfkaaW.PrintLast Go.Proofs.YtkcklnmbeinfkaaW.PrintMore Go.Proofs.Ytkcklnmbeinfkaa.B Go.Proofs.LT Go.Proofs.Ytkcklnmbeinfkaa.PB3
set_option linter.unusedVariables false
set_option linter.unusedSimpArgs false
theorem leadtraillaw25_RepertAnswers_ev (ss : List Sh) (hI : InS ss) : Ev (fun k => leadtraillaw25_RepertAnswers.f k ss) true := by
 obtain ⟨r, r1, r2⟩ := Of_is ss hI; obtain ⟨s, s1, s2⟩ := refOf25_is ss hI; obtain rfl := OfSpec.uniq r2 s2; obtain ⟨n1, n2⟩ := LengthsW_is ss hI; obtain ⟨x, x1, x2, x3⟩ := bytes_both ss hI 1 (by omega); obtain ⟨y, y1, y2, y3⟩ := bytes_both ss hI 8 (by omega); have hx : Ev (fun k => repert_Firsts.f k ss) x := by
  simp only [repert_Firsts.f]; exact Ev.bind x1 (evNow _)
 have hy : Ev (fun k => repert_Bytes.f k ss) y := by
  simp only [repert_Bytes.f]; exact Ev.bind y1 (evNow _)
 simp only [leadtraillaw25_RepertAnswers.f]; refine Ev.bind fixed25 ?_; simp only [if_true]; refine Ev.bind (CopyS_is ss hI) (Ev.bind r1 (Ev.bind n1 (Ev.bind hx (Ev.bind hy (Ev.bind s1 (Ev.bind n2 (Ev.bind x2 (Ev.bind y2 ?_)))))))); refine Ev.bind (PB4.leadtrailref04_Same_self _ (by have := r2.len; omega)) ?_; simp only [if_true]; refine Ev.bind (sameInts_self _ (by have := lensS_len ss; omega)) ?_; simp only [if_true]; refine Ev.bind (PB3.leadtrailref03_Same_self _ (by omega)) ?_; simp only [if_true]; refine Ev.bind (PB3.leadtrailref03_Same_self _ (by omega)) ?_; simp only [if_true]; refine Ev.bind (SameS_self ss hI) ?_; exact evNow _
end Go.Proofs.Ytkcklnmbeinfkaa.PBS
namespace Go.Proofs.Ytkcklnmbeinfkaa.Pure
open Go.Proofs.Ytkcklnmbeinfkaa.B Go.Proofs.YtkcklnmbeinfkaaW.PrintWords
theorem RepertAnswers : ∀ (l0_0 : List S50), (l0_0.length * 32 ≤ 140737488351232 ∧ ∀ x ∈ l0_0, ((x.f0.length * 24 ≤ 140737488351232 ∧ ∀ y ∈ x.f0, (y.length * 16 ≤ 140737488351232 ∧ ∀ x ∈ y, ((Lit.int .i64 x.f0).wf = true ∧ (Lit.int .i64 x.f1).wf = true))) ∧ (Lit.int .i64 x.f1).wf = true)) → ∃ k, leadtraillaw25_RepertAnswers.f k l0_0 = some true :=
 fun l0 h => Ev.rounds (PBS.leadtraillaw25_RepertAnswers_ev l0 ⟨h.1, fun p hp => ⟨(h.2 p hp).1.1, fun x hx => ((h.2 p hp).1.2 x hx).1⟩⟩)
end Go.Proofs.Ytkcklnmbeinfkaa.Pure
end
