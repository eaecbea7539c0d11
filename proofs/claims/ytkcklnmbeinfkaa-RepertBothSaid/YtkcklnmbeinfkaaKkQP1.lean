/- Words and laws of this claim, of 9 texts. -/
import Derived.Test.YtkcklnmbeinfkaaKkBx0
import Derived.Test.YtkcklnmbeinfkaaKkBx22
import Derived.Test.YtkcklnmbeinfkaaKkBx23
import Derived.Test.YtkcklnmbeinfkaaKkBx24
import Derived.Test.YtkcklnmbeinfkaaKkBx25
import Derived.Test.YtkcklnmbeinfkaaKkBx12
import Derived.Test.YtkcklnmbeinfkaaKkBx8
import Derived.Test.YtkcklnmbeinfkaaKkBx9
import Derived.Test.YtkcklnmbeinfkaaKkBx5
import Derived.Test.YtkcklnmbeinfkaaKkBx13
import Derived.Test.YtkcklnmbeinfkaaKkBx3
import Derived.Test.YtkcklnmbeinfkaaKkQP0
import Derived.Test.YtkcklnmbeinfkaaKkBx11
import Derived.Lib.Bytes
import Derived.Test.YtkcklnmbeinfkaaKkQW1
import Derived.Test.YtkcklnmbeinfkaaKkBx44
import Derived.Test.YtkcklnmbeinfkaaKkBx45
import Derived.Test.YtkcklnmbeinfkaaKkBx46
import Derived.Test.YtkcklnmbeinfkaaKkBx38
import Derived.Test.YtkcklnmbeinfkaaKkBx39
import Derived.Test.YtkcklnmbeinfkaaKkBx41
import Derived.Test.YtkcklnmbeinfkaaKkBx42
import Derived.Test.YtkcklnmbeinfkaaKkBx40
import Derived.Test.YtkcklnmbeinfkaaKkBx43
import Derived.Test.YtkcklnmbeinfkaaKkBx47
import Derived.KernelRfl
section
namespace Go.Proofs.Ytkcklnmbeinfkaa.PBS
open Go.RowKit Go.Proofs.YtkcklnmbeinfkaaW.PrintWords Go.Proofs.YtkcklnmbeinfkaaW.PrintLast Go.Proofs.YtkcklnmbeinfkaaW.PrintMore Go.Proofs.Ytkcklnmbeinfkaa.B Go.Proofs.LT Go.Proofs.Ytkcklnmbeinfkaa.PB3
set_option linter.unusedVariables false
set_option linter.unusedSimpArgs false
def C (p : Sh) : Cs := (sets p.f0, p.f1)
def cs (ss : List Sh) : List Cs := ss.map C
theorem last_C (p : Sh) : lastC (C p) = lastOf p := rfl
theorem vS_facts : ∀ (t pre : List Sh), vS pre t = true → (∀ p ∈ t, vShape p.f0 p.f1 = true) ∧ (∀ q ∈ pre, ∀ p ∈ t, meetsB p q = false) ∧ Apart (cs t)
 | [], _, _ => ⟨fun _ h => (by cases h), fun _ _ _ h => (by cases h), trivial⟩
 | p :: t, pre, h => by
  have h' : (vShape p.f0 p.f1 && (!(pre.any (meetsB p)) && vS (pre ++ [p]) t)) = true := h; simp only [Bool.and_eq_true, Bool.not_eq_true'] at h'; obtain ⟨h1, h2, h3⟩ := h'; obtain ⟨k1, k2, k3⟩ := vS_facts t (pre ++ [p]) h3; refine ⟨fun q hq => ?_, fun q hq r hr => ?_, fun r hr => ?_, k3⟩
  ·rcases List.mem_cons.1 hq with rfl | hq
   ·exact h1
   ·exact k1 q hq
  ·rcases List.mem_cons.1 hr with rfl | hr
   ·cases e : meetsB r q
    ·rfl
    ·rw [List.any_eq_true.2 ⟨q, hq, e⟩] at h2; cases h2
   ·exact k2 q (List.mem_append_left _ hq) r hr
  ·obtain ⟨q, hq, rfl⟩ := List.mem_map.1 hr; have e := k2 p (List.mem_append_right _ (List.mem_singleton.2 rfl)) q hq; simp only [meetsB, Bool.and_eq_false_iff, decide_eq_false_iff_not] at e; rw [last_C, last_C]; show lastOf p < q.f1 ∨ lastOf q < p.f1; omega
theorem vScheme_facts {ss : List Sh} (h : vScheme ss = true) : ss.length ≤ 32 ∧ (∀ p ∈ ss, vShape p.f0 p.f1 = true) ∧ Apart (cs ss) ∧ AllGood (cs ss) := by
 simp only [vScheme, Bool.and_eq_true, decide_eq_true_eq] at h; obtain ⟨k1, k2, k3⟩ := vS_facts ss [] h.2; refine ⟨h.1, k1, k3, fun p hp => ?_⟩; obtain ⟨q, hq, rfl⟩ := List.mem_map.1 hp; exact (vShape_good (k1 q hq)).2.2.2.1
theorem rdSh_at (ss : List Sh) (i : Nat) (h : i < ss.length) : rd_T50 ss (i : Int) = ss[i] := by simp [rd_T50, List.getD, h]
theorem succ_wrap (i : Nat) (h : i ≤ 4611686018427387904) : Aside0 (wrap64 ((i : Int) + 1) = ((i + 1 : Nat) : Int)) := Aside0.mk (by rw [w64 (by omega) (by omega)]; simp)
theorem refMeet_loop (ss : List Sh) (hI : InS ss) (i : Nat) (hi : i < ss.length) (hs : ss.length ≤ 32) (hv : ∀ p ∈ ss.take (i + 1), vShape p.f0 p.f1 = true) : ∀ (n j : Nat), j + n = i → ((ss.take j).any (meetsB ss[i]) = false) →
 Ev (fun k => leadtrailref08_meet.l0 k ss (i : Int) (j : Int)) ((ss.take i).any (meetsB ss[i]))
 | 0, j, hj, hno => by
  refine evSucc ?_; obtain rfl : j = i := by omega
  simp only [leadtrailref08_meet.l0, if_neg (show ¬ (j : Int) < (j : Int) by omega)]; rw [hno]; exact evNow _
 | n + 1, j, hj, hno => by
  have hjl : j < ss.length := by omega
  have vi := vShape_good (hv ss[i] (by rw [List.take_succ_eq_append_getElem hi]; exact List.mem_append_right _ (List.mem_singleton.2 rfl))); have vj := vShape_good (hv ss[j] (by
   have : (ss.take (i + 1))[j]'(by simp; omega) = ss[j] := List.getElem_take ..; rw [← this]; exact List.getElem_mem _))
  have pi := cnt_pos vi.2.2.2.1; have pj := cnt_pos vj.2.2.2.1; have ci := refCount8_is ss[i].f0 ss[i].f1 (hI.2 _ (List.getElem_mem _)) vi.2.2.1 vi.1.2; have cj := refCount8_is ss[j].f0 ss[j].f1 (hI.2 _ (List.getElem_mem _)) vj.2.2.1 vj.1.2; rw [show min (cnt (sets ss[i].f0)) 1073741825 = cnt (sets ss[i].f0) by omega] at ci; rw [show min (cnt (sets ss[j].f0)) 1073741825 = cnt (sets ss[j].f0) by omega] at cj; have hw := succ_wrap j (by omega); have wi : Aside0 (wrap64 (wrap64 (ss[i].f1 + cnt (sets ss[i].f0)) - 1) = lastOf ss[i]) := Aside0.mk (by rw [w64 (x := ss[i].f1 + cnt (sets ss[i].f0)) (by omega) (by omega), w64 (by omega) (by omega)]; rfl); have wj : Aside0 (wrap64 (wrap64 (ss[j].f1 + cnt (sets ss[j].f0)) - 1) = lastOf ss[j]) := Aside0.mk (by rw [w64 (x := ss[j].f1 + cnt (sets ss[j].f0)) (by omega) (by omega), w64 (by omega) (by omega)]; rfl); have yes : meetsB ss[i] ss[j] = true → (ss.take i).any (meetsB ss[i]) = true := fun h => by
   refine List.any_eq_true.2 ⟨ss[j], ?_, h⟩; have : (ss.take i)[j]'(by simp; omega) = ss[j] := List.getElem_take ..; rw [← this]; exact List.getElem_mem _
  have next : meetsB ss[i] ss[j] = false → Ev (fun k => leadtrailref08_meet.l0 k ss (i : Int) (wrap64 ((j : Int) + 1))) ((ss.take i).any (meetsB ss[i])) := fun h => by
   rw [hw.out]; refine refMeet_loop ss hI i hi hs hv n (j + 1) (by omega) ?_; rw [List.take_succ_eq_append_getElem hjl, List.any_append, hno]; simp [h]
  refine evSucc ?_; simp only [leadtrailref08_meet.l0, if_pos (show (j : Int) < (i : Int) by omega), if_pos (show (0 : Int) ≤ (i : Int) by omega), if_pos (show (i : Int) < (ss.length : Int) by omega), if_pos (show (0 : Int) ≤ (j : Int) by omega), if_pos (show (j : Int) < (ss.length : Int) by omega), rdSh_at ss i hi, rdSh_at ss j hjl]; refine Ev.bind cj ?_; simp only [wj.out]; by_cases c1 : ss[i].f1 ≤ lastOf ss[j]
  ·simp only [if_pos c1]; refine Ev.bind ci ?_; simp only [wi.out]; by_cases c2 : ss[j].f1 ≤ lastOf ss[i]
   ·simp only [if_pos c2]; rw [yes (by simp only [meetsB, decide_eq_true c1, decide_eq_true c2]; rfl)]; exact evNow _
   ·simp only [if_neg c2]; exact next (by simp only [meetsB, decide_eq_false c2, Bool.and_false])
  ·simp only [if_neg c1]; exact next (by simp only [meetsB, decide_eq_false c1, Bool.false_and])
theorem refValid_loop8 (ss : List Sh) (hI : InS ss) (hs : ss.length ≤ 32) : ∀ (n i : Nat), i + n = ss.length → (∀ p ∈ ss.take i, vShape p.f0 p.f1 = true) →
 Ev (fun k => leadtrailref08_Valid.l0 k (i : Int) ss) (vS (ss.take i) (ss.drop i))
 | 0, i, hi, hv => by
  refine evSucc ?_; simp only [leadtrailref08_Valid.l0, if_neg (show ¬ (i : Int) < (ss.length : Int) by omega)]; rw [List.drop_of_length_le (by omega)]; exact evNow _
 | n + 1, i, hi, hv => by
  have hil : i < ss.length := by omega
  have hw := succ_wrap i (by omega); have e : vS (ss.take i) (ss.drop i) = (vShape ss[i].f0 ss[i].f1 && (!((ss.take i).any (meetsB ss[i])) && vS (ss.take (i + 1)) (ss.drop (i + 1)))) := by
   rw [List.drop_eq_getElem_cons hil, List.take_succ_eq_append_getElem hil]; rfl
  rw [e]; refine evSucc ?_; simp only [leadtrailref08_Valid.l0, if_pos (show (i : Int) < (ss.length : Int) by omega), if_pos (show (0 : Int) ≤ (i : Int) by omega), rdSh_at ss i hil]; refine Ev.bind (refVShape_is _ _ (hI.2 _ (List.getElem_mem _))) ?_; cases hp : vShape ss[i].f0 ss[i].f1
  ·simp only [Bool.false_eq_true, if_false, Bool.false_and]; exact evNow _
  ·simp only [if_true, Bool.true_and]; have hv' : ∀ p ∈ ss.take (i + 1), vShape p.f0 p.f1 = true := fun p hq => by
    rw [List.take_succ_eq_append_getElem hil] at hq; rcases List.mem_append.1 hq with h | h
    ·exact hv p h
    ·rw [List.mem_singleton.1 h]; exact hp
   have hm := refMeet_loop ss hI i hil hs hv' i 0 (by omega) (by simp); refine Ev.bind (show Ev (fun k => leadtrailref08_meet.f k ss (i : Int)) _ from hm) ?_; cases hq : (ss.take i).any (meetsB ss[i])
   ·simp only [Bool.false_eq_true, if_false, Bool.not_false, Bool.true_and, hw.out]; exact refValid_loop8 ss hI hs n (i + 1) (by omega) hv'
   ·simp only [if_true, Bool.not_true, Bool.false_and]; exact evNow _
theorem refValid8_is (ss : List Sh) (hI : InS ss) : Ev (fun k => leadtrailref08_Valid.f k ss) (vScheme ss) := by
 simp only [leadtrailref08_Valid.f]; by_cases c : (ss.length : Int) > 32
 ·simp only [if_pos c]; rw [show vScheme ss = false by simp only [vScheme, decide_eq_false (show ¬ ss.length ≤ 32 by omega), Bool.false_and]]; exact evNow _
 ·simp only [if_neg c]; rw [show vScheme ss = vS [] ss by simp only [vScheme, decide_eq_true (show ss.length ≤ 32 by omega), Bool.true_and]]; simpa using refValid_loop8 ss hI (by omega) ss.length 0 (by omega) (by simp)
theorem copyS_loop (ss : List Sh) (hI : InS ss) : ∀ (n i : Nat), i + n = ss.length → Ev (fun k => leadtrailref08_Copy.l0 k (i : Int) ss (ss.take i)) ss
 | 0, i, hi => by
  refine evSucc ?_; simp only [leadtrailref08_Copy.l0, if_neg (show ¬ (i : Int) < (ss.length : Int) by omega)]; rw [List.take_of_length_le (by omega)]; exact evNow _
 | n + 1, i, hi => by
  have hil : i < ss.length := by omega
  have h2 := hI.1; have hw := succ_wrap i (by omega); have ih := copyS_loop ss hI n (i + 1) (by omega); rw [List.take_succ_eq_append_getElem hil] at ih; refine evSucc ?_; simp only [leadtrailref08_Copy.l0, if_pos (show (i : Int) < (ss.length : Int) by omega), if_pos (show (0 : Int) ≤ (i : Int) by omega), rdSh_at ss i hil]; refine Ev.bind (Copy_is _ _ (hI.2 _ (List.getElem_mem _))) ?_; simp only [if_pos (show (ss.take i).length < 4398046511104 by rw [List.length_take]; omega), hw.out]; exact ih
theorem CopyS_is (ss : List Sh) (hI : InS ss) : Ev (fun k => leadtrailref08_Copy.f k ss) ss := by
 have := copyS_loop ss hI ss.length 0 (by omega); rw [List.take_zero] at this; exact this
end Go.Proofs.Ytkcklnmbeinfkaa.PBS
end
section
namespace Go.Proofs.Ytkcklnmbeinfkaa.PB4
open Go.RowKit Go.Proofs.YtkcklnmbeinfkaaW.PrintWords Go.Proofs.YtkcklnmbeinfkaaW.PrintLast Go.Proofs.YtkcklnmbeinfkaaW.PrintMore Go.Proofs.Ytkcklnmbeinfkaa.B Go.Proofs.LT
set_option linter.unusedVariables false
set_option linter.unusedSimpArgs false
theorem rdI (pre : List Int) (r : Int) (t : List Int) : rd (pre ++ r :: t) (pre.length : Int) = r := by simp [rd]
def mergeL : List Int → List Int → List Int
 | [], b => b
 | x :: a, [] => x :: a
 | x :: a, y :: b => if x ≤ y then x :: mergeL a (y :: b) else y :: mergeL (x :: a) b
termination_by a b => a.length + b.length
theorem mergeL_perm : ∀ (n : Nat) (a b : List Int), a.length + b.length = n → (mergeL a b).Perm (a ++ b)
 | _, [], b, _ => by unfold mergeL; exact List.Perm.refl _
 | _, x :: a, [], _ => by unfold mergeL; simp
 | 0, x :: a, y :: b, h => by simp at h
 | n + 1, x :: a, y :: b, h => by
  unfold mergeL; split
  ·exact (mergeL_perm n a (y :: b) (by simp at h ⊢; omega)).cons x
  ·refine ((mergeL_perm n (x :: a) b (by simp at h ⊢; omega)).cons y).trans ?_; exact (List.perm_middle (l₁ := x :: a) (l₂ := b) (a := y)).symm
theorem mergeL_sorted : ∀ (n : Nat) (a b : List Int), a.length + b.length = n → a.Pairwise (· ≤ ·) → b.Pairwise (· ≤ ·) → (mergeL a b).Pairwise (· ≤ ·)
 | _, [], b, _, _, hb => by unfold mergeL; exact hb
 | _, x :: a, [], _, ha, _ => by unfold mergeL; exact ha
 | 0, x :: a, y :: b, h, _, _ => by simp at h
 | n + 1, x :: a, y :: b, h, ha, hb => by
  have ha' := List.pairwise_cons.1 ha; have hb' := List.pairwise_cons.1 hb; unfold mergeL; split
  ·rename_i d
   refine List.pairwise_cons.2 ⟨fun z hz => ?_, mergeL_sorted n a (y :: b) (by simp at h ⊢; omega) ha'.2 hb⟩; have := (mergeL_perm n a (y :: b) (by simp at h ⊢; omega)).mem_iff.1 hz; rcases List.mem_append.1 this with hz | hz
   ·exact ha'.1 z hz
   ·rcases List.mem_cons.1 hz with rfl | hz
    ·exact d
    ·exact Int.le_trans d (hb'.1 z hz)
  ·rename_i d
   refine List.pairwise_cons.2 ⟨fun z hz => ?_, mergeL_sorted n (x :: a) b (by simp at h ⊢; omega) ha hb'.2⟩; have := (mergeL_perm n (x :: a) b (by simp at h ⊢; omega)).mem_iff.1 hz; rcases List.mem_append.1 this with hz | hz
   ·rcases List.mem_cons.1 hz with rfl | hz
    ·omega
    ·exact Int.le_trans (by omega) (ha'.1 z hz)
   ·exact hb'.1 z hz
theorem merged_loop (N : Nat) (hN : N ≤ 8796093022206) : ∀ (n : Nat) (ta tb pa pb out : List Int), ta.length + tb.length = n → (pa ++ ta).length ≤ N → (pb ++ tb).length ≤ N → out.length + ta.length + tb.length ≤ N + N →
 Ev (fun k => leadtrailref04_merged.l0 k (pa ++ ta) (pb ++ tb) out (pa.length : Int) (pb.length : Int)) (out ++ mergeL ta tb)
 | _, [], [], pa, pb, out, _, _, _, _ => by
  refine evSucc (evSucc ?_); simp only [leadtrailref04_merged.l0, List.append_nil]; simp only [if_neg (show ¬ ((pa.length : Nat) : Int) < ((pa.length : Nat) : Int) by omega), leadtrailref04_merged.j1, decide_eq_false (show ¬ ((pb.length : Nat) : Int) < ((pb.length : Nat) : Int) by omega), Bool.false_eq_true, if_false]; unfold mergeL; simpa using evNow out
 | 0, x :: ta, _, _, _, _, h, _, _, _ => by simp at h
 | 0, [], y :: tb, _, _, _, h, _, _, _ => by simp at h
 | n + 1, [], y :: tb, pa, pb, out, h, ha, hb, ho => by
  have hlb := len_cons pb y tb; have ih := merged_loop N hN n [] tb pa (pb ++ [y]) (out ++ [y]) (by simp at h ⊢; omega) ha (by rw [app_snoc]; exact hb) (by simp at ho ⊢; omega); rw [app_snoc, snoc_len] at ih; have c1 : (pb.length : Int) < ((pb ++ y :: tb).length : Nat) := by rw [hlb]; omega
  have c2 : (0 : Int) ≤ pb.length := by omega
  have c3 : ¬ (pb.length : Int) = ((pb ++ y :: tb).length : Nat) := by omega
  have hlt : out.length < 17592186044416 := by simp at ho; omega
  have hw : Aside0 (wrap64 ((pb.length : Int) + 1) = (pb.length : Int) + 1) := Aside0.mk (w64 (by omega) (by simp at hb; omega)); refine evSucc (evSucc ?_); simp only [leadtrailref04_merged.l0, List.append_nil] at ih ⊢; simp only [if_neg (show ¬ ((pa.length : Nat) : Int) < ((pa.length : Nat) : Int) by omega), leadtrailref04_merged.j1, decide_eq_true c1, if_true, if_neg c3, if_pos c1, if_pos c2, if_pos hlt, rdI, hw.out]; unfold mergeL; unfold mergeL at ih; simpa using ih
 | n + 1, x :: ta, [], pa, pb, out, h, ha, hb, ho => by
  have hla := len_cons pa x ta; have ih := merged_loop N hN n ta [] (pa ++ [x]) pb (out ++ [x]) (by simp at h ⊢; omega) (by rw [app_snoc]; exact ha) hb (by simp at ho ⊢; omega); rw [app_snoc, snoc_len] at ih; have c1 : (pa.length : Int) < ((pa ++ x :: ta).length : Nat) := by rw [hla]; omega
  have c2 : (0 : Int) ≤ pa.length := by omega
  have hlt : out.length < 17592186044416 := by simp at ho; omega
  have hw : Aside0 (wrap64 ((pa.length : Int) + 1) = (pa.length : Int) + 1) := Aside0.mk (w64 (by omega) (by simp at ha; omega)); refine evSucc (evSucc ?_); simp only [leadtrailref04_merged.l0, List.append_nil] at ih ⊢; simp only [if_pos c1, leadtrailref04_merged.j1, if_true, if_pos c2, if_pos hlt, rdI, hw.out]; have e : out ++ mergeL (x :: ta) [] = (out ++ [x]) ++ mergeL ta [] := by
   unfold mergeL; cases ta with
   | nil => unfold mergeL; simp
   | cons z ta => unfold mergeL; simp
  rw [e]; exact ih
 | n + 1, x :: ta, y :: tb, pa, pb, out, h, ha, hb, ho => by
  have hla := len_cons pa x ta; have hlb := len_cons pb y tb; have c1 : (pa.length : Int) < ((pa ++ x :: ta).length : Nat) := by rw [hla]; omega
  have c2 : (0 : Int) ≤ pa.length := by omega
  have d1 : (pb.length : Int) < ((pb ++ y :: tb).length : Nat) := by rw [hlb]; omega
  have d2 : (0 : Int) ≤ pb.length := by omega
  have d3 : ¬ (pb.length : Int) = ((pb ++ y :: tb).length : Nat) := by omega
  have hlt : out.length < 17592186044416 := by simp at ho; omega
  have hwa : Aside0 (wrap64 ((pa.length : Int) + 1) = (pa.length : Int) + 1) := Aside0.mk (w64 (by omega) (by simp at ha; omega)); have hwb : Aside0 (wrap64 ((pb.length : Int) + 1) = (pb.length : Int) + 1) := Aside0.mk (w64 (by omega) (by simp at hb; omega)); refine evSucc (evSucc ?_); simp only [leadtrailref04_merged.l0]; simp only [if_pos c1, leadtrailref04_merged.j1, if_true, if_pos c2, if_neg d3, if_pos d1, if_pos d2, rdI]; by_cases d : x ≤ y
  ·have ih := merged_loop N hN n ta (y :: tb) (pa ++ [x]) pb (out ++ [x]) (by simp at h ⊢; omega) (by rw [app_snoc]; exact ha) hb (by simp at ho ⊢; omega); rw [app_snoc, snoc_len] at ih; simp only [if_pos d, if_pos hlt, hwa.out]; have e : out ++ mergeL (x :: ta) (y :: tb) = (out ++ [x]) ++ mergeL ta (y :: tb) := by
    rw [mergeL]; rw [if_pos d]; simp
   rw [e]; exact ih
  ·have ih := merged_loop N hN n (x :: ta) tb pa (pb ++ [y]) (out ++ [y]) (by simp at h ⊢; omega) ha (by rw [app_snoc]; exact hb) (by simp at ho ⊢; omega); rw [app_snoc, snoc_len] at ih; simp only [if_neg d, if_pos hlt, hwb.out]; have e : out ++ mergeL (x :: ta) (y :: tb) = (out ++ [y]) ++ mergeL (x :: ta) tb := by
    rw [mergeL]; rw [if_neg d]; simp
   rw [e]; exact ih
theorem merged_is (a b : List Int) (ha : a.length ≤ 8796093022206) (hb : b.length ≤ 8796093022206) : Ev (fun k => leadtrailref04_merged.f k a b) (mergeL a b) := by
 have h := merged_loop 8796093022206 (Nat.le_refl _) _ a b [] [] [] rfl (by simpa using ha) (by simpa using hb) (by simp; omega); simpa [leadtrailref04_merged.f] using h
def cnt (l : List Int) (x : Int) : Nat := l.countP fun y => decide (y ≤ x)
theorem cnt_nil (x : Int) : cnt [] x = 0 := rfl
theorem cnt_cons (y : Int) (l : List Int) (x : Int) : cnt (y :: l) x = cnt l x + if y ≤ x then 1 else 0 := by
 unfold cnt; rw [List.countP_cons]; simp
theorem cnt_pos {l : List Int} {x : Int} (h : 0 < cnt l x) : ∃ y ∈ l, y ≤ x := by
 unfold cnt at h; obtain ⟨y, hy, h⟩ := List.countP_pos_iff.1 h; exact ⟨y, hy, by simpa using h⟩
attribute [irreducible] cnt
end Go.Proofs.Ytkcklnmbeinfkaa.PB4
end
section
namespace Go.Proofs.Ytkcklnmbeinfkaa.PB4
open Go.RowKit Go.Proofs.YtkcklnmbeinfkaaW.PrintWords Go.Proofs.YtkcklnmbeinfkaaW.PrintLast Go.Proofs.YtkcklnmbeinfkaaW.PrintMore Go.Proofs.Ytkcklnmbeinfkaa.B Go.Proofs.LT
set_option linter.unusedVariables false
set_option linter.unusedSimpArgs false
theorem refValid_loop (N : Nat) (hN : N ≤ 8796093022206) : ∀ (t q : List S102) (p : S102), (q ++ p :: t).length ≤ N → p.f1 ≤ 1073741823 → 0 ≤ p.f1 → Ev (fun k => leadtrailref04_Valid.l0 k (q ++ p :: t) ((q.length : Int) + 1)) (validB 1073741823 p.f1 (t.map L102))
 | [], q, p, _, _, _ => by
  refine evSucc ?_; have hlc := len_cons q p []; have c1 : ¬ (q.length : Int) + 1 < ((q ++ [p]).length : Nat) := by rw [hlc]; simp
  simp only [leadtrailref04_Valid.l0, if_neg c1]; rw [show validB 1073741823 p.f1 (([] : List S102).map L102) = true from validB_nil _ _]; exact evNow _
 | r :: t, q, p, hl, hp, hp0 => by
  have hlc := len_cons q p (r :: t); have e1 : q ++ p :: r :: t = (q ++ [p]) ++ r :: t := by simp
  have e2 : ((q.length : Int) + 1) = ((q ++ [p]).length : Nat) := by simp
  have rr : rd_T102 (q ++ p :: r :: t) ((q.length : Int) + 1) = r := by rw [e1, e2]; exact rd102 _ _ _
  have rp : rd_T102 (q ++ p :: r :: t) (q.length : Int) = p := rd102 _ _ _; have hq : q.length ≤ N := by simp at hl; omega
  have c1 : (q.length : Int) + 1 < ((q ++ p :: r :: t).length : Nat) := by rw [hlc]; simp; omega
  have c2 : (0 : Int) ≤ (q.length : Int) + 1 := by omega
  have c3 : (q.length : Int) + 1 > 0 := by omega
  have c4 : (0 : Int) ≤ (q.length : Int) := by omega
  have c5 : (q.length : Int) < ((q ++ p :: r :: t).length : Nat) := by omega
  have hw1 : Aside0 (wrap64 ((q.length : Int) + 1 - 1) = (q.length : Int)) := Aside0.mk (by rw [w64 (by omega) (by omega)]; omega); have hw2 : Aside0 (wrap64 ((q.length : Int) + 1 + 1) = (q.length : Int) + 1 + 1) := Aside0.mk (w64 (by omega) (by omega)); have hw3 : Aside0 (wrap64 (p.f1 + 1) = p.f1 + 1) := Aside0.mk (w64 (by omega) (by omega)); refine evSucc ?_; simp only [leadtrailref04_Valid.l0, if_pos c1, if_pos c2, if_pos c3, rr, hw1.out, hw2.out, hw3.out, if_pos c4, if_pos c5, rp, List.map_cons, validB_cons]; show Ev _ (if r.f0 < 0 then false else if r.f0 > r.f1 then false else if r.f1 > 1073741823 then false else if r.f0 - 1 ≤ p.f1 then false else validB 1073741823 r.f1 (t.map L102)); by_cases d1 : r.f0 < 0
  ·simp only [if_pos d1]; exact evNow _
  by_cases d2 : r.f0 > r.f1
  ·simp only [if_neg d1, if_pos d2]; exact evNow _
  by_cases d3 : r.f1 > 1073741823
  ·simp only [if_neg d1, if_neg d2, if_pos d3]; exact evNow _
  by_cases d4 : r.f0 ≤ p.f1 + 1
  ·simp only [if_neg d1, if_neg d2, if_neg d3, if_pos d4, if_pos (show r.f0 - 1 ≤ p.f1 by omega)]; exact evNow _
  ·have ih := refValid_loop N hN t (q ++ [p]) r (by rw [← e1]; exact hl) (by omega) (by omega); rw [← e1, ← e2] at ih; simp only [if_neg d1, if_neg d2, if_neg d3, if_neg d4, if_neg (show ¬ r.f0 - 1 ≤ p.f1 by omega)]; exact ih
theorem refValid_is (l : List S102) (hl : l.length * 16 ≤ 140737488351232) : Ev (fun k => leadtrailref04_Valid.f k l) (validB 1073741823 (-2) (l.map L102)) := by
 simp only [leadtrailref04_Valid.f]; cases l with
 | nil =>
  refine evSucc ?_; simp only [leadtrailref04_Valid.l0, List.length_nil, if_neg (show ¬ (0 : Int) < ((0 : Nat) : Int) by omega), List.map_nil, validB_nil]; exact evNow _
 | cons r t =>
  have c1 : (0 : Int) < (((r :: t).length : Nat) : Int) := by rw [List.length_cons]; omega
  have r1 : rd_T102 (r :: t) 0 = r := rfl; have hw : Aside0 (wrap64 ((0 : Int) + 1) = 1) := Aside0.mk (by rw [w64 (by omega) (by omega)]; rfl); refine evSucc ?_; simp only [leadtrailref04_Valid.l0, if_pos c1, if_pos (show (0 : Int) ≤ 0 by omega), r1, if_neg (show ¬ (0 : Int) > 0 by omega), hw.out, List.map_cons, validB_cons]; show Ev _ (if r.f0 < 0 then false else if r.f0 > r.f1 then false else if r.f1 > 1073741823 then false else if r.f0 - 1 ≤ -2 then false else validB 1073741823 r.f1 (t.map L102)); by_cases d1 : r.f0 < 0
  ·simp only [if_pos d1]; exact evNow _
  by_cases d2 : r.f0 > r.f1
  ·simp only [if_neg d1, if_pos d2]; exact evNow _
  by_cases d3 : r.f1 > 1073741823
  ·simp only [if_neg d1, if_neg d2, if_pos d3]; exact evNow _
  simp only [if_neg d1, if_neg d2, if_neg d3, if_neg (show ¬ r.f0 - 1 ≤ -2 by omega)]; exact refValid_loop (r :: t).length (by omega) t [] r (by simp) (by omega) (by omega)
theorem refSet_is (l : List S102) (hl : l.length * 16 ≤ 140737488351232) : ∃ t, Ev (fun k => leadtrailref04_set.f k l) t ∧ t.map L102 = setL 1073741823 (l.map L102) := by
 have h := refValid_is l hl; by_cases d : validB 1073741823 (-2) (l.map L102) = true
 ·refine ⟨l, Ev.bind h ?_, by unfold setL; rw [if_pos d]⟩; simp only [if_pos d]; exact evNow _
 ·refine ⟨[], Ev.bind h ?_, by unfold setL; rw [if_neg d]; rfl⟩; simp only [if_neg d]; exact evNow _
theorem refSet_facts {l : List S102} {s : List S102} (h : s.map L102 = setL 1073741823 (l.map L102)) : ValidFrom 1073741823 (-2) (s.map L102) ∧ s.length ≤ 1073741824 := by
 have hv : ValidFrom 1073741823 (-2) (s.map L102) := by rw [h]; exact setL_valid _ _
 have := valid_len' hv (by omega) (by omega); exact ⟨hv, by simpa using this⟩
def endsL (l : List S102) : List Int := l.flatMap fun r => [r.f0, r.f1 + 1]
theorem endsL_cons (r : S102) (t : List S102) : endsL (r :: t) = [r.f0, r.f1 + 1] ++ endsL t := by simp [endsL]
theorem ends_loop (N : Nat) (hN : N ≤ 1073741824) : ∀ (t pre : List S102) (out : List Int), (pre ++ t).length ≤ N → out.length = 2 * pre.length → (∀ r ∈ t, 0 ≤ r.f1 ∧ r.f1 ≤ 1073741823) → Ev (fun k => leadtrailref04_ends.l0 k (pre ++ t) out (pre.length : Int)) (out ++ endsL t)
 | [], pre, out, _, _, _ => by
  refine evSucc ?_; simp only [leadtrailref04_ends.l0]; rw [List.append_nil]; simp only [if_neg (show ¬ ((pre.length : Nat) : Int) < ((pre.length : Nat) : Int) by omega)]; simpa [endsL] using evNow out
 | r :: t, pre, out, hl, ho, hb => by
  have hlc := len_cons pre r t; have hr := hb r List.mem_cons_self; have hpl : pre.length ≤ N := by simp at hl; omega
  have c1 : (pre.length : Int) < ((pre ++ r :: t).length : Nat) := by rw [hlc]; omega
  have c2 : (0 : Int) ≤ pre.length := by omega
  have hw : Aside0 (wrap64 ((pre.length : Int) + 1) = (pre.length : Int) + 1) := Aside0.mk (w64 (by omega) (by omega)); have hw2 : Aside0 (wrap64 (r.f1 + 1) = r.f1 + 1) := Aside0.mk (w64 (by omega) (by omega)); have ih := ends_loop N hN t (pre ++ [r]) (out ++ [r.f0, r.f1 + 1]) (by rw [app_snoc]; exact hl) (by simp [ho]; omega) (fun z hz => hb z (List.mem_cons_of_mem _ hz)); rw [app_snoc, snoc_len] at ih; have e : out.length + [r.f0, r.f1 + 1].length < 17592186044416 := by simp; omega
  refine evSucc ?_; simp only [leadtrailref04_ends.l0, if_pos c1, if_pos c2, rd102, hw.out, hw2.out, Option.bind_some, if_pos e]; rw [endsL_cons, ← List.append_assoc]; exact ih
theorem ends_is (l : List S102) (hn : l.length ≤ 1073741824) (hv : ValidFrom 1073741823 (-2) (l.map L102)) : Ev (fun k => leadtrailref04_ends.f k l) (endsL l) := by
 have h := ends_loop l.length hn l [] [] (by simp) rfl (fun r hr => by
  have := hv.each (L102 r) (List.mem_map.2 ⟨r, hr, rfl⟩); have e : (L102 r).1 = r.f0 ∧ (L102 r).2 = r.f1 := ⟨rfl, rfl⟩; rw [e.1, e.2] at this; omega)
 simpa [leadtrailref04_ends.f] using h
theorem endsL_mem {l : List S102} {r : S102} (h : r ∈ l) : r.f0 ∈ endsL l ∧ r.f1 + 1 ∈ endsL l := by
 unfold endsL; simp only [List.mem_flatMap]; exact ⟨⟨r, h, by simp⟩, ⟨r, h, by simp⟩⟩
theorem endsL_range {l : List S102} (hv : ValidFrom 1073741823 (-2) (l.map L102)) : ∀ y ∈ endsL l, 0 ≤ y ∧ y ≤ 1073741824 := fun y hy => by
 unfold endsL at hy; obtain ⟨r, hr, hy⟩ := List.mem_flatMap.1 hy; have := hv.each (L102 r) (List.mem_map.2 ⟨r, hr, rfl⟩); have e : (L102 r).1 = r.f0 ∧ (L102 r).2 = r.f1 := ⟨rfl, rfl⟩; rw [e.1, e.2] at this; simp at hy; omega
theorem endsL_sorted : ∀ {l : List S102} {last : Int}, ValidFrom 1073741823 last (l.map L102) → (endsL l).Pairwise (· ≤ ·) ∧ ∀ y ∈ endsL l, last + 1 < y
 | [], _, _ => by simp [endsL]
 | r :: t, last, hv => by
  have e : (L102 r).1 = r.f0 ∧ (L102 r).2 = r.f1 := ⟨rfl, rfl⟩; obtain ⟨v0, v1, v2, v3, v4⟩ := hv; rw [e.1, e.2] at *; obtain ⟨i1, i2⟩ := endsL_sorted v4; rw [e.2] at i2; rw [endsL_cons]; refine ⟨?_, fun y hy => ?_⟩
  ·refine List.pairwise_cons.2 ⟨fun y hy => ?_, List.pairwise_cons.2 ⟨fun y hy => ?_, i1⟩⟩
   ·rcases List.mem_cons.1 hy with rfl | hy
    ·omega
    ·have := i2 y hy; omega
   ·have := i2 y hy; omega
  ·rcases List.mem_cons.1 hy with rfl | hy
   ·omega
   ·rcases List.mem_cons.1 hy with rfl | hy
    ·omega
    ·have := i2 y hy; omega
theorem endsL_len (l : List S102) : (endsL l).length = 2 * l.length := by
 induction l with
 | nil => rfl
 | cons r t ih => rw [endsL_cons, List.length_append, ih]; simp; omega
theorem valid_snoc {top : Int} : ∀ {o : List Run} {last : Int} {r : Run}, ValidFrom top last o → 0 ≤ r.1 → r.1 ≤ r.2 → r.2 ≤ top → last < r.1 - 1 → (∀ x, Mem o x → x < r.1 - 1) → ValidFrom top last (o ++ [r])
 | [], _, r, _, h0, h1, h2, h3, _ => ⟨h0, h1, h2, h3, trivial⟩
 | q :: o, last, r, hv, h0, h1, h2, h3, hm => by
  obtain ⟨v0, v1, v2, v3, v4⟩ := hv; exact ⟨v0, v1, v2, v3, valid_snoc v4 h0 h1 h2 (hm q.2 (mem_cons.2 (.inl ⟨v1, Int.le_refl _⟩))) fun x hx => hm x (mem_cons.2 (.inr hx))⟩
theorem valid_stretch {top : Int} : ∀ {o : List Run} {last : Int} {q : Run} {h : Int}, ValidFrom top last (o ++ [q]) → q.2 ≤ h → h ≤ top → ValidFrom top last (o ++ [(q.1, h)])
 | [], _, q, h, hv, h1, h2 => ⟨hv.1, Int.le_trans hv.2.1 h1, h2, hv.2.2.2.1, trivial⟩
 | p :: o, last, q, h, hv, h1, h2 => ⟨hv.1, hv.2.1, hv.2.2.1, hv.2.2.2.1, valid_stretch hv.2.2.2.2 h1 h2⟩
theorem mem_head {top : Int} {pa ta : List S102} {last y : Int} (hv : ValidFrom top last ((pa ++ ta).map L102)) (h1 : ∀ r ∈ pa, r.f1 < y) (h2 : ∀ r t, ta = r :: t → y ≤ r.f1) : Mem ((pa ++ ta).map L102) y ↔ ∃ r t, ta = r :: t ∧ r.f0 ≤ y := by
 have e : ∀ r : S102, (L102 r).1 = r.f0 ∧ (L102 r).2 = r.f1 := fun _ => ⟨rfl, rfl⟩
 rw [List.map_append, mem_append]; constructor
 ·rintro (⟨q, hq, h⟩ | h)
  ·obtain ⟨r, hr, rfl⟩ := List.mem_map.1 hq; have := h1 r hr; rw [(e r).2] at h; omega
  ·cases ta with
   | nil => exact (Mem.nil h).elim
   | cons r t =>
    rw [List.map_cons] at h; rcases mem_cons.1 h with h | h
    ·exact ⟨r, t, rfl, by rw [(e r).1] at h; exact h.1⟩
    ·have h3 := h2 r t rfl; have hvt : ValidFrom top r.f1 (t.map L102) := by
      clear h1 h2 h h3; induction pa generalizing last with
      | nil => exact hv.2.2.2.2
      | cons q pa ih => exact ih hv.2.2.2.2
     have := hvt.gt h; omega
 ·rintro ⟨r, t, rfl, h⟩; exact .inr (by rw [List.map_cons]; exact mem_cons.2 (.inl ⟨by rw [(e r).1]; exact h, by rw [(e r).2]; exact h2 r t rfl⟩))
def want (both first second : Bool) (A B : Bool) : Bool := if A then (if B then both else first) else (if B then second else false)
section
variable (a b : List S102) (both first second : Bool) (cuts : List Int)
theorem adv1 (N : Nat) (hN : N ≤ 1073741824) (out : List S102) (j kk lo hi : Int) : ∀ (ta pa : List S102), a = pa ++ ta → (pa ++ ta).length ≤ N → (∀ r ∈ pa, r.f1 < lo) →
 ∃ pa' ta', a = pa' ++ ta' ∧ (∀ r ∈ pa', r.f1 < lo) ∧ (∀ r t, ta' = r :: t → lo ≤ r.f1) ∧ ∀ res, Ev (fun k => leadtrailref04_combined.j2 k a b both first second out (pa'.length : Int) j kk lo hi cuts) res → Ev (fun k => leadtrailref04_combined.l1 k a b both first second out (pa.length : Int) j kk lo hi cuts) res
 | [], pa, ha, hl, hp => by
  refine ⟨pa, [], ha, hp, fun r t h => (by cases h), fun res hr => evSucc ?_⟩; subst ha; simp only [leadtrailref04_combined.l1, List.append_nil] at hr ⊢; simp only [if_neg (show ¬ ((pa.length : Nat) : Int) < ((pa.length : Nat) : Int) by omega)]; exact hr
 | r :: t, pa, ha, hl, hp => by
  have hlc := len_cons pa r t; have hpl : pa.length ≤ N := by simp at hl; omega
  have c1 : (pa.length : Int) < (a.length : Nat) := by rw [ha, hlc]; omega
  have c2 : (0 : Int) ≤ pa.length := by omega
  have rr : rd_T102 a (pa.length : Int) = r := by rw [ha]; exact rd102 _ _ _
  have hw : Aside0 (wrap64 ((pa.length : Int) + 1) = (pa.length : Int) + 1) := Aside0.mk (w64 (by omega) (by omega)); by_cases d : r.f1 < lo
  ·obtain ⟨pa', ta', g1, g2, g3, g4⟩ := adv1 N hN out j kk lo hi t (pa ++ [r]) (by rw [ha, app_snoc]) (by rw [app_snoc]; exact hl) (fun z hz => by
    rcases List.mem_append.1 hz with hz | hz
    ·exact hp z hz
    ·obtain rfl := List.mem_singleton.1 hz; exact d)
   refine ⟨pa', ta', g1, g2, g3, fun res hr => evSucc ?_⟩; have := g4 res hr; rw [snoc_len] at this; simp only [leadtrailref04_combined.l1, if_pos c1, if_pos c2, rr, if_pos d, hw.out]; exact this
  ·refine ⟨pa, r :: t, ha, hp, fun q s h => by injection h with h1 h2; subst h1; omega, fun res hr => evSucc ?_⟩; simp only [leadtrailref04_combined.l1, if_pos c1, if_pos c2, rr, if_neg d]; exact hr
theorem adv2 (N : Nat) (hN : N ≤ 1073741824) (out : List S102) (i kk lo hi : Int) : ∀ (tb pb : List S102), b = pb ++ tb → (pb ++ tb).length ≤ N → (∀ r ∈ pb, r.f1 < lo) →
 ∃ pb' tb', b = pb' ++ tb' ∧ (∀ r ∈ pb', r.f1 < lo) ∧ (∀ r t, tb' = r :: t → lo ≤ r.f1) ∧ ∀ res, Ev (fun k => leadtrailref04_combined.j4 k a b both first second out i (pb'.length : Int) kk lo hi cuts) res → Ev (fun k => leadtrailref04_combined.l2 k a b both first second out i (pb.length : Int) kk lo hi cuts) res
 | [], pb, hb, hl, hp => by
  refine ⟨pb, [], hb, hp, fun r t h => (by cases h), fun res hr => evSucc ?_⟩; subst hb; simp only [leadtrailref04_combined.l2, List.append_nil] at hr ⊢; simp only [if_neg (show ¬ ((pb.length : Nat) : Int) < ((pb.length : Nat) : Int) by omega)]; exact hr
 | r :: t, pb, hb, hl, hp => by
  have hlc := len_cons pb r t; have hpl : pb.length ≤ N := by simp at hl; omega
  have c1 : (pb.length : Int) < (b.length : Nat) := by rw [hb, hlc]; omega
  have c2 : (0 : Int) ≤ pb.length := by omega
  have rr : rd_T102 b (pb.length : Int) = r := by rw [hb]; exact rd102 _ _ _
  have hw : Aside0 (wrap64 ((pb.length : Int) + 1) = (pb.length : Int) + 1) := Aside0.mk (w64 (by omega) (by omega)); by_cases d : r.f1 < lo
  ·obtain ⟨pb', tb', g1, g2, g3, g4⟩ := adv2 N hN out i kk lo hi t (pb ++ [r]) (by rw [hb, app_snoc]) (by rw [app_snoc]; exact hl) (fun z hz => by
    rcases List.mem_append.1 hz with hz | hz
    ·exact hp z hz
    ·obtain rfl := List.mem_singleton.1 hz; exact d)
   refine ⟨pb', tb', g1, g2, g3, fun res hr => evSucc ?_⟩; have := g4 res hr; rw [snoc_len] at this; simp only [leadtrailref04_combined.l2, if_pos c1, if_pos c2, rr, if_pos d, hw.out]; exact this
  ·refine ⟨pb, r :: t, hb, hp, fun q s h => by injection h with h1 h2; subst h1; omega, fun res hr => evSucc ?_⟩; simp only [leadtrailref04_combined.l2, if_pos c1, if_pos c2, rr, if_neg d]; exact hr
theorem inside (out : List S102) (kk lo hi : Int) (pa ta pb tb : List S102) (ha : a = pa ++ ta) (hb : b = pb ++ tb) (va : ValidFrom 1073741823 (-2) (a.map L102)) (vb : ValidFrom 1073741823 (-2) (b.map L102)) (h1 : ∀ r ∈ pa, r.f1 < lo) (h2 : ∀ r t, ta = r :: t → lo ≤ r.f1) (h3 : ∀ r ∈ pb, r.f1 < lo) (h4 : ∀ r t, tb = r :: t → lo ≤ r.f1) (res : List S102)
 (hr : Ev (fun k => leadtrailref04_combined.j6 k a b both first second out (pa.length : Int) (pb.length : Int) kk lo hi cuts (!want both first second (memB (a.map L102) lo) (memB (b.map L102) lo))) res) :
 Ev (fun k => leadtrailref04_combined.j4 k a b both first second out (pa.length : Int) (pb.length : Int) kk lo hi cuts) res := by
 have j5 : ∀ A B : Bool, Ev (fun k => leadtrailref04_combined.j6 k a b both first second out (pa.length : Int) (pb.length : Int) kk lo hi cuts (!want both first second A B)) res → Ev (fun k => leadtrailref04_combined.j5 k a b both first second out (pa.length : Int) (pb.length : Int) kk lo hi A B cuts) res := fun A B h => by
  refine evSucc ?_; unfold want at h; cases A <;> cases B <;> cases both <;> cases first <;> cases second <;> simp only [leadtrailref04_combined.j5, Bool.false_eq_true, if_false, if_true] <;> simpa using h
 have ma := mem_head (y := lo) (by rw [← ha]; exact va) h1 h2; have mb := mem_head (y := lo) (by rw [← hb]; exact vb) h3 h4; rw [← ha] at ma; rw [← hb] at mb; have ea : (a.length : Int) = pa.length + ta.length := by rw [ha]; simp
 have eb : (b.length : Int) = pb.length + tb.length := by rw [hb]; simp
 have c2 : (0 : Int) ≤ pa.length := by omega
 have d2 : (0 : Int) ≤ pb.length := by omega
 refine evSucc ?_; have hb5 : ∀ A : Bool, A = memB (a.map L102) lo → Ev (fun k => if (pb.length : Int) < (b.length : Nat) then (if (0 : Int) ≤ (pb.length : Int) then leadtrailref04_combined.j5 k a b both first second out (pa.length : Int) (pb.length : Int) kk lo hi A (decide ((rd_T102 b (pb.length : Int)).f0 ≤ lo)) cuts else none) else leadtrailref04_combined.j5 k a b both first second out (pa.length : Int) (pb.length : Int) kk lo hi A false cuts) res := fun A hA => by
  cases tb with
  | nil =>
   have n1 : ¬ (pb.length : Int) < (b.length : Nat) := by simp at eb; omega
   simp only [if_neg n1]; have e : memB (b.map L102) lo = false := by
    cases hm : memB (b.map L102) lo
    ·rfl
    ·obtain ⟨r, t, h, _⟩ := mb.1 (memB_iff.1 hm); cases h
   rw [e, ← hA] at hr; exact j5 A false hr
  | cons r t =>
   have n1 : (pb.length : Int) < (b.length : Nat) := by simp at eb; omega
   have rr : rd_T102 b (pb.length : Int) = r := by rw [hb]; exact rd102 _ _ _
   simp only [if_pos n1, if_pos d2, rr]; have e : memB (b.map L102) lo = decide (r.f0 ≤ lo) := by
    rw [Bool.eq_iff_iff, memB_iff, decide_eq_true_iff, mb]; exact ⟨fun ⟨q, s, h, h'⟩ => by injection h with h1 _; rw [h1]; exact h', fun h => ⟨r, t, rfl, h⟩⟩
   rw [e, ← hA] at hr; exact j5 A _ hr
 cases ta with
 | nil =>
  have n1 : ¬ (pa.length : Int) < (a.length : Nat) := by simp at ea; omega
  simp only [leadtrailref04_combined.j4, if_neg n1]; refine hb5 false ?_; cases hm : memB (a.map L102) lo
  ·rfl
  ·obtain ⟨r, t, h, _⟩ := ma.1 (memB_iff.1 hm); cases h
 | cons r t =>
  have n1 : (pa.length : Int) < (a.length : Nat) := by simp at ea; omega
  have rr : rd_T102 a (pa.length : Int) = r := by rw [ha]; exact rd102 _ _ _
  simp only [leadtrailref04_combined.j4, if_pos n1, if_pos c2, rr]; refine hb5 (decide (r.f0 ≤ lo)) ?_; rw [Bool.eq_iff_iff, memB_iff, decide_eq_true_iff, ma]; exact ⟨fun h => ⟨r, t, rfl, h⟩, fun ⟨q, s, h, h'⟩ => by injection h with h1 _; rw [h1]; exact h'⟩
end
theorem same_between {l : List S102} {cuts : List Int} {c0 c1 x : Int} (he : ∀ y ∈ endsL l, y ∈ cuts) (hg : ∀ y ∈ cuts, y ≤ c0 ∨ c1 ≤ y) (h0 : c0 ≤ x) (h1 : x < c1) : Mem (l.map L102) x ↔ Mem (l.map L102) c0 := by
 have e : ∀ r : S102, (L102 r).1 = r.f0 ∧ (L102 r).2 = r.f1 := fun _ => ⟨rfl, rfl⟩
 constructor
 ·rintro ⟨q, hq, h2, h3⟩; obtain ⟨r, hr, rfl⟩ := List.mem_map.1 hq; rw [(e r).1] at h2; rw [(e r).2] at h3; have g1 := hg _ (he _ (endsL_mem hr).1); refine ⟨_, hq, ?_, ?_⟩
  ·rw [(e r).1]; omega
  ·rw [(e r).2]; omega
 ·rintro ⟨q, hq, h2, h3⟩; obtain ⟨r, hr, rfl⟩ := List.mem_map.1 hq; rw [(e r).1] at h2; rw [(e r).2] at h3; have g2 := hg _ (he _ (endsL_mem hr).2); refine ⟨_, hq, ?_, ?_⟩
  ·rw [(e r).1]; omega
  ·rw [(e r).2]; omega
theorem comb_loop (a b : List S102) (both first second : Bool) (cuts : List Int) (N : Nat) (hN : N ≤ 1073741824) (la : a.length ≤ N) (lb : b.length ≤ N) (va : ValidFrom 1073741823 (-2) (a.map L102)) (vb : ValidFrom 1073741823 (-2) (b.map L102)) (ea : ∀ y ∈ endsL a, y ∈ cuts) (eb : ∀ y ∈ endsL b, y ∈ cuts) (hs : cuts.Pairwise (· ≤ ·)) (hr : ∀ y ∈ cuts, 0 ≤ y ∧ y ≤ 1073741824) (hcl : cuts.length ≤ 4294967296) :
 ∀ (C P : List Int) (out : List S102) (pa ta pb tb : List S102), cuts = P ++ C → a = pa ++ ta → b = pb ++ tb → (∀ c R, C = c :: R → (∀ r ∈ pa, r.f1 < c) ∧ (∀ r ∈ pb, r.f1 < c)) → out.length ≤ P.length → ValidFrom 1073741823 (-2) (out.map L102) →
  (∀ x, Mem (out.map L102) x ↔ want both first second (memB (a.map L102) x) (memB (b.map L102) x) = true ∧ ∀ c R, C = c :: R → x < c) →
  ∃ r, Ev (fun k => leadtrailref04_combined.l0 k a b both first second out (pa.length : Int) (pb.length : Int) (P.length : Int) cuts) r ∧ ValidFrom 1073741823 (-2) (r.map L102) ∧ ∀ x, Mem (r.map L102) x ↔ want both first second (memB (a.map L102) x) (memB (b.map L102) x) = true
 | [], P, out, pa, ta, pb, tb, hc, ha, hb, _, hol, hv, hm => by
  have hP : P.length ≤ 4294967296 := by rw [hc] at hcl; simp at hcl; exact hcl
  have hw : Aside0 (wrap64 ((P.length : Int) + 1) = (P.length : Int) + 1) := Aside0.mk (w64 (by omega) (by omega)); have n1 : ¬ (P.length : Int) + 1 < (cuts.length : Nat) := by rw [hc]; simp; omega
  refine ⟨out, evSucc ?_, hv, fun x => (hm x).trans ⟨fun h => h.1, fun h => ⟨h, fun c R h => (by cases h)⟩⟩⟩; simp only [leadtrailref04_combined.l0, hw.out, if_neg n1]; exact evNow _
 | [c], P, out, pa, ta, pb, tb, hc, ha, hb, _, hol, hv, hm => by
  have hP : P.length ≤ 4294967296 := by rw [hc] at hcl; simp at hcl; omega
  have hw : Aside0 (wrap64 ((P.length : Int) + 1) = (P.length : Int) + 1) := Aside0.mk (w64 (by omega) (by omega)); have n1 : ¬ (P.length : Int) + 1 < (cuts.length : Nat) := by rw [hc]; simp
  have last : ∀ y ∈ cuts, y ≤ c := fun y hy => by
   rw [hc] at hy hs; rcases List.mem_append.1 hy with hy | hy
   ·exact (List.pairwise_append.1 hs).2.2 y hy c (by simp)
   ·obtain rfl := List.mem_singleton.1 hy; exact Int.le_refl _
  have e : ∀ r : S102, (L102 r).1 = r.f0 ∧ (L102 r).2 = r.f1 := fun _ => ⟨rfl, rfl⟩
  have none_ : ∀ {l : List S102} {x : Int}, (∀ y ∈ endsL l, y ∈ cuts) → Mem (l.map L102) x → x < c := fun {l x} he ⟨q, hq, h2, h3⟩ => by
   obtain ⟨r, hr, rfl⟩ := List.mem_map.1 hq; have := last _ (he _ (endsL_mem hr).2); rw [(e r).2] at h3; omega
  refine ⟨out, evSucc ?_, hv, fun x => (hm x).trans ⟨fun h => h.1, fun h => ⟨h, fun c' R h' => ?_⟩⟩⟩
  ·simp only [leadtrailref04_combined.l0, hw.out, if_neg n1]; exact evNow _
  ·injection h' with h1 _
   subst h1; cases hA : memB (a.map L102) x with
   | true => exact none_ ea (memB_iff.1 hA)
   | false => cases hB : memB (b.map L102) x with
    | true => exact none_ eb (memB_iff.1 hB)
    | false => rw [hA, hB] at h; simp [want] at h
 | c0 :: c1 :: R, P, out, pa, ta, pb, tb, hc, ha, hb, hp, hol, hv, hm => by
  have hP : P.length + 2 ≤ 4294967296 := by rw [hc] at hcl; simp at hcl; omega
  have hw : Aside0 (wrap64 ((P.length : Int) + 1) = (P.length : Int) + 1) := Aside0.mk (w64 (by omega) (by omega)); have n1 : (P.length : Int) + 1 < (cuts.length : Nat) := by rw [hc]; simp; omega
  have n2 : (0 : Int) ≤ (P.length : Int) := by omega
  have n3 : (P.length : Int) < (cuts.length : Nat) := by omega
  have n4 : (0 : Int) ≤ (P.length : Int) + 1 := by omega
  have r0 : rd cuts (P.length : Int) = c0 := by rw [hc]; exact rdI _ _ _
  have hc' : cuts = (P ++ [c0]) ++ c1 :: R := by rw [hc]; simp
  have r1 : rd cuts ((P.length : Int) + 1) = c1 := by rw [hc', ← snoc_len P c0]; exact rdI _ _ _
  have b0 := hr c0 (by rw [hc]; simp); have b1 := hr c1 (by rw [hc]; simp); have hw2 : Aside0 (wrap64 (c1 - 1) = c1 - 1) := Aside0.mk (w64 (by omega) (by omega)); have sp := hs; rw [hc] at sp; have sp2 := (List.pairwise_append.1 sp).2.1; have s01 : c0 ≤ c1 := (List.pairwise_cons.1 sp2).1 c1 (by simp); have sR : ∀ y ∈ c1 :: R, c1 ≤ y := fun y hy => by
   rcases List.mem_cons.1 hy with rfl | hy
   ·exact Int.le_refl _
   ·exact (List.pairwise_cons.1 (List.pairwise_cons.1 sp2).2).1 y hy
  have gap : ∀ y ∈ cuts, y ≤ c0 ∨ c1 ≤ y := fun y hy => by
   rw [hc] at hy; rcases List.mem_append.1 hy with hy | hy
   ·exact .inl ((List.pairwise_append.1 sp).2.2 y hy c0 (by simp))
   ·rcases List.mem_cons.1 hy with rfl | hy
    ·exact .inl (Int.le_refl _)
    ·exact .inr (sR y hy)
  have hp0 := hp c0 (c1 :: R) rfl; have next : ∀ (out' : List S102) (pa' ta' pb' tb' : List S102), a = pa' ++ ta' → b = pb' ++ tb' → (∀ r ∈ pa', r.f1 < c0) → (∀ r ∈ pb', r.f1 < c0) → out'.length ≤ P.length + 1 → ValidFrom 1073741823 (-2) (out'.map L102) → (∀ x, Mem (out'.map L102) x ↔ want both first second (memB (a.map L102) x) (memB (b.map L102) x) = true ∧ x < c1) →
   ∃ r, Ev (fun k => leadtrailref04_combined.l0 k a b both first second out' (pa'.length : Int) (pb'.length : Int) ((P.length : Int) + 1) cuts) r ∧ ValidFrom 1073741823 (-2) (r.map L102) ∧ ∀ x, Mem (r.map L102) x ↔ want both first second (memB (a.map L102) x) (memB (b.map L102) x) = true := fun out' pa' ta' pb' tb' ha' hb' hpa hpb hol' hv' hm' => by
   have ih := comb_loop a b both first second cuts N hN la lb va vb ea eb hs hr hcl (c1 :: R) (P ++ [c0]) out' pa' ta' pb' tb' hc' ha' hb' (fun c S h => by
    injection h with h1 _
    subst h1; exact ⟨fun r hr => Int.lt_of_lt_of_le (hpa r hr) s01, fun r hr => Int.lt_of_lt_of_le (hpb r hr) s01⟩) (by simpa using hol') hv' (fun x => (hm' x).trans ⟨fun h => ⟨h.1, fun c S hh => by injection hh with h1 _; rw [← h1]; exact h.2⟩, fun h => ⟨h.1, h.2 c1 R rfl⟩⟩)
   rw [snoc_len] at ih; exact ih
  by_cases d : c0 > c1 - 1
  ·obtain rfl : c0 = c1 := by omega
   obtain ⟨r, g1, g2, g3⟩ := next out pa ta pb tb ha hb hp0.1 hp0.2 (by omega) hv (fun x => (hm x).trans ⟨fun h => ⟨h.1, h.2 c0 _ rfl⟩, fun h => ⟨h.1, fun c S hh => by injection hh with h1 _; rw [← h1]; exact h.2⟩⟩); refine ⟨r, evSucc ?_, g2, g3⟩; simp only [leadtrailref04_combined.l0, hw.out, if_pos n1, if_pos n2, if_pos n3, if_pos n4, r0, r1, hw2.out, if_pos d]; exact g1
  ·obtain ⟨pa', ta', a1, a2, a3, a4⟩ := adv1 a b both first second cuts N hN out (pb.length : Int) (P.length : Int) c0 (c1 - 1) ta pa ha (by rw [← ha]; exact la) hp0.1
   obtain ⟨pb', tb', b1', b2, b3, b4⟩ := adv2 a b both first second cuts N hN out (pa'.length : Int) (P.length : Int) c0 (c1 - 1) tb pb hb (by rw [← hb]; exact lb) hp0.2
   have go : ∀ res, Ev (fun k => leadtrailref04_combined.j6 k a b both first second out (pa'.length : Int) (pb'.length : Int) (P.length : Int) c0 (c1 - 1) cuts (!want both first second (memB (a.map L102) c0) (memB (b.map L102) c0))) res → Ev (fun k => leadtrailref04_combined.l0 k a b both first second out (pa.length : Int) (pb.length : Int) (P.length : Int) cuts) res := fun res hres => by
    refine evSucc ?_; simp only [leadtrailref04_combined.l0, hw.out, if_pos n1, if_pos n2, if_pos n3, if_pos n4, r0, r1, hw2.out, if_neg d]; refine a4 res (evSucc ?_); simp only [leadtrailref04_combined.j2]; exact b4 res (inside a b both first second cuts out (P.length : Int) c0 (c1 - 1) pa' ta' pb' tb' a1 b1' va vb a2 a3 b2 b3 res hres)
   have const : ∀ x, c0 ≤ x → x < c1 → want both first second (memB (a.map L102) x) (memB (b.map L102) x) = want both first second (memB (a.map L102) c0) (memB (b.map L102) c0) := fun x h0 h1 => by
    rw [memB_eq (same_between ea gap h0 h1), memB_eq (same_between eb gap h0 h1)]
   have below : ∀ x, Mem (out.map L102) x → x < c0 := fun x hx => ((hm x).1 hx).2 c0 _ rfl
   by_cases hwant : want both first second (memB (a.map L102) c0) (memB (b.map L102) c0) = true
   ·
     have grow : ∀ out' : List S102, (∀ x, Mem (out'.map L102) x ↔ Mem (out.map L102) x ∨ (c0 ≤ x ∧ x ≤ c1 - 1)) → ∀ x, Mem (out'.map L102) x ↔ want both first second (memB (a.map L102) x) (memB (b.map L102) x) = true ∧ x < c1 := fun out' h x => by
      rw [h x, hm x]; constructor
      ·rintro (⟨h1, h2⟩ | ⟨h1, h2⟩)
       ·have := h2 c0 _ rfl; exact ⟨h1, by omega⟩
       ·exact ⟨by rw [const x h1 (by omega)]; exact hwant, by omega⟩
      ·rintro ⟨h1, h2⟩; by_cases hx : x < c0
       ·exact .inl ⟨h1, fun c S hh => by injection hh with h3 _; rw [← h3]; exact hx⟩
       ·exact .inr ⟨by omega, by omega⟩
     have e : ∀ r : S102, (L102 r).1 = r.f0 ∧ (L102 r).2 = r.f1 := fun _ => ⟨rfl, rfl⟩
     have put : (∃ o q, out = o ++ [q] ∧ q.f1 = c0 - 1) → ∃ r, Ev (fun k => leadtrailref04_combined.l0 k a b both first second out (pa.length : Int) (pb.length : Int) (P.length : Int) cuts) r ∧ ValidFrom 1073741823 (-2) (r.map L102) ∧ ∀ x, Mem (r.map L102) x ↔ want both first second (memB (a.map L102) x) (memB (b.map L102) x) = true := fun ⟨o, q, ho, hq⟩ => by
      subst ho; have hv2 : ValidFrom 1073741823 (-2) ((o ++ [(⟨q.f0, c1 - 1⟩ : S102)]).map L102) := by
       have h1 : ValidFrom 1073741823 (-2) (o.map L102 ++ [L102 q]) := by simpa using hv
       have := valid_stretch (h := c1 - 1) h1 (by rw [(e q).2]; omega) (by omega); rw [List.map_append]; exact this
      have hq0 : q.f0 ≤ q.f1 := by
       have := hv.each (L102 q) (by simp); rw [(e q).1, (e q).2] at this; exact this.2.1
      obtain ⟨r, g1, g2, g3⟩ := next (o ++ [⟨q.f0, c1 - 1⟩]) pa' ta' pb' tb' a1 b1' a2 b2 (by simp at hol ⊢; omega) hv2 (grow _ fun x => by
       simp only [List.map_append, mem_append, List.map_cons, List.map_nil, mem_cons]; show _ ∨ ((q.f0 ≤ x ∧ x ≤ c1 - 1) ∨ Mem [] x) ↔ (_ ∨ ((q.f0 ≤ x ∧ x ≤ q.f1) ∨ Mem [] x)) ∨ _; have hn : ¬ Mem [] x := Mem.nil; simp only [hn, or_false]; constructor
       ·rintro (h | h)
        ·exact .inl (.inl h)
        ·by_cases hx : x ≤ q.f1
         ·exact .inl (.inr ⟨h.1, hx⟩)
         ·exact .inr ⟨by omega, by omega⟩
       ·rintro ((h | h) | h)
        ·exact .inl h
        ·exact .inr ⟨h.1, by omega⟩
        ·exact .inr ⟨by omega, h.2⟩)
      refine ⟨r, go r (evSucc ?_), g2, g3⟩; have ol := snoc_len o q; have ob : o.length ≤ 4294967296 := by simp at hol; omega
      have hw3 : Aside0 (wrap64 ((((o ++ [q]).length : Nat) : Int) - 1) = (o.length : Int)) := Aside0.mk (by rw [ol, w64 (by omega) (by omega)]; omega); have hw4 : Aside0 (wrap64 (c0 - 1) = c0 - 1) := Aside0.mk (w64 (by omega) (by omega)); have k1 : (((o ++ [q]).length : Nat) : Int) > 0 := by omega
      have k2 : (0 : Int) ≤ (o.length : Int) := by omega
      have k3 : (o.length : Int) < (((o ++ [q]).length : Nat) : Int) := by omega
      have k4 : rd_T102 (o ++ [q]) (o.length : Int) = q := rd102 o q []; have k5 : (o ++ [q]).set (o.length : Int).toNat (⟨q.f0, c1 - 1⟩ : S102) = o ++ [⟨q.f0, c1 - 1⟩] := by simp
      simp only [leadtrailref04_combined.j6, hwant, Bool.not_true, Bool.false_eq_true, if_false, if_pos k1, hw3.out, if_pos k2, if_pos k3, k4, hw4.out, if_pos hq, k5, hw.out]; exact g1
     have add : (∀ x, Mem (out.map L102) x → x < c0 - 1) → (∀ o q, out = o ++ [q] → ¬ q.f1 = c0 - 1) → ∃ r, Ev (fun k => leadtrailref04_combined.l0 k a b both first second out (pa.length : Int) (pb.length : Int) (P.length : Int) cuts) r ∧ ValidFrom 1073741823 (-2) (r.map L102) ∧ ∀ x, Mem (r.map L102) x ↔ want both first second (memB (a.map L102) x) (memB (b.map L102) x) = true := fun hlt hne => by
      have hv2 : ValidFrom 1073741823 (-2) ((out ++ [(⟨c0, c1 - 1⟩ : S102)]).map L102) := by
       have := valid_snoc (r := (c0, c1 - 1)) hv b0.1 (by show c0 ≤ c1 - 1; omega) (by show c1 - 1 ≤ _; omega) (by show (-2 : Int) < c0 - 1; omega) hlt; simpa [L102] using this
      obtain ⟨r, g1, g2, g3⟩ := next (out ++ [⟨c0, c1 - 1⟩]) pa' ta' pb' tb' a1 b1' a2 b2 (by simp; omega) hv2 (grow _ fun x => by
       simp only [List.map_append, mem_append, List.map_cons, List.map_nil, mem_cons]; show _ ∨ ((c0 ≤ x ∧ x ≤ c1 - 1) ∨ Mem [] x) ↔ _; have hn : ¬ Mem [] x := Mem.nil; simp only [hn, or_false])
      refine ⟨r, go r (evSucc ?_), g2, g3⟩; have kl : out.length < 8796093022208 := by omega
      rcases List.eq_nil_or_concat out with rfl | ⟨o, q, ho⟩
      ·simp only [leadtrailref04_combined.j6, hwant, Bool.not_true, Bool.false_eq_true, if_false, List.length_nil, if_neg (show ¬ ((0 : Nat) : Int) > 0 by omega), if_pos (show (0 : Nat) < 8796093022208 from Nat.zero_lt_succ _), hw.out]; exact g1
      ·have ho' : out = o ++ [q] := by simpa using ho
       subst ho'; have ol := snoc_len o q; have ob : o.length ≤ 4294967296 := by simp at hol; omega
       have hw3 : Aside0 (wrap64 ((((o ++ [q]).length : Nat) : Int) - 1) = (o.length : Int)) := Aside0.mk (by rw [ol, w64 (by omega) (by omega)]; omega); have hw4 : Aside0 (wrap64 (c0 - 1) = c0 - 1) := Aside0.mk (w64 (by omega) (by omega)); have k1 : (((o ++ [q]).length : Nat) : Int) > 0 := by omega
       have k2 : (0 : Int) ≤ (o.length : Int) := by omega
       have k3 : (o.length : Int) < (((o ++ [q]).length : Nat) : Int) := by omega
       have k4 : rd_T102 (o ++ [q]) (o.length : Int) = q := rd102 o q []; simp only [leadtrailref04_combined.j6, hwant, Bool.not_true, Bool.false_eq_true, if_false, if_pos k1, hw3.out, if_pos k2, if_pos k3, k4, hw4.out, if_neg (hne o q rfl), if_pos kl, hw.out]; exact g1
     rcases List.eq_nil_or_concat out with rfl | ⟨o, q, ho⟩
     ·exact add (fun x hx => (Mem.nil hx).elim) (fun o q h => by simp at h)
     ·have ho' : out = o ++ [q] := by simpa using ho
      by_cases hq : q.f1 = c0 - 1
      ·exact put ⟨o, q, ho', hq⟩
      ·refine add (fun x hx => ?_) (fun o2 q2 h => ?_)
       ·have hxc := below x hx; by_cases hx1 : x < c0 - 1
        ·exact hx1
        ·exfalso
         have hq1 : q.f1 < c0 := below q.f1 (by
          rw [ho', List.map_append, mem_append]; have := hv.each (L102 q) (by rw [ho']; simp); exact .inr (mem_cons.2 (.inl ⟨this.2.1, Int.le_refl _⟩)))
         have hlast : ∀ {o : List S102} {last x : Int}, ValidFrom 1073741823 last ((o ++ [q]).map L102) → Mem ((o ++ [q]).map L102) x → x ≤ q.f1 := fun {o} => by
          induction o with
          | nil =>
           intro last x _ h; rcases mem_cons.1 h with h | h
           ·exact h.2
           ·exact (Mem.nil h).elim
          | cons p o ih =>
           intro last x hv h; rcases mem_cons.1 h with h | h
           ·have h3 := hv.2.2.2.2; have h4 : Mem ((o ++ [q]).map L102) q.f1 := by
             rw [List.map_append, mem_append]; have := h3.each (L102 q) (by simp); exact .inr (mem_cons.2 (.inl ⟨this.2.1, Int.le_refl _⟩))
            have := h3.gt h4; omega
           ·exact ih hv.2.2.2.2 h
         have := hlast (by rw [← ho']; exact hv) (by rw [← ho']; exact hx); omega
       ·rw [ho'] at h; have := List.append_inj' h rfl; have h3 : q = q2 := by simpa using this.2
        rw [← h3]; exact hq
   ·have hwf : want both first second (memB (a.map L102) c0) (memB (b.map L102) c0) = false := by simpa using hwant
    obtain ⟨r, g1, g2, g3⟩ := next out pa' ta' pb' tb' a1 b1' a2 b2 (by omega) hv (fun x => (hm x).trans ⟨fun h => ⟨h.1, by have := h.2 c0 _ rfl; omega⟩, fun h => ⟨h.1, fun c S hh => by
     injection hh with h3 _
     rw [← h3]; by_cases hx : x < c0
     ·exact hx
     ·have := const x (by omega) h.2; rw [h.1, hwf] at this; cases this⟩⟩)
    refine ⟨r, go r (evSucc ?_), g2, g3⟩; simp only [leadtrailref04_combined.j6, hwf, Bool.not_false, if_true, hw.out]; exact g1
termination_by C => C.length
theorem comb_is (l m : List S102) (hl : l.length * 16 ≤ 140737488351232) (hm : m.length * 16 ≤ 140737488351232) (both first second : Bool) :
 ∃ r, Ev (fun k => leadtrailref04_combined.f k l m both first second) r ∧ scalars_IsSet r (fun x => want both first second (memB (setL 1073741823 (l.map L102)) x) (memB (setL 1073741823 (m.map L102)) x) = true) := by
 obtain ⟨a, a1, a2⟩ := refSet_is l hl; obtain ⟨va, na⟩ := refSet_facts a2; obtain ⟨b, b1, b2⟩ := refSet_is m hm; obtain ⟨vb, nb⟩ := refSet_facts b2; have ea := ends_is a na va; have eb := ends_is b nb vb; have lea := endsL_len a; have leb := endsL_len b; have hm' := merged_is (endsL a) (endsL b) (by omega) (by omega); have hp := mergeL_perm _ (endsL a) (endsL b) rfl; have hpl := hp.length_eq; obtain ⟨r, g1, g2, g3⟩ := comb_loop a b both first second (mergeL (endsL a) (endsL b)) 1073741824 (Nat.le_refl _) na nb va vb (fun y hy => hp.mem_iff.2 (List.mem_append_left _ hy)) (fun y hy => hp.mem_iff.2 (List.mem_append_right _ hy)) (mergeL_sorted _ _ _ rfl (endsL_sorted va).1 (endsL_sorted vb).1)
  (fun y hy => by
   rcases List.mem_append.1 (hp.mem_iff.1 hy) with hy | hy
   ·exact endsL_range va y hy
   ·exact endsL_range vb y hy) (by rw [hpl, List.length_append]; omega) (mergeL (endsL a) (endsL b)) [] [] [] a [] b rfl rfl rfl (fun c R _ => ⟨fun r h => (by cases h), fun r h => (by cases h)⟩) (by simp) trivial (fun x => ⟨fun h => (Mem.nil h).elim, fun h => by
    exfalso
    obtain ⟨h1, h2⟩ := h; have e : ∀ r : S102, (L102 r).1 = r.f0 ∧ (L102 r).2 = r.f1 := fun _ => ⟨rfl, rfl⟩
    have ahead : ∀ {l : List S102}, (∀ y ∈ endsL l, y ∈ mergeL (endsL a) (endsL b)) → memB (l.map L102) x = false := fun {l} he => by
     cases hx : memB (l.map L102) x
     ·rfl
     ·obtain ⟨q, hq, h3, h4⟩ := memB_iff.1 hx; obtain ⟨r, hr, rfl⟩ := List.mem_map.1 hq; have hin := he _ (endsL_mem hr).1; have hs := mergeL_sorted _ _ _ rfl (endsL_sorted va).1 (endsL_sorted vb).1; cases hc : mergeL (endsL a) (endsL b) with
      | nil => rw [hc] at hin; cases hin
      | cons c R =>
       have h5 := h2 c R hc; rw [hc] at hin hs; have h6 : c ≤ r.f0 := by
        rcases List.mem_cons.1 hin with h | h
        ·omega
        ·exact (List.pairwise_cons.1 hs).1 _ h
       rw [(e r).1] at h3; omega
    rw [ahead (fun y hy => hp.mem_iff.2 (List.mem_append_left _ hy)), ahead (fun y hy => hp.mem_iff.2 (List.mem_append_right _ hy))] at h1; simp [want] at h1⟩)
 have hn := valid_len' g2 (by omega) (by omega); refine ⟨r, Ev.bind a1 (Ev.bind b1 (Ev.bind ea (Ev.bind eb (Ev.bind hm' (by simpa using g1))))), g2, by simpa using hn, fun x => by rw [g3 x, a2, b2]⟩
end Go.Proofs.Ytkcklnmbeinfkaa.PB4
end
section
namespace Go.Proofs.Ytkcklnmbeinfkaa.PBS
open Go.RowKit Go.Proofs.YtkcklnmbeinfkaaW.PrintWords Go.Proofs.YtkcklnmbeinfkaaW.PrintLast Go.Proofs.YtkcklnmbeinfkaaW.PrintMore Go.Proofs.Ytkcklnmbeinfkaa.B Go.Proofs.LT Go.Proofs.Ytkcklnmbeinfkaa.PB3
set_option linter.unusedVariables false
set_option linter.unusedSimpArgs false
def rng (p : Sh) : Ra := ⟨p.f1, lastOf p⟩
theorem shape_b {p : Sh} (h : vShape p.f0 p.f1 = true) : 0 ≤ p.f1 ∧ p.f1 ≤ lastOf p ∧ lastOf p ≤ 1073741823 ∧ cnt (sets p.f0) = lastOf p - p.f1 + 1 ∧ 1 ≤ cnt (sets p.f0) ∧ p.f0.all okPart = true ∧ p.f0.length ≤ 8 := by
 obtain ⟨h1, h2, h3, h4, h5⟩ := vShape_good h; have hc := cnt_pos h4; unfold lastOf; exact ⟨h2.1, by omega, by omega, by omega, hc, h3, h1.2⟩
theorem mem_rng {ss : List Sh} {x : Int} : Mem ((ss.map rng).map PB4.L102) x ↔ Taken ss x := by
 constructor
 ·rintro ⟨r, hr, h1, h2⟩; rw [List.map_map] at hr; obtain ⟨p, hp, rfl⟩ := List.mem_map.1 hr; exact ⟨p, hp, h1, h2⟩
 ·rintro ⟨p, hp, h1, h2⟩; exact ⟨_, List.mem_map.2 ⟨_, List.mem_map.2 ⟨p, hp, rfl⟩, rfl⟩, h1, h2⟩
theorem of_loop (r : List Ra) : ∀ (t pre : List Sh), (pre ++ t).length ≤ 32 → (∀ p ∈ t, In2 p.f0 ∧ vShape p.f0 p.f1 = true) → Ev (fun k => scalars_Norm.f k ((pre ++ t).map rng)) (r, 0, 0) →
 Ev (fun k => repert_Of.l0 k (pre.map rng) (pre ++ t) (((pre ++ t).length : Nat) : Int) (pre.length : Int)) (r, 0)
 | [], pre, _, _, hn => by
  refine evSucc ?_; rw [List.append_nil] at hn ⊢; simp only [repert_Of.l0, if_neg (show ¬ ((pre.length : Nat) : Int) < ((pre.length : Nat) : Int) by omega)]; exact Ev.bind hn (evNow _)
 | p :: t, pre, hl, hp, hn => by
  have hlc := len_cons pre p t; have hpl : pre.length ≤ 32 := by simp at hl; omega
  obtain ⟨hi, hv⟩ := hp p List.mem_cons_self; obtain ⟨b1, b2, b3, b4, b5, _, _⟩ := shape_b hv; have ih := of_loop r t (pre ++ [p]) (by rw [app_snoc]; exact hl) (fun q hq => hp q (List.mem_cons_of_mem _ hq)) (by rw [app_snoc]; exact hn); rw [app_snoc, snoc_len, List.map_append, List.map_singleton] at ih; have c1 : (pre.length : Int) < ((pre ++ p :: t).length : Nat) := by rw [hlc]; omega
  have c2 : (0 : Int) ≤ pre.length := by omega
  have hw : Aside0 (wrap64 ((pre.length : Int) + 1) = (pre.length : Int) + 1) := Aside0.mk (w64 (by omega) (by omega)); have w2 : Aside0 (wrap64 (wrap64 (p.f1 + cnt (sets p.f0)) - 1) = lastOf p) := Aside0.mk (by rw [w64 (x := p.f1 + cnt (sets p.f0)) (by omega) (by omega), w64 (by omega) (by omega)]; unfold lastOf; rfl); refine evSucc ?_; simp only [repert_Of.l0, if_pos c1, if_pos c2, rdSh]; have hcnt := Count_is p.f0 p.f1 hi; rw [if_pos hv] at hcnt; refine Ev.bind hcnt ?_; simp only [w2.out, hw.out, if_pos (show (pre.map rng).length < 8796093022208 by rw [List.length_map]; omega)]; exact ih
theorem rng_ok {ss : List Sh} (hv : ∀ p ∈ ss, vShape p.f0 p.f1 = true) : (ss.map rng).findIdx? PB4.scalars_badP = none := by
 rw [List.findIdx?_eq_none_iff]; intro r hr; obtain ⟨p, hp, rfl⟩ := List.mem_map.1 hr; obtain ⟨b1, b2, b3, _⟩ := shape_b (hv p hp); show (decide (p.f1 < 0) || decide (p.f1 > lastOf p) || decide (lastOf p > 1073741823)) = false; simp only [Bool.or_eq_false_iff, decide_eq_false_iff_not]; exact ⟨⟨by omega, by omega⟩, by omega⟩
def OfSpec (ss : List Sh) (r : List Ra × Int) : Prop := (vScheme ss = false ∧ r = ([], 84)) ∨ (vScheme ss = true ∧ r.2 = 0 ∧ PB4.scalars_IsSet r.1 (Taken ss))
theorem Of_is (ss : List Sh) (hI : InS ss) : ∃ r, Ev (fun k => repert_Of.f k ss) r ∧ OfSpec ss r := by
 have hval := schemeValid_is ss hI; cases hv : vScheme ss
 ·refine ⟨([], 84), ?_, .inl ⟨hv, rfl⟩⟩; rw [hv] at hval; simp only [repert_Of.f]; refine Ev.bind hval ?_; simp only [Bool.false_eq_true, if_false]; exact evNow _
 ·obtain ⟨h1, h2, _⟩ := vScheme_facts hv; obtain ⟨r, r1, r2⟩ := (PB4.scalars_Norm_is (ss.map rng) (by rw [List.length_map]; omega)).2 (rng_ok h2); refine ⟨(r, 0), ?_, .inr ⟨hv, rfl, ?_⟩⟩
  ·rw [hv] at hval; simp only [repert_Of.f]; refine Ev.bind hval ?_; simp only [if_true]; have := of_loop r ss [] (by simpa using h1) (fun p hp => ⟨hI.2 p hp, h2 p hp⟩) (by simpa using r1); simpa using this
  ·exact ⟨r2.1, r2.2.1, fun x => (r2.2.2 x).trans mem_rng⟩
end Go.Proofs.Ytkcklnmbeinfkaa.PBS
end
section
namespace Go.Proofs.Ytkcklnmbeinfkaa.PBS
open Go.RowKit Go.Proofs.YtkcklnmbeinfkaaW.PrintWords Go.Proofs.YtkcklnmbeinfkaaW.PrintLast Go.Proofs.YtkcklnmbeinfkaaW.PrintMore Go.Proofs.Ytkcklnmbeinfkaa.B Go.Proofs.LT Go.Proofs.Ytkcklnmbeinfkaa.PB3
set_option linter.unusedVariables false
set_option linter.unusedSimpArgs false
abbrev Rw := S109
theorem vS_iff2 : ∀ (t pre : List Sh), vS pre t = true → t.Pairwise (fun a b => meetsB b a = false)
 | [], pre, _ => List.Pairwise.nil
 | p :: t, pre, h => by
  simp only [vS, Bool.and_eq_true, Bool.not_eq_true'] at h; refine List.pairwise_cons.2 ⟨fun q hq => ?_, vS_iff2 t _ h.2.2⟩; exact (vS_facts t (pre ++ [p]) h.2.2).2.1 p (by simp) q hq
def PickInv (ss : List Sh) (lo : Int) (i : Nat) (best : Int) : Prop :=
 (best = -1 ∧ ∀ j (hj : j < ss.length), j < i → ¬ lo < ss[j].f1) ∨ (∃ b, ∃ hb : b < ss.length, best = (b : Int) ∧ b < i ∧ lo < ss[b].f1 ∧ ∀ j (hj : j < ss.length), j < i → lo < ss[j].f1 → ss[b].f1 ≤ ss[j].f1)
theorem PickInv.skip {ss : List Sh} {lo best : Int} {i : Nat} (hi : i < ss.length) (h : PickInv ss lo i best) (hn : ¬ lo < ss[i].f1) : PickInv ss lo (i + 1) best := by
 rcases h with ⟨h1, h2⟩ | ⟨b, hb, h1, h2, h3, h4⟩
 ·refine .inl ⟨h1, fun j hj hji => ?_⟩; rcases (by omega : j < i ∨ j = i) with q | rfl
  ·exact h2 j hj q
  ·exact hn
 ·refine .inr ⟨b, hb, h1, by omega, h3, fun j hj hji hlo => ?_⟩; rcases (by omega : j < i ∨ j = i) with q | rfl
  ·exact h4 j hj q hlo
  ·exact (hn hlo).elim
theorem PickInv.first {ss : List Sh} {lo : Int} {i : Nat} (hi : i < ss.length) (h : PickInv ss lo i (-1)) (hn : lo < ss[i].f1) : PickInv ss lo (i + 1) (i : Int) := by
 rcases h with ⟨h1, h2⟩ | ⟨b, hb, h1, h2, h3, h4⟩
 ·refine .inr ⟨i, hi, rfl, by omega, hn, fun j hj hji hlo => ?_⟩; rcases (by omega : j < i ∨ j = i) with q | rfl
  ·exact (h2 j hj q hlo).elim
  ·exact Int.le_refl _
 ·omega
theorem PickInv.less {ss : List Sh} {lo : Int} {i b : Nat} (hi : i < ss.length) (hb : b < ss.length) (h : PickInv ss lo i (b : Int)) (hn : lo < ss[i].f1) (hl : ss[i].f1 < ss[b].f1) : PickInv ss lo (i + 1) (i : Int) := by
 rcases h with ⟨h1, h2⟩ | ⟨b', hb', h1, h2, h3, h4⟩
 ·omega
 ·obtain rfl : b = b' := by omega
  refine .inr ⟨i, hi, rfl, by omega, hn, fun j hj hji hlo => ?_⟩; rcases (by omega : j < i ∨ j = i) with q | rfl
  ·have := h4 j hj q hlo; omega
  ·exact Int.le_refl _
theorem PickInv.more {ss : List Sh} {lo : Int} {i b : Nat} (hi : i < ss.length) (hb : b < ss.length) (h : PickInv ss lo i (b : Int)) (hl : ¬ ss[i].f1 < ss[b].f1) : PickInv ss lo (i + 1) (b : Int) := by
 rcases h with ⟨h1, h2⟩ | ⟨b', hb', h1, h2, h3, h4⟩
 ·omega
 ·obtain rfl : b = b' := by omega
  refine .inr ⟨b, hb, rfl, by omega, h3, fun j hj hji hlo => ?_⟩; rcases (by omega : j < i ∨ j = i) with q | rfl
  ·exact h4 j hj q hlo
  ·omega
theorem pick (ss : List Sh) (hs : ss.length ≤ 32) (h0 : ∀ p ∈ ss, 0 ≤ p.f1) (x3 : List Rw) (lo : Int) (hx : (x3 = [] ∧ lo = -1) ∨ (∃ o q, x3 = o ++ [q] ∧ lo = q.f0)) (hx3 : x3.length ≤ 32) (res : List Rw)
 (tail : ∀ b : Int, PickInv ss lo ss.length b → Ev (fun k => leadtrailref15_Rows.l1 k x3 b (ss.length : Int) ss) res) :
 ∀ (n i : Nat) (best : Int), i + n = ss.length → PickInv ss lo i best → Ev (fun k => leadtrailref15_Rows.l1 k x3 best (i : Int) ss) res
 | 0, i, best, hn, hI => by
  obtain rfl : i = ss.length := by omega
  exact tail best hI
 | n + 1, i, best, hn, hI => by
  have hi : i < ss.length := by omega
  have ih := pick ss hs h0 x3 lo hx hx3 res tail n (i + 1); have hw := succ_wrap i (by omega); have rdi := rdSh_at ss i hi; have choose : lo < ss[i].f1 → ∀ g : Nat → Option (List Rw), g = (fun k => if best < 0 then leadtrailref15_Rows.l1 k x3 (i : Int) ((i + 1 : Nat) : Int) ss else (if 0 ≤ best then (if best < (ss.length : Int) then (if ss[i].f1 < (rd_T50 ss best).f1 then leadtrailref15_Rows.l1 k x3 (i : Int) ((i + 1 : Nat) : Int) ss else leadtrailref15_Rows.l1 k x3 best ((i + 1 : Nat) : Int) ss) else none) else none)) → Ev g res := fun hc g hg => by
   rw [hg]; rcases hI with ⟨h1, h2⟩ | ⟨b, hb, h1, h2, h3, h4⟩
   ·subst h1; simp only [if_pos (show (-1 : Int) < 0 by omega)]; exact ih (i : Int) (by omega) (PickInv.first hi (.inl ⟨rfl, h2⟩) hc)
   ·subst h1; have hI' : PickInv ss lo i (b : Int) := .inr ⟨b, hb, rfl, h2, h3, h4⟩; simp only [if_neg (show ¬ (b : Int) < 0 by omega), if_pos (show (0 : Int) ≤ (b : Int) by omega), if_pos (show (b : Int) < (ss.length : Int) by omega), rdSh_at ss b hb]; by_cases c : ss[i].f1 < ss[b].f1
    ·simp only [if_pos c]; exact ih (i : Int) (by omega) (PickInv.less hi hb hI' hc c)
    ·simp only [if_neg c]; exact ih (b : Int) (by omega) (PickInv.more hi hb hI' c)
  refine evSucc ?_; simp only [leadtrailref15_Rows.l1, if_pos (show (i : Int) < (ss.length : Int) by omega), if_pos (show (0 : Int) ≤ (i : Int) by omega), rdi, hw.out]; rcases hx with ⟨rfl, hlo⟩ | ⟨o, q, rfl, hlo⟩
  ·simp only [if_pos (show ((([] : List Rw).length : Nat) : Int) = 0 from rfl)]; exact choose (by have := h0 _ (List.getElem_mem hi); omega) _ rfl
  ·have hl : (((o ++ [q]).length : Nat) : Int) = (o.length : Int) + 1 := by simp
   have hol : o.length ≤ 32 := by simp at hx3; omega
   have hw1 : wrap64 ((o.length : Int) + 1 - 1) = (o.length : Int) := by rw [w64 (by omega) (by omega)]; omega
   have hrd : rd_T109 (o ++ [q]) (o.length : Int) = q := by simp [rd_T109]
   simp only [hl, if_neg (show ¬ (o.length : Int) + 1 = 0 by omega), hw1, if_pos (show (0 : Int) ≤ (o.length : Int) by omega), if_pos (show (o.length : Int) < (o.length : Int) + 1 by omega), hrd]; by_cases c : ss[i].f1 > q.f0
   ·simp only [if_pos c]; exact choose (by omega) _ rfl
   ·simp only [if_neg c]; exact ih best (by omega) (PickInv.skip hi hI (by omega))
end Go.Proofs.Ytkcklnmbeinfkaa.PBS
end
section
namespace Go.Proofs.Ytkcklnmbeinfkaa.PBS
open Go.RowKit Go.Proofs.YtkcklnmbeinfkaaW.PrintWords Go.Proofs.YtkcklnmbeinfkaaW.PrintLast Go.Proofs.YtkcklnmbeinfkaaW.PrintMore Go.Proofs.Ytkcklnmbeinfkaa.B Go.Proofs.LT Go.Proofs.Ytkcklnmbeinfkaa.PB3
set_option linter.unusedVariables false
set_option linter.unusedSimpArgs false
def keyR (r : Rw) : Int × Int := (r.f0, r.f1)
def keyS (p : Sh) : Int × Int := (p.f1, lastOf p)
theorem rows_loop (ss : List Sh) (hI : InS ss) (hs : ss.length ≤ 32) (hv : ∀ p ∈ ss, vShape p.f0 p.f1 = true) : ∀ (t pre : List Sh) (x3 : List Rw), (pre ++ t).Perm ss → (pre ++ t).Pairwise (fun p q => lastOf p < q.f1) → x3.map keyR = pre.map keyS →
 ∃ R, Ev (fun k => leadtrailref15_Rows.l0 k x3 ss) R ∧ R.map keyR = (pre ++ t).map keyS
 | [], pre, x3, hp, _, hk => by
  refine ⟨x3, evSucc ?_, by rw [List.append_nil]; exact hk⟩; have h1 := hp.length_eq; have h2 := congrArg List.length hk; simp only [List.length_map, List.append_nil] at h1 h2; simp only [leadtrailref15_Rows.l0, if_neg (show ¬ (x3.length : Int) < (ss.length : Int) by omega)]; exact evNow _
 | p :: t, pre, x3, hp, hw, hk => by
  have h1 := hp.length_eq; have h2 := congrArg List.length hk; simp only [List.length_map, List.length_append, List.length_cons] at h1 h2; have hpm : p ∈ ss := hp.subset (by simp); have hwp := List.pairwise_append.1 hw; have hwt := List.pairwise_cons.1 hwp.2.1; have hx : ∃ lo : Int, ((x3 = [] ∧ lo = -1) ∨ (∃ o q, x3 = o ++ [q] ∧ lo = q.f0)) ∧ lo < p.f1 ∧ ∀ c ∈ pre, c.f1 ≤ lo := by
   rcases List.eq_nil_or_concat pre with rfl | ⟨o, q, rfl⟩
   ·refine ⟨-1, .inl ⟨List.map_eq_nil_iff.1 hk, rfl⟩, ?_, fun c hc => by cases hc⟩; have := (shape_b (hv p hpm)).1; omega
   ·rw [List.concat_eq_append] at hk hwp hp hw; rw [List.map_append, List.map_singleton] at hk; rcases List.eq_nil_or_concat x3 with rfl | ⟨o', q', rfl⟩
    ·simp at hk
    ·rw [List.concat_eq_append] at hk ⊢; rw [List.map_append, List.map_singleton] at hk; have hq := (List.append_inj' hk rfl).2; have hq0 : q'.f0 = q.f1 := congrArg Prod.fst (List.cons.inj hq).1; refine ⟨q'.f0, .inr ⟨o', q', rfl, rfl⟩, ?_, fun c hc => ?_⟩
     ·have a := hwp.2.2 q (by simp) p (by simp); have := shape_b (hv q (hp.subset (by simp))); omega
     ·rw [hq0]; rw [List.concat_eq_append] at hc; rcases List.mem_append.1 hc with hc | hc
      ·have a := (List.pairwise_append.1 hwp.1).2.2 c hc q (by simp); have := shape_b (hv c (hp.subset (by simp [hc]))); omega
      ·rw [List.mem_singleton.1 hc]; exact Int.le_refl _
  obtain ⟨lo, hlo, hlp, hpre⟩ := hx; obtain ⟨hb0, _, _, hcn, _, hall, hl8⟩ := shape_b (hv p hpm); have cands : ∀ c ∈ ss, lo < c.f1 → c = p ∨ p.f1 < c.f1 := fun c hc hcl => by
   rcases List.mem_append.1 (hp.symm.subset hc) with hc' | hc'
   ·have := hpre c hc'; omega
   ·rcases List.mem_cons.1 hc' with rfl | hc'
    ·exact .inl rfl
    ·have := hwt.1 c hc'; have := shape_b (hv p hpm); exact .inr (by omega)
  have key : ∀ b : Nat, (hb : b < ss.length) → ss[b] = p → ∃ R, Ev (fun k => leadtrailref15_Rows.l0 k (x3 ++ [(⟨p.f1, lastOf p, (b : Int)⟩ : Rw)]) ss) R ∧ R.map keyR = (pre ++ p :: t).map keyS := fun b hb hbp => by
   have := rows_loop ss hI hs hv t (pre ++ [p]) (x3 ++ [(⟨p.f1, lastOf p, (b : Int)⟩ : Rw)]) (by rw [app_snoc]; exact hp) (by rw [app_snoc]; exact hw) (by rw [List.map_append, List.map_append, hk]; rfl); rwa [app_snoc] at this
  obtain ⟨b0, hb0l, hb0p⟩ := List.getElem_of_mem hpm; have found : ∀ best : Int, PickInv ss lo ss.length best → ∃ b : Nat, ∃ hb : b < ss.length, best = (b : Int) ∧ ss[b] = p := fun best h => by
   rcases h with ⟨_, h2⟩ | ⟨b, hb, e, _, h3, h4⟩
   ·exact (h2 b0 hb0l hb0l (by rw [hb0p]; exact hlp)).elim
   ·refine ⟨b, hb, e, ?_⟩; rcases cands _ (List.getElem_mem hb) h3 with q | q
    ·exact q
    ·have := h4 b0 hb0l hb0l (by rw [hb0p]; exact hlp); rw [hb0p] at this; omega
  have uniq : ∀ b b' : Nat, (hb : b < ss.length) → (hb' : b' < ss.length) → ss[b] = p → ss[b'] = p → b = b' := fun b b' hb hb' e e' => by
   have hsym : ss.Pairwise (fun p q => p ≠ q) := by
    have hne : (pre ++ p :: t).Pairwise (fun p q => p ≠ q) := by
     refine List.Pairwise.imp_of_mem ?_ hw; intro a c ha hc hac e; subst e; have := shape_b (hv a (hp.subset ha)); omega
    exact (hp.pairwise_iff (fun h => Ne.symm h)).1 hne
   rcases Nat.lt_trichotomy b b' with q | q | q
   ·exact (List.pairwise_iff_getElem.1 hsym b b' hb hb' q (e.trans e'.symm)).elim
   ·exact q
   ·exact (List.pairwise_iff_getElem.1 hsym b' b hb' hb q (e'.trans e.symm)).elim
  obtain ⟨R, hR, hRk⟩ := key b0 hb0l hb0p; refine ⟨R, evSucc ?_, hRk⟩; simp only [leadtrailref15_Rows.l0, if_pos (show (x3.length : Int) < (ss.length : Int) by omega)]; have := pick ss hs (fun q hq => (shape_b (hv q hq)).1) x3 lo hlo (by omega) R (fun best hbest => by
   obtain ⟨b, hb, rfl, hbp⟩ := found best hbest; obtain rfl := uniq b b0 hb hb0l hbp hb0p; refine evSucc ?_; have hcnt := refCount8_is p.f0 p.f1 (hI.2 p hpm) hall hl8; rw [show min (cnt (sets p.f0)) 1073741825 = cnt (sets p.f0) by omega] at hcnt; have w2 : wrap64 (wrap64 (p.f1 + cnt (sets p.f0)) - 1) = lastOf p := by rw [w64 (x := p.f1 + cnt (sets p.f0)) (by omega) (by omega), w64 (by omega) (by omega)]; unfold lastOf; rfl
   simp only [leadtrailref15_Rows.l1, if_neg (show ¬ (ss.length : Int) < (ss.length : Int) by omega), if_pos (show (0 : Int) ≤ (b : Int) by omega), if_pos (show (b : Int) < (ss.length : Int) by omega), rdSh_at ss b hb, hbp]; refine Ev.bind hcnt ?_; simp only [w2, if_pos (show x3.length < 5864062014805 by omega)]; exact hR) ss.length 0 (-1) (by omega) (.inl ⟨rfl, fun j _ h => by omega⟩)
  exact this
theorem sorted_of {ss : List Sh} (hv : vScheme ss = true) : ∃ S : List Sh, S.Perm ss ∧ S.Pairwise (fun p q => lastOf p < q.f1) := by
 obtain ⟨_, h2, _⟩ := vScheme_facts hv; simp only [vScheme, Bool.and_eq_true, decide_eq_true_eq] at hv; have hm := vS_iff2 ss [] hv.2; have hd : ss.Pairwise (fun p q => lastOf p < q.f1 ∨ lastOf q < p.f1) := by
  refine hm.imp ?_; intro a b h; simp only [meetsB, Bool.and_eq_false_iff, decide_eq_false_iff_not] at h; omega
 have hS := List.mergeSort_perm ss (fun p q => decide (p.f1 ≤ q.f1)); have hp : (ss.mergeSort (fun p q => decide (p.f1 ≤ q.f1))).Pairwise (fun p q => decide (p.f1 ≤ q.f1) = true) := List.pairwise_mergeSort (fun a b c h1 h2 => by simp only [decide_eq_true_eq] at *; omega) (fun a b => by simp only [Bool.or_eq_true, decide_eq_true_eq]; omega) ss; refine ⟨_, hS, ?_⟩; have hd' := (hS.pairwise_iff (R := fun p q => lastOf p < q.f1 ∨ lastOf q < p.f1) (fun h => h.symm)).2 hd; refine List.Pairwise.imp_of_mem ?_ (hp.and hd'); rintro a b ha hb ⟨h1, h3⟩; have := shape_b (h2 a (hS.subset ha)); have := shape_b (h2 b (hS.subset hb)); simp only [decide_eq_true_eq] at h1; omega
theorem taken_perm {a b : List Sh} (h : a.Perm b) (x : Int) : Taken a x ↔ Taken b x := ⟨fun ⟨q, hq, e⟩ => ⟨q, h.subset hq, e⟩, fun ⟨q, hq, e⟩ => ⟨q, h.symm.subset hq, e⟩⟩
end Go.Proofs.Ytkcklnmbeinfkaa.PBS
end
section
namespace Go.Proofs.Ytkcklnmbeinfkaa.PBS
open Go.RowKit Go.Proofs.YtkcklnmbeinfkaaW.PrintWords Go.Proofs.YtkcklnmbeinfkaaW.PrintLast Go.Proofs.YtkcklnmbeinfkaaW.PrintMore Go.Proofs.Ytkcklnmbeinfkaa.B Go.Proofs.LT Go.Proofs.Ytkcklnmbeinfkaa.PB3
set_option linter.unusedVariables false
set_option linter.unusedSimpArgs false
theorem valid_le {top : Int} : ∀ {l : List Run} {last : Int}, ValidFrom top last l → ∀ r ∈ l, r.1 ≤ r.2 ∧ -2 < r.1
 | [], _, _, r, hr => by cases hr
 | q :: t, last, hv, r, hr => by
  obtain ⟨v0, v1, v2, v3, v4⟩ := hv; rcases List.mem_cons.1 hr with rfl | hr
  ·exact ⟨v1, by omega⟩
  ·exact valid_le v4 r hr
theorem below_last {top : Int} : ∀ {o : List Run} {last : Int} {q : Run}, ValidFrom top last (o ++ [q]) → ∀ s ∈ o, s.2 < q.1 - 1
 | [], _, _, _, s, hs => by cases hs
 | p :: o, last, q, hv, s, hs => by
  obtain ⟨_, _, _, _, v4⟩ := hv; have from_ : ∀ {l : List Run} {a : Int}, ValidFrom top a l → ∀ r ∈ l, a < r.1 - 1 := fun {l} => by
   induction l with
   | nil => intro a _ r hr; cases hr
   | cons z l ih =>
    intro a hv r hr; rcases List.mem_cons.1 hr with rfl | hr
    ·exact hv.2.2.2.1
    ·have := ih hv.2.2.2.2 r hr; have := hv.2.2.2.1; have := hv.2.1; omega
  rcases List.mem_cons.1 hs with rfl | hs
  ·exact from_ v4 q (by simp)
  ·exact below_last v4 s hs
def AccInv (pre : List Rw) (acc : List Ra) : Prop :=
 acc.length ≤ pre.length ∧ ValidFrom 1073741823 (-2) (acc.map PB4.L102) ∧ (∀ x, Mem (acc.map PB4.L102) x ↔ ∃ r ∈ pre, r.f0 ≤ x ∧ x ≤ r.f1) ∧ (acc = [] ∨ ∃ o q p, acc = o ++ [q] ∧ p ∈ pre ∧ q.f1 = p.f1)
theorem of25_loop : ∀ (t pre : List Rw) (acc : List Ra), (pre ++ t).length ≤ 32 → (∀ r ∈ pre ++ t, 0 ≤ r.f0 ∧ r.f0 ≤ r.f1 ∧ r.f1 ≤ 1073741823) → (pre ++ t).Pairwise (fun a b => a.f1 < b.f0) → AccInv pre acc →
 ∃ r, Ev (fun k => leadtrailref25_Of.l0 k acc (pre.length : Int) (pre ++ t)) (r, 0) ∧ AccInv (pre ++ t) r
 | [], pre, acc, hl, _, _, hA => by
  refine ⟨acc, evSucc ?_, by rw [List.append_nil]; exact hA⟩; rw [List.append_nil]; simp only [leadtrailref25_Of.l0, if_neg (show ¬ (pre.length : Int) < (pre.length : Int) by omega)]; exact evNow _
 | r :: t, pre, acc, hl, hb, hw, hA => by
  have hlc := len_cons pre r t; have hpl : pre.length ≤ 32 := by simp at hl; omega
  obtain ⟨r0, r1, r2⟩ := hb r (by simp); have hwp := List.pairwise_append.1 hw; have hlt : ∀ a ∈ pre, a.f1 < r.f0 := fun a ha => hwp.2.2 a ha r (by simp)
  obtain ⟨a1, a2, a3, a4⟩ := hA; have hmem : ∀ x, Mem (acc.map PB4.L102) x → x < r.f0 := fun x hx => by
   obtain ⟨a, ha, _, h2⟩ := (a3 x).1 hx; have := hlt a ha; omega
  have step : ∀ acc' : List Ra, AccInv (pre ++ [r]) acc' → ∃ q, Ev (fun k => leadtrailref25_Of.l0 k acc' ((pre.length : Int) + 1) (pre ++ r :: t)) (q, 0) ∧ AccInv (pre ++ r :: t) q := fun acc' h => by
   have := of25_loop t (pre ++ [r]) acc' (by rw [app_snoc]; exact hl) (by rw [app_snoc]; exact hb) (by rw [app_snoc]; exact hw) h; rwa [app_snoc, snoc_len] at this
  have c1 : (pre.length : Int) < ((pre ++ r :: t).length : Nat) := by rw [hlc]; omega
  have c2 : (0 : Int) ≤ pre.length := by omega
  have hwr : wrap64 ((pre.length : Int) + 1) = (pre.length : Int) + 1 := w64 (by omega) (by omega); have hrd : rd_T109 (pre ++ r :: t) (pre.length : Int) = r := by simp [rd_T109]
  have memr : ∀ x, (∃ s ∈ pre ++ [r], s.f0 ≤ x ∧ x ≤ s.f1) ↔ ((∃ s ∈ pre, s.f0 ≤ x ∧ x ≤ s.f1) ∨ (r.f0 ≤ x ∧ x ≤ r.f1)) := fun x => by
   constructor
   ·rintro ⟨s, hs, h⟩; rcases List.mem_append.1 hs with hs | hs
    ·exact .inl ⟨s, hs, h⟩
    ·rw [List.mem_singleton.1 hs] at h; exact .inr h
   ·rintro (⟨s, hs, h⟩ | h)
    ·exact ⟨s, by simp [hs], h⟩
    ·exact ⟨r, by simp, h⟩
  have fresh : (∀ x, Mem (acc.map PB4.L102) x → x < r.f0 - 1) → AccInv (pre ++ [r]) (acc ++ [(⟨r.f0, r.f1⟩ : Ra)]) := fun hm => by
   refine ⟨by simp; omega, ?_, fun x => ?_, .inr ⟨acc, ⟨r.f0, r.f1⟩, r, rfl, by simp, rfl⟩⟩
   ·rw [List.map_append, List.map_singleton]; exact PB4.valid_snoc a2 r0 r1 r2 (by show (-2 : Int) < r.f0 - 1; omega) hm
   ·rw [List.map_append, List.map_singleton, mem_append, a3 x, memr x, mem_cons]; exact ⟨fun h => h.elim .inl fun h => h.elim .inr fun h => (Mem.nil h).elim, fun h => h.elim .inl fun h => .inr (.inl h)⟩
  have own : (∀ x, Mem (acc.map PB4.L102) x → x < r.f0 - 1) → ∃ q, Ev (fun k => leadtrailref25_Of.l0 k (acc ++ [(⟨r.f0, r.f1⟩ : Ra)]) ((pre.length : Int) + 1) (pre ++ r :: t)) (q, 0) ∧ AccInv (pre ++ r :: t) q := fun hm => step _ (fresh hm)
  rcases a4 with rfl | ⟨o, q, p, rfl, hp, hq⟩
  ·obtain ⟨z, z1, z2⟩ := own (fun x hx => (Mem.nil hx).elim); refine ⟨z, evSucc ?_, z2⟩; simp only [leadtrailref25_Of.l0, if_pos c1, if_pos c2, hrd, hwr, if_neg (show ¬ ((([] : List Ra).length : Nat) : Int) > 0 by simp), if_pos (show ([] : List Ra).length < 8796093022208 by simp)]; exact z1
  ·have hol : o.length ≤ 32 := by simp at a1; omega
   have hl1 : (((o ++ [q]).length : Nat) : Int) = (o.length : Int) + 1 := by simp
   have hw1 : wrap64 ((o.length : Int) + 1 - 1) = (o.length : Int) := by rw [w64 (by omega) (by omega)]; omega
   have hrq : rd_T102 (o ++ [q]) (o.length : Int) = q := by simp [rd_T102]
   have hql := hlt p hp; have hpb := hb p (by simp [hp]); have hwq : wrap64 (q.f1 + 1) = q.f1 + 1 := w64 (by omega) (by omega); have hset : (o ++ [q]).set ((o.length : Int)).toNat (⟨q.f0, r.f1⟩ : Ra) = o ++ [(⟨q.f0, r.f1⟩ : Ra)] := by simp
   rw [List.map_append, List.map_singleton] at a2 a3; have hqle := (valid_le a2 (PB4.L102 q) (by simp)).1; by_cases c : q.f1 + 1 = r.f0
   ·
     have hA' : AccInv (pre ++ [r]) (o ++ [(⟨q.f0, r.f1⟩ : Ra)]) := by
      refine ⟨by simp at a1 ⊢; omega, ?_, fun x => ?_, .inr ⟨o, ⟨q.f0, r.f1⟩, r, rfl, by simp, rfl⟩⟩
      ·rw [List.map_append, List.map_singleton]; exact PB4.valid_stretch a2 (by show q.f1 ≤ r.f1; omega) r2
      ·rw [List.map_append, List.map_singleton, memr x, ← a3 x, mem_append, mem_append, mem_cons, mem_cons]; have hqle' : q.f0 ≤ q.f1 := hqle; show (_ ∨ ((q.f0 ≤ x ∧ x ≤ r.f1) ∨ _)) ↔ ((_ ∨ ((q.f0 ≤ x ∧ x ≤ q.f1) ∨ _)) ∨ _); constructor
       ·rintro (h | h | h)
        ·exact .inl (.inl h)
        ·rcases (by omega : x ≤ q.f1 ∨ r.f0 ≤ x) with e | e
         ·exact .inl (.inr (.inl ⟨h.1, e⟩))
         ·exact .inr ⟨e, h.2⟩
        ·exact (Mem.nil h).elim
       ·rintro ((h | h | h) | h)
        ·exact .inl h
        ·exact .inr (.inl ⟨h.1, by omega⟩)
        ·exact (Mem.nil h).elim
        ·exact .inr (.inl ⟨by omega, h.2⟩)
     obtain ⟨z, z1, z2⟩ := step _ hA'; refine ⟨z, evSucc ?_, z2⟩; simp only [leadtrailref25_Of.l0, if_pos c1, if_pos c2, hrd, hwr, hl1, if_pos (show (o.length : Int) + 1 > 0 by omega), hw1, if_pos (show (0 : Int) ≤ (o.length : Int) by omega), if_pos (show (o.length : Int) < (o.length : Int) + 1 by omega), hrq, hwq, if_pos c, hset]; exact z1
   ·obtain ⟨z, z1, z2⟩ := own (fun x hx => by
     rw [List.map_append, List.map_singleton] at hx; obtain ⟨s, hs, h1, h2⟩ := hx; rcases List.mem_append.1 hs with hs | hs
     ·
       have hmq : Mem (o.map PB4.L102 ++ [PB4.L102 q]) q.f1 := ⟨PB4.L102 q, by simp, hqle, Int.le_refl _⟩; have hb := below_last a2 s hs; have e : (PB4.L102 q).1 = q.f0 := rfl; have hqle' : q.f0 ≤ q.f1 := hqle; rw [e] at hb; omega
     ·rw [List.mem_singleton.1 hs] at h2; have h2' : x ≤ q.f1 := h2; omega)
    refine ⟨z, evSucc ?_, z2⟩; simp only [leadtrailref25_Of.l0, if_pos c1, if_pos c2, hrd, hwr, hl1, if_pos (show (o.length : Int) + 1 > 0 by omega), hw1, if_pos (show (0 : Int) ≤ (o.length : Int) by omega), if_pos (show (o.length : Int) < (o.length : Int) + 1 by omega), hrq, hwq, if_neg c, if_pos (show (o ++ [q]).length < 8796093022208 by simp; omega)]; exact z1
theorem refOf25_is (ss : List Sh) (hI : InS ss) : ∃ r, Ev (fun k => leadtrailref25_Of.f k ss) r ∧ OfSpec ss r := by
 have hval := refValid8_is ss hI; cases hv : vScheme ss
 ·refine ⟨([], 84), ?_, .inl ⟨hv, rfl⟩⟩; rw [hv] at hval; simp only [leadtrailref25_Of.f]; refine Ev.bind hval ?_; simp only [Bool.false_eq_true, if_false]; exact evNow _
 ·obtain ⟨h1, h2, _⟩ := vScheme_facts hv; obtain ⟨S, hS, hw⟩ := sorted_of hv; obtain ⟨R, hR, hRk⟩ := rows_loop ss hI h1 h2 S [] [] (by simpa using hS) (by simpa using hw) rfl; rw [List.nil_append] at hRk; have hlen : R.length ≤ 32 := by
   have := congrArg List.length hRk; simp only [List.length_map] at this; have := hS.length_eq; omega
  have hmem : ∀ r ∈ R, ∃ p ∈ S, r.f0 = p.f1 ∧ r.f1 = lastOf p := fun r hr => by
   have : keyR r ∈ S.map keyS := by rw [← hRk]; exact List.mem_map.2 ⟨r, hr, rfl⟩
   obtain ⟨p, hp, e⟩ := List.mem_map.1 this; exact ⟨p, hp, (congrArg Prod.fst e).symm, (congrArg Prod.snd e).symm⟩
  have hmem' : ∀ p ∈ S, ∃ r ∈ R, r.f0 = p.f1 ∧ r.f1 = lastOf p := fun p hp => by
   have : keyS p ∈ R.map keyR := by rw [hRk]; exact List.mem_map.2 ⟨p, hp, rfl⟩
   obtain ⟨r, hr, e⟩ := List.mem_map.1 this; exact ⟨r, hr, congrArg Prod.fst e, congrArg Prod.snd e⟩
  have hwR : R.Pairwise (fun a b => a.f1 < b.f0) := by
   have : (R.map keyR).Pairwise (fun a b => a.2 < b.1) := by
    rw [hRk, List.pairwise_map]; exact hw
   rw [List.pairwise_map] at this; exact this
  obtain ⟨r, r1, r2⟩ := of25_loop R [] [] (by simpa using hlen) (fun r hr => by
   obtain ⟨p, hp, e1, e2⟩ := hmem r (by simpa using hr); have := shape_b (h2 p (hS.subset hp)); omega) (by simpa using hwR) ⟨Nat.le_refl _, trivial, fun x => ⟨fun h => (Mem.nil h).elim, fun ⟨s, hs, _⟩ => by cases hs⟩, .inl rfl⟩
  rw [List.nil_append] at r1 r2; refine ⟨(r, 0), ?_, .inr ⟨hv, rfl, r2.2.1, (by have := r2.1; show r.length ≤ 1073741824; omega), fun x => ?_⟩⟩
  ·rw [hv] at hval; simp only [leadtrailref25_Of.f]; refine Ev.bind hval ?_; simp only [if_true]; have hR' : Ev (fun k => leadtrailref15_Rows.f k ss) R := by simp only [leadtrailref15_Rows.f]; exact hR
   exact Ev.bind hR' r1
  ·rw [r2.2.2.1 x, ← taken_perm hS x]; constructor
   ·rintro ⟨s, hs, e1, e2⟩; obtain ⟨p, hp, q1, q2⟩ := hmem s hs; exact ⟨p, hp, by omega, by omega⟩
   ·rintro ⟨p, hp, e1, e2⟩; obtain ⟨s, hs, q1, q2⟩ := hmem' p hp; exact ⟨s, hs, by omega, by omega⟩
end Go.Proofs.Ytkcklnmbeinfkaa.PBS
end
section
namespace Go.Proofs.Ytkcklnmbeinfkaa.PB4
open Go.RowKit Go.Proofs.YtkcklnmbeinfkaaW.PrintWords Go.Proofs.YtkcklnmbeinfkaaW.PrintLast Go.Proofs.YtkcklnmbeinfkaaW.PrintMore Go.Proofs.Ytkcklnmbeinfkaa.B Go.Proofs.LT
set_option linter.unusedVariables false
set_option linter.unusedSimpArgs false
theorem leadtrailref04_Same_loop (N : Nat) (hN : N ≤ 8796093022206) : ∀ (t pre : List S102), (pre ++ t).length ≤ N → Ev (fun k => leadtrailref04_Same.l0 k (pre ++ t) (pre ++ t) (pre.length : Int)) true
 | [], pre, _ => by
  refine evSucc ?_; simp only [leadtrailref04_Same.l0]; rw [List.append_nil]; simp only [if_neg (show ¬ ((pre.length : Nat) : Int) < ((pre.length : Nat) : Int) by omega)]; exact evNow _
 | r :: t, pre, hl => by
  have hlc := len_cons pre r t; have ih := leadtrailref04_Same_loop N hN t (pre ++ [r]) (by rw [app_snoc]; exact hl); rw [app_snoc, snoc_len] at ih; refine evSucc ?_; have c1 : (pre.length : Int) < ((pre ++ r :: t).length : Nat) := by rw [hlc]; omega
  have c2 : (0 : Int) ≤ pre.length := by omega
  have hw : Aside0 (wrap64 ((pre.length : Int) + 1) = (pre.length : Int) + 1) := Aside0.mk (w64 (by omega) (by simp at hl; omega)); simp only [leadtrailref04_Same.l0, if_pos c1, if_pos c2, rd102, hw.out, beq_self_eq_true, Bool.not_true, Bool.or_self, Bool.false_eq_true, if_false]; exact ih
theorem leadtrailref04_Same_self (a : List S102) (hl : a.length * 16 ≤ 140737488351232) : Ev (fun k => leadtrailref04_Same.f k a a) true := by
 have h := leadtrailref04_Same_loop a.length (by omega) a [] (by simp); simp only [leadtrailref04_Same.f, if_true]; simpa using h
end Go.Proofs.Ytkcklnmbeinfkaa.PB4
end
section
namespace Go.Proofs.Ytkcklnmbeinfkaa.PBS
open Go.RowKit Go.Proofs.YtkcklnmbeinfkaaW.PrintWords Go.Proofs.YtkcklnmbeinfkaaW.PrintLast Go.Proofs.YtkcklnmbeinfkaaW.PrintMore Go.Proofs.Ytkcklnmbeinfkaa.B Go.Proofs.LT Go.Proofs.Ytkcklnmbeinfkaa.PB3
set_option linter.unusedVariables false
set_option linter.unusedSimpArgs false
theorem fixed25 : Ev (fun k => leadtraillaw25_fixed.f k) true := Ev.of (k := 60) (fun k => leadtraillaw25_fixed.mono k) (by kernel_rfl)
def BothSpec (a b : List Sh) (p : Int → Prop) (r : List Ra × Int) : Prop := (¬ (vScheme a = true ∧ vScheme b = true) ∧ r = ([], 84)) ∨ (r.2 = 0 ∧ PB4.scalars_IsSet r.1 p ∧ vScheme a = true ∧ vScheme b = true)
theorem BothSpec.uniq {a b : List Sh} {p : Int → Prop} {r s : List Ra × Int} (h : BothSpec a b p r) (g : BothSpec a b p s) : r = s := by
 rcases h with ⟨h1, rfl⟩ | ⟨h1, h2, h3, h4⟩
 ·rcases g with ⟨_, rfl⟩ | ⟨_, _, g3, g4⟩
  ·rfl
  ·exact (h1 ⟨g3, g4⟩).elim
 ·rcases g with ⟨g1, _⟩ | ⟨g1, g2, _, _⟩
  ·exact (g1 ⟨h3, h4⟩).elim
  ·obtain ⟨r1, r2⟩ := r; obtain ⟨s1, s2⟩ := s; have e1 : r1 = s1 := PB4.scalars_IsSet.uniq h2 g2 (fun _ => Iff.rfl); have e2 : r2 = s2 := h1.trans g1.symm; rw [e1, e2]
theorem set_ok {l : List Ra} {p : Int → Prop} (h : PB4.scalars_IsSet l p) : PB4.setL 1073741823 (l.map PB4.L102) = l.map PB4.L102 := PB4.setL_of h.1
theorem both_is (a b : List Sh) (ha : InS a) (hb : InS b) : ∃ r, Ev (fun k => repert_both.f k a b) r ∧ BothSpec a b (fun x => Taken a x ∧ Taken b x) r := by
 obtain ⟨u, u1, u2⟩ := Of_is a ha; obtain ⟨v, v1, v2⟩ := Of_is b hb; simp only [repert_both.f]; rcases u2 with ⟨h, rfl⟩ | ⟨h, e, hs⟩
 ·refine ⟨([], 84), Ev.bind u1 ?_, .inl ⟨fun q => (by rw [h] at q; cases q.1), rfl⟩⟩; simp only [if_neg (show ¬ (84 : Int) = 0 by omega)]; exact evNow _
 ·rcases v2 with ⟨h', rfl⟩ | ⟨h', e', hs'⟩
  ·refine ⟨([], 84), Ev.bind u1 ?_, .inl ⟨fun q => (by rw [h'] at q; cases q.2), rfl⟩⟩; simp only [if_pos e]; refine Ev.bind v1 ?_; simp only [if_neg (show ¬ (84 : Int) = 0 by omega)]; exact evNow _
  ·obtain ⟨m, m1, m2⟩ := PB4.scalars_Meet_is u.1 v.1 (by have := hs.2.1; omega) (by have := hs'.2.1; omega); refine ⟨(m, 0), Ev.bind u1 ?_, .inr ⟨rfl, ⟨m2.1, m2.2.1, fun x => (m2.2.2 x).trans ?_⟩, h, h'⟩⟩
   ·simp only [if_pos e]; refine Ev.bind v1 ?_; simp only [if_pos e']; exact Ev.bind m1 (evNow _)
   ·rw [set_ok hs, set_ok hs']; have e1 := hs.2.2 x; have e2 := hs'.2.2 x; simp only [e1, e2]
theorem bothM_is (a b : List Sh) (ha : InS a) (hb : InS b) : ∃ r, Ev (fun k => repert_bothM.f k a b) r ∧ BothSpec a b (fun x => Taken a x ∧ ¬ Taken b x) r := by
 obtain ⟨u, u1, u2⟩ := Of_is a ha; obtain ⟨v, v1, v2⟩ := Of_is b hb; simp only [repert_bothM.f]; rcases u2 with ⟨h, rfl⟩ | ⟨h, e, hs⟩
 ·refine ⟨([], 84), Ev.bind u1 ?_, .inl ⟨fun q => (by rw [h] at q; cases q.1), rfl⟩⟩; simp only [if_neg (show ¬ (84 : Int) = 0 by omega)]; exact evNow _
 ·rcases v2 with ⟨h', rfl⟩ | ⟨h', e', hs'⟩
  ·refine ⟨([], 84), Ev.bind u1 ?_, .inl ⟨fun q => (by rw [h'] at q; cases q.2), rfl⟩⟩; simp only [if_pos e]; refine Ev.bind v1 ?_; simp only [if_neg (show ¬ (84 : Int) = 0 by omega)]; exact evNow _
  ·obtain ⟨m, m1, m2⟩ := PB4.scalars_Minus_is u.1 v.1 (by have := hs.2.1; omega) (by have := hs'.2.1; omega); refine ⟨(m, 0), Ev.bind u1 ?_, .inr ⟨rfl, ⟨m2.1, m2.2.1, fun x => (m2.2.2 x).trans ?_⟩, h, h'⟩⟩
   ·simp only [if_pos e]; refine Ev.bind v1 ?_; simp only [if_pos e']; exact Ev.bind m1 (evNow _)
   ·rw [set_ok hs, set_ok hs']; have e1 := hs.2.2 x; have e2 := hs'.2.2 x; simp only [e1, e2]
theorem Common25_is (a b : List Sh) (ha : InS a) (hb : InS b) : ∃ r, Ev (fun k => repert_Common.f k a b) r ∧ BothSpec a b (fun x => Taken a x ∧ Taken b x) r := by
 obtain ⟨r, r1, r2⟩ := both_is a b ha hb; exact ⟨r, by simp only [repert_Common.f]; exact Ev.bind r1 (evNow _), r2⟩
theorem Missing25_is (a b : List Sh) (ha : InS a) (hb : InS b) : ∃ r, Ev (fun k => repert_Missing.f k a b) r ∧ BothSpec a b (fun x => Taken a x ∧ ¬ Taken b x) r := by
 obtain ⟨r, r1, r2⟩ := bothM_is a b ha hb; exact ⟨r, by simp only [repert_Missing.f]; exact Ev.bind r1 (evNow _), r2⟩
theorem refMeet_is (a b : List Ra) (ha : a.length * 16 ≤ 140737488351232) (hb : b.length * 16 ≤ 140737488351232) : ∃ r, Ev (fun k => leadtrailref04_Meet.f k a b) r ∧ PB4.scalars_IsSet r (fun x => Mem (PB4.setL 1073741823 (a.map PB4.L102)) x ∧ Mem (PB4.setL 1073741823 (b.map PB4.L102)) x) := by
 obtain ⟨r, r1, r2⟩ := PB4.comb_is a b ha hb true false false; refine ⟨r, by simp only [leadtrailref04_Meet.f]; exact Ev.bind r1 (evNow _), r2.1, r2.2.1, fun x => (r2.2.2 x).trans ?_⟩; simp only [← memB_iff]; unfold PB4.want; cases memB (PB4.setL 1073741823 (a.map PB4.L102)) x <;> cases memB (PB4.setL 1073741823 (b.map PB4.L102)) x <;> simp
theorem refMinus_is (a b : List Ra) (ha : a.length * 16 ≤ 140737488351232) (hb : b.length * 16 ≤ 140737488351232) : ∃ r, Ev (fun k => leadtrailref04_Minus.f k a b) r ∧ PB4.scalars_IsSet r (fun x => Mem (PB4.setL 1073741823 (a.map PB4.L102)) x ∧ ¬ Mem (PB4.setL 1073741823 (b.map PB4.L102)) x) := by
 obtain ⟨r, r1, r2⟩ := PB4.comb_is a b ha hb false true false; refine ⟨r, by simp only [leadtrailref04_Minus.f]; exact Ev.bind r1 (evNow _), r2.1, r2.2.1, fun x => (r2.2.2 x).trans ?_⟩; simp only [← memB_iff]; unfold PB4.want; cases memB (PB4.setL 1073741823 (a.map PB4.L102)) x <;> cases memB (PB4.setL 1073741823 (b.map PB4.L102)) x <;> simp
theorem refCommon_is (a b : List Sh) (ha : InS a) (hb : InS b) : ∃ r, Ev (fun k => leadtrailref25_Common.f k a b) r ∧ BothSpec a b (fun x => Taken a x ∧ Taken b x) r := by
 obtain ⟨u, u1, u2⟩ := refOf25_is a ha; obtain ⟨v, v1, v2⟩ := refOf25_is b hb; simp only [leadtrailref25_Common.f]; rcases u2 with ⟨h, rfl⟩ | ⟨h, e, hs⟩
 ·refine ⟨([], 84), Ev.bind u1 (Ev.bind v1 ?_), .inl ⟨fun q => (by rw [h] at q; cases q.1), rfl⟩⟩; simp only [if_neg (show ¬ (84 : Int) = 0 by omega)]; exact evNow _
 ·rcases v2 with ⟨h', rfl⟩ | ⟨h', e', hs'⟩
  ·refine ⟨([], 84), Ev.bind u1 (Ev.bind v1 ?_), .inl ⟨fun q => (by rw [h'] at q; cases q.2), rfl⟩⟩; simp only [if_pos e, if_neg (show ¬ (84 : Int) = 0 by omega)]; exact evNow _
  ·obtain ⟨m, m1, m2⟩ := refMeet_is u.1 v.1 (by have := hs.2.1; omega) (by have := hs'.2.1; omega); refine ⟨(m, 0), Ev.bind u1 (Ev.bind v1 ?_), .inr ⟨rfl, ⟨m2.1, m2.2.1, fun x => (m2.2.2 x).trans ?_⟩, h, h'⟩⟩
   ·simp only [if_pos e, if_pos e']; exact Ev.bind m1 (evNow _)
   ·rw [set_ok hs, set_ok hs']; have e1 := hs.2.2 x; have e2 := hs'.2.2 x; simp only [e1, e2]
theorem refMissing_is (a b : List Sh) (ha : InS a) (hb : InS b) : ∃ r, Ev (fun k => leadtrailref25_Missing.f k a b) r ∧ BothSpec a b (fun x => Taken a x ∧ ¬ Taken b x) r := by
 obtain ⟨u, u1, u2⟩ := refOf25_is a ha; obtain ⟨v, v1, v2⟩ := refOf25_is b hb; simp only [leadtrailref25_Missing.f]; rcases u2 with ⟨h, rfl⟩ | ⟨h, e, hs⟩
 ·refine ⟨([], 84), Ev.bind u1 (Ev.bind v1 ?_), .inl ⟨fun q => (by rw [h] at q; cases q.1), rfl⟩⟩; simp only [if_neg (show ¬ (84 : Int) = 0 by omega)]; exact evNow _
 ·rcases v2 with ⟨h', rfl⟩ | ⟨h', e', hs'⟩
  ·refine ⟨([], 84), Ev.bind u1 (Ev.bind v1 ?_), .inl ⟨fun q => (by rw [h'] at q; cases q.2), rfl⟩⟩; simp only [if_pos e, if_neg (show ¬ (84 : Int) = 0 by omega)]; exact evNow _
  ·obtain ⟨m, m1, m2⟩ := refMinus_is u.1 v.1 (by have := hs.2.1; omega) (by have := hs'.2.1; omega); refine ⟨(m, 0), Ev.bind u1 (Ev.bind v1 ?_), .inr ⟨rfl, ⟨m2.1, m2.2.1, fun x => (m2.2.2 x).trans ?_⟩, h, h'⟩⟩
   ·simp only [if_pos e, if_pos e']; exact Ev.bind m1 (evNow _)
   ·rw [set_ok hs, set_ok hs']; have e1 := hs.2.2 x; have e2 := hs'.2.2 x; simp only [e1, e2]
theorem BothSpec.len {a b : List Sh} {p : Int → Prop} {r : List Ra × Int} (h : BothSpec a b p r) : r.1.length * 16 ≤ 140737488351232 := by
 rcases h with ⟨_, rfl⟩ | ⟨_, h, _⟩
 ·show 0 * 16 ≤ _; omega
 ·have := h.2.1; omega
theorem leadtraillaw25_RepertBoth_ev (a b : List Sh) (ha : InS a) (hb : InS b) : Ev (fun k => leadtraillaw25_RepertBoth.f k a b) true := by
 obtain ⟨c, c1, c2⟩ := Common25_is a b ha hb; obtain ⟨m, m1, m2⟩ := Missing25_is a b ha hb; obtain ⟨c', c1', c2'⟩ := refCommon_is a b ha hb; obtain ⟨m', m1', m2'⟩ := refMissing_is a b ha hb; obtain rfl := c2.uniq c2'; obtain rfl := m2.uniq m2'; simp only [leadtraillaw25_RepertBoth.f]; refine Ev.bind fixed25 ?_; simp only [if_true]; refine Ev.bind (CopyS_is a ha) (Ev.bind (CopyS_is b hb) (Ev.bind c1 (Ev.bind (CopyS_is a ha) (Ev.bind (CopyS_is b hb) (Ev.bind m1 (Ev.bind c1' (Ev.bind m1' ?_))))))); refine Ev.bind (PB4.leadtrailref04_Same_self _ c2.len) ?_; simp only [if_true]; refine Ev.bind (PB4.leadtrailref04_Same_self _ m2.len) ?_; simp only [if_true, beq_self_eq_true]; exact evNow _
end Go.Proofs.Ytkcklnmbeinfkaa.PBS
namespace Go.Proofs.Ytkcklnmbeinfkaa.Pure
open Go.Proofs.Ytkcklnmbeinfkaa.B Go.Proofs.YtkcklnmbeinfkaaW.PrintWords
theorem RepertBoth : ∀ (l0_0 : List S50) (l1_0 : List S50), (l0_0.length * 32 ≤ 140737488351232 ∧ ∀ x ∈ l0_0, ((x.f0.length * 24 ≤ 140737488351232 ∧ ∀ y ∈ x.f0, (y.length * 16 ≤ 140737488351232 ∧ ∀ x ∈ y, ((Lit.int .i64 x.f0).wf = true ∧ (Lit.int .i64 x.f1).wf = true))) ∧ (Lit.int .i64 x.f1).wf = true)) → (l1_0.length * 32 ≤ 140737488351232 ∧ ∀ x ∈ l1_0, ((x.f0.length * 24 ≤ 140737488351232 ∧ ∀ y ∈ x.f0, (y.length * 16 ≤ 140737488351232 ∧ ∀ x ∈ y, ((Lit.int .i64 x.f0).wf = true ∧ (Lit.int .i64 x.f1).wf = true))) ∧ (Lit.int .i64 x.f1).wf = true)) → ∃ k, leadtraillaw25_RepertBoth.f k l0_0 l1_0 = some true :=
 fun l0 l1 h g => Ev.rounds (PBS.leadtraillaw25_RepertBoth_ev l0 l1 ⟨h.1, fun p hp => ⟨(h.2 p hp).1.1, fun x hx => ((h.2 p hp).1.2 x hx).1⟩⟩ ⟨g.1, fun p hp => ⟨(g.2 p hp).1.1, fun x hx => ((g.2 p hp).1.2 x hx).1⟩⟩)
end Go.Proofs.Ytkcklnmbeinfkaa.Pure
end
