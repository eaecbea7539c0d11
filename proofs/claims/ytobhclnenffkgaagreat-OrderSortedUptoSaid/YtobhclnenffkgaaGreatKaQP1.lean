/- Words and laws of this claim, of 6 texts. -/
import Derived.Test.YtobhclnenffkgaaGreatKaBx0
import Derived.Test.YtobhclnenffkgaaGreatKaBx8
import Derived.Test.YtobhclnenffkgaaGreatKaQP0
import Derived.Test.YtobhclnenffkgaaGreatKaBx12
import Derived.Test.YtobhclnenffkgaaGreatKaBx13
import Derived.Test.YtobhclnenffkgaaGreatKaBx9
import Derived.Test.YtobhclnenffkgaaGreatKaBx11
import Derived.Test.YtobhclnenffkgaaGreatKaBx14
import Derived.Test.YtobhclnenffkgaaGreatKaBx15
import Derived.Test.YtobhclnenffkgaaGreatKaBx16
import Derived.Test.YtobhclnenffkgaaGreatKaBx17
import Derived.Test.YtobhclnenffkgaaGreatKaQW1
import Derived.Test.YtobhclnenffkgaaGreatKaBx6
import Derived.Test.YtobhclnenffkgaaGreatKaBx7
import Derived.Test.YtobhclnenffkgaaGreatKaBx18
import Derived.KernelRfl
import Derived.Test.YtobhclnenffkgaaGreatKaBx10
import Derived.Test.YtobhclnenffkgaaGreatKaBx19
import Derived.Test.YtobhclnenffkgaaGreatKaBx20
section
namespace Go.Proofs.YtobhclnenffkgaaGreat.PBS
open Go.RowKit Go.Proofs.YtobhclnenffkgaaGreatW.PrintWords Go.Proofs.YtobhclnenffkgaaGreatW.PrintLast Go.Proofs.YtobhclnenffkgaaGreatW.PrintMore Go.Proofs.YtobhclnenffkgaaGreat.B Go.Proofs.LT Go.Proofs.YtobhclnenffkgaaGreat.PB3
set_option linter.unusedVariables false
set_option linter.unusedSimpArgs false
noncomputable def cntS (ps : List (List Sp)) (a : Int) : Int := if vShape ps a = true then cnt (sets ps) else 0
noncomputable def okB (ps : List (List Sp)) (a k : Int) : Bool := decide (0 ≤ k ∧ k < cntS ps a)
noncomputable def unS (ps : List (List Sp)) (a k : Int) : List Int := if okB ps a k = true then unr (sets ps) k else []
theorem okB_of {ps : List (List Sp)} {a k : Int} (h : okB ps a k = true) : vShape ps a = true ∧ 0 ≤ k ∧ k < cnt (sets ps) := by
 have h := of_decide_eq_true h; by_cases hv : vShape ps a = true
 ·have e : cntS ps a = cnt (sets ps) := if_pos hv; exact ⟨hv, h.1, by omega⟩
 ·have e : cntS ps a = 0 := if_neg hv; omega
theorem Unrank_is (ps : List (List Sp)) (a k : Int) (hI : In2 ps) : Ev (fun n => shape_Unrank.f n ps a k) (unS ps a k, okB ps a k) := by
 cases h : okB ps a k
 ·have := Unrank_no ps a k hI (of_decide_eq_false h); simpa [unS, h] using this
 ·obtain ⟨hv, h0, h1⟩ := okB_of h; have := Unrank_yes hI hv h0 h1; simpa [unS, h] using this
theorem unS_range (ps : List (List Sp)) (a k : Int) : ∀ x ∈ unS ps a k, 0 ≤ x ∧ x ≤ 255 := by
 cases h : okB ps a k
 ·intro x hx; simp [unS, h] at hx
 ·obtain ⟨hv, h0, h1⟩ := okB_of h; simp only [unS, h, if_true]; exact unr_range (vShape_good hv).2.2.2.1 h0 h1
end Go.Proofs.YtobhclnenffkgaaGreat.PBS
namespace Go.Proofs.YtobhclnenffkgaaGreat.Pure
open Go.Proofs.YtobhclnenffkgaaGreat.B Go.Proofs.YtobhclnenffkgaaGreatW.PrintWords
end Go.Proofs.YtobhclnenffkgaaGreat.Pure
end
section
namespace Go.Proofs.YtobhclnenffkgaaGreat.PBS
open Go.RowKit Go.Proofs.YtobhclnenffkgaaGreatW.PrintWords Go.Proofs.YtobhclnenffkgaaGreatW.PrintLast Go.Proofs.YtobhclnenffkgaaGreatW.PrintMore Go.Proofs.YtobhclnenffkgaaGreat.B Go.Proofs.LT Go.Proofs.YtobhclnenffkgaaGreat.PB3
set_option linter.unusedVariables false
set_option linter.unusedSimpArgs false
theorem div_mod_mul {k n c : Int} (hc : 0 < c) (hn : 0 < n) : k / (n * c) = k / c / n ∧ k % (n * c) = (k / c % n) * c + k % c := by
 have h1 := Int.emod_nonneg k (show c ≠ 0 by omega); have h2 := Int.emod_lt_of_pos k hc; have h3 := Int.emod_nonneg (k / c) (show n ≠ 0 by omega); have h4 := Int.emod_lt_of_pos (k / c) hn; have e1 := Int.ediv_mul_add_emod k c; have e2 := Int.ediv_mul_add_emod (k / c) n; have m0 := Int.mul_nonneg h3 (show 0 ≤ c by omega); have m1 := Int.mul_le_mul_of_nonneg_right (show k / c % n + 1 ≤ n by omega) (show 0 ≤ c by omega); rw [Int.add_mul, Int.one_mul] at m1; refine (Int.ediv_emod_unique (Int.mul_pos hn hc)).2 ⟨?_, by omega, by omega⟩; have e3 : n * c * (k / c / n) = k / c / n * n * c := by rw [Int.mul_comm, Int.mul_assoc]
 rw [e3]; have e4 : k / c * c = (k / c / n * n + k / c % n) * c := by rw [e2]
 rw [Int.add_mul] at e4; omega
theorem refSelect_at (p : List Sp) (d : Int) (hi : In1 p) (hk : okPart p = true) (h0 : 0 ≤ d) (h1 : d < size (runs p)) : Ev (fun k => leadtrailref03_Select.f k p d) (selV (runs p) d, true) := by
 have hs := okPart_good hk; obtain ⟨r, r1, r2⟩ := refSelect_is p d hi; rw [show p.map L69 = runs p from rfl, setL_of hs.1] at r2; have hS := selV_spec hs.1 h0 h1; obtain rfl := Sel.uniq hs.1 r2 (.inl ⟨_, hS.1, hS.2, rfl⟩); exact r1
theorem refUnrank_loop (ps : List (List Sp)) (a K : Int) (hI : In2 ps) (hk : ps.all okPart = true) (hl : ps.length ≤ 8) (hc : cnt (sets ps) ≤ 1073741824) (k0 : 0 ≤ K) (k1 : K < cnt (sets ps)) : ∀ (i : Nat), i ≤ ps.length →
 Ev (fun k => leadtrailref09_Unrank.l0 k (K / cnt (sets (ps.drop i))) ((i : Int) - 1) (List.replicate i 0 ++ unr (sets (ps.drop i)) (K % cnt (sets (ps.drop i)))) ps a) (unr (sets ps) K, true)
 | 0, _ => by
  refine evSucc ?_; rw [List.drop_zero, Int.emod_eq_of_lt k0 k1]; simp only [leadtrailref09_Unrank.l0, if_neg (show ¬ (((0 : Nat) : Int) - 1 ≥ 0) by omega)]; simpa using evNow (unr (sets ps) K, true)
 | i + 1, hi => by
  have hil : i < ps.length := by omega
  have ih := refUnrank_loop ps a K hI hk hl hc k0 k1 i (by omega); have hg := good_of hk; have hp := good_part hk hil; have hs := okPart_good hp; have hz := size_256 hs.1; have hpos : 1 ≤ cnt (sets (ps.drop (i + 1))) := by have := cnt_pos (hg.drop (i + 1)); rwa [sets_drop] at this
  have hcs := cnt_step ps i hil; obtain ⟨e1, e2⟩ := div_mod_mul (k := K) (show 0 < cnt (sets (ps.drop (i + 1))) by omega) (show 0 < size (runs ps[i]) by omega); rw [← hcs] at e1 e2; have q0 : 0 ≤ K / cnt (sets (ps.drop (i + 1))) := Int.ediv_nonneg k0 (by omega); have q1 : K / cnt (sets (ps.drop (i + 1))) ≤ K := Int.ediv_le_self _ k0; have d0 := Int.emod_nonneg (K / cnt (sets (ps.drop (i + 1)))) (show size (runs ps[i]) ≠ 0 by omega); have d1 := Int.emod_lt_of_pos (K / cnt (sets (ps.drop (i + 1)))) (show 0 < size (runs ps[i]) by omega); have r0 := Int.emod_nonneg K (show cnt (sets (ps.drop (i + 1))) ≠ 0 by omega); have r1 := Int.emod_lt_of_pos K (show 0 < cnt (sets (ps.drop (i + 1))) by omega); have hr := hs.1.range (selV_spec hs.1 d0 d1).1; have t1 : Int.tdiv (K / cnt (sets (ps.drop (i + 1)))) (size (runs ps[i])) = K / cnt (sets (ps.drop i)) := by rw [Int.tdiv_eq_ediv_of_nonneg q0, e1]
  have t2 : Int.tmod (K / cnt (sets (ps.drop (i + 1)))) (size (runs ps[i])) = K / cnt (sets (ps.drop (i + 1))) % size (runs ps[i]) := Int.tmod_eq_emod_of_nonneg q0; have q3 : 0 ≤ K / cnt (sets (ps.drop i)) := by rw [e1]; exact Int.ediv_nonneg q0 (by omega)
  have q4 : K / cnt (sets (ps.drop i)) ≤ K := by rw [e1]; exact Int.le_trans (Int.ediv_le_self _ q0) q1
  have hw : Aside0 (wrap64 (K / cnt (sets (ps.drop i))) = K / cnt (sets (ps.drop i))) := Aside0.mk (w64 (by omega) (by omega)); have hw2 : Aside0 (wrap64 ((i : Int) - 1) = (i : Int) - 1) := Aside0.mk (w64 (by omega) (by omega)); have hm : selV (runs ps[i]) (K / cnt (sets (ps.drop (i + 1))) % size (runs ps[i])) % 256 = selV (runs ps[i]) (K / cnt (sets (ps.drop (i + 1))) % size (runs ps[i])) := Int.emod_eq_of_lt hr.1 (by omega); have hlen : ((List.replicate (i + 1) (0 : Int) ++ unr (sets (ps.drop (i + 1))) (K % cnt (sets (ps.drop (i + 1))))).length : Nat) = ps.length := by
   rw [List.length_append, List.length_replicate, unr_len, sets_len, List.length_drop]; omega
  have eu : unr (sets (ps.drop i)) (K % cnt (sets (ps.drop i))) = selV (runs ps[i]) (K / cnt (sets (ps.drop (i + 1))) % size (runs ps[i])) :: unr (sets (ps.drop (i + 1))) (K % cnt (sets (ps.drop (i + 1)))) := by
   have e3 : (K % cnt (sets (ps.drop i))) / cnt (sets (ps.drop (i + 1))) = K / cnt (sets (ps.drop (i + 1))) % size (runs ps[i]) := by
    rw [e2, Int.add_comm, Int.add_mul_ediv_right _ _ (by omega), Int.ediv_eq_zero_of_lt r0 r1]; omega
   have e4 : (K % cnt (sets (ps.drop i))) % cnt (sets (ps.drop (i + 1))) = K % cnt (sets (ps.drop (i + 1))) := by
    rw [e2, Int.add_comm, Int.add_mul_emod_self_right, Int.emod_eq_of_lt r0 r1]
   rw [← e3, ← e4]; rw [List.drop_eq_getElem_cons hil]; exact unr_cons _ _ _
  refine evSucc ?_; rw [show (((i + 1 : Nat) : Int) - 1) = (i : Int) by omega]; simp only [leadtrailref09_Unrank.l0, if_pos (show (i : Int) ≥ 0 by omega), if_pos (show (0 : Int) ≤ (i : Int) by omega), if_pos (show (i : Int) < ((ps.length : Nat) : Int) by omega), rdL_at ps i hil]; refine Ev.bind (refSize_at _ (hI.2 _ (List.getElem_mem _)) hp) ?_; simp only [if_neg (show ¬ size (runs ps[i]) = 0 by omega)]; simp only [t1, t2]; refine Ev.bind (refSelect_at _ _ (hI.2 _ (List.getElem_mem _)) hp d0 d1) ?_; simp only [hlen, if_pos (show (i : Int) < ((ps.length : Nat) : Int) by omega), hw.out, hw2.out, hm, Int.toNat_natCast, set_mid]; rw [← eu]; exact ih
theorem refUnrank_is (ps : List (List Sp)) (a k : Int) (hI : In2 ps) : Ev (fun n => leadtrailref09_Unrank.f n ps a k) (unS ps a k, okB ps a k) := by
 have jT : Ev (fun n => leadtrailref09_Unrank.j0 n k true ps a) ([], false) := by
  refine evSucc ?_; simp only [leadtrailref09_Unrank.j0, if_true]; exact evNow _
 have no : okB ps a k = false → (unS ps a k, okB ps a k) = ([], false) := fun h => by rw [h]; unfold unS; rw [h]; rfl
 simp only [leadtrailref09_Unrank.f]; by_cases c : k < 0
 ·simp only [if_pos c]; rw [no (decide_eq_false (by omega))]; exact jT
 ·simp only [if_neg c]; refine Ev.bind (show Ev _ (cntS ps a) from refCount_is ps a hI) ?_; cases h : okB ps a k
  ·have := of_decide_eq_false h; rw [decide_eq_true (show k ≥ cntS ps a by omega)]; have e := no h; rw [h] at e; rw [e]; exact jT
  ·obtain ⟨hv, h0, h1⟩ := okB_of h; have h2 : 0 ≤ k ∧ k < cntS ps a := of_decide_eq_true h; obtain ⟨⟨l1, l2⟩, ⟨a1, a2⟩, hk, hg, hc⟩ := vShape_good hv; rw [decide_eq_false (show ¬ k ≥ cntS ps a by omega)]; refine evSucc ?_; have := refUnrank_loop ps a k hI hk l2 (by omega) h0 h1 ps.length (Nat.le_refl _); rw [List.drop_length, show cnt (sets []) = 1 from cnt_nil, Int.ediv_one, show unr (sets []) (k % 1) = [] from unr_nil _, List.append_nil] at this; have hw2 : Aside0 (wrap64 ((ps.length : Int) - 1) = (ps.length : Int) - 1) := Aside0.mk (w64 (by omega) (by omega)); simp only [leadtrailref09_Unrank.j0, Bool.false_eq_true, if_false, if_pos (show (0 : Int) ≤ ((ps.length : Nat) : Int) by omega), Int.toNat_natCast, if_pos (show ps.length ≤ 281474976710656 by omega), Option.bind_some, List.length_replicate, hw2.out]; unfold unS; simp only [h, if_true]; exact this
end Go.Proofs.YtobhclnenffkgaaGreat.PBS
end
section
namespace Go.Proofs.YtobhclnenffkgaaGreat.PBS
open Go.RowKit Go.Proofs.YtobhclnenffkgaaGreatW.PrintWords Go.Proofs.YtobhclnenffkgaaGreatW.PrintLast Go.Proofs.YtobhclnenffkgaaGreatW.PrintMore Go.Proofs.YtobhclnenffkgaaGreat.B Go.Proofs.LT Go.Proofs.YtobhclnenffkgaaGreat.PB3
set_option linter.unusedVariables false
set_option linter.unusedSimpArgs false
def C (p : Sh) : Cs := (sets p.f0, p.f1)
def cs (ss : List Sh) : List Cs := ss.map C
theorem last_C (p : Sh) : lastC (C p) = lastOf p := rfl
theorem vS_facts : ∀ (t pre : List Sh), vS pre t = true → (∀ p ∈ t, vShape p.f0 p.f1 = true) ∧ (∀ q ∈ pre, ∀ p ∈ t, meetsB p q = false) ∧ Apart (cs t)
 | [], _, _ => ⟨fun _ h => (by cases h), fun _ _ _ h => (by cases h), trivial⟩
 | p :: t, pre, h => by
  have h' : (vShape p.f0 p.f1 && (!(pre.any (meetsB p)) && vS (pre ++ [p]) t)) = true := h; simp only [Bool.and_eq_true, Bool.not_eq_true'] at h'; obtain ⟨h1, h2, h3⟩ := h'; obtain ⟨k1, k2, k3⟩ := vS_facts t (pre ++ [p]) h3; refine ⟨fun q hq => ?_, fun q hq r hr => ?_, fun r hr => ?_, k3⟩
  ·rcases List.mem_cons.1 hq with rfl | hq
   ·exact h1
   ·exact k1 q hq
  ·rcases List.mem_cons.1 hr with rfl | hr
   ·cases e : meetsB r q
    ·rfl
    ·rw [List.any_eq_true.2 ⟨q, hq, e⟩] at h2; cases h2
   ·exact k2 q (List.mem_append_left _ hq) r hr
  ·obtain ⟨q, hq, rfl⟩ := List.mem_map.1 hr; have e := k2 p (List.mem_append_right _ (List.mem_singleton.2 rfl)) q hq; simp only [meetsB, Bool.and_eq_false_iff, decide_eq_false_iff_not] at e; rw [last_C, last_C]; show lastOf p < q.f1 ∨ lastOf q < p.f1; omega
theorem vScheme_facts {ss : List Sh} (h : vScheme ss = true) : ss.length ≤ 32 ∧ (∀ p ∈ ss, vShape p.f0 p.f1 = true) ∧ Apart (cs ss) ∧ AllGood (cs ss) := by
 simp only [vScheme, Bool.and_eq_true, decide_eq_true_eq] at h; obtain ⟨k1, k2, k3⟩ := vS_facts ss [] h.2; refine ⟨h.1, k1, k3, fun p hp => ?_⟩; obtain ⟨q, hq, rfl⟩ := List.mem_map.1 hp; exact (vShape_good (k1 q hq)).2.2.2.1
theorem rdSh_at (ss : List Sh) (i : Nat) (h : i < ss.length) : rd_T48 ss (i : Int) = ss[i] := by simp [rd_T48, List.getD, h]
theorem succ_wrap (i : Nat) (h : i ≤ 4611686018427387904) : Aside0 (wrap64 ((i : Int) + 1) = ((i + 1 : Nat) : Int)) := Aside0.mk (by rw [w64 (by omega) (by omega)]; simp)
theorem refMeet_loop (ss : List Sh) (hI : InS ss) (i : Nat) (hi : i < ss.length) (hs : ss.length ≤ 32) (hv : ∀ p ∈ ss.take (i + 1), vShape p.f0 p.f1 = true) : ∀ (n j : Nat), j + n = i → ((ss.take j).any (meetsB ss[i]) = false) →
 Ev (fun k => leadtrailref08_meet.l0 k ss (i : Int) (j : Int)) ((ss.take i).any (meetsB ss[i]))
 | 0, j, hj, hno => by
  refine evSucc ?_; obtain rfl : j = i := by omega
  simp only [leadtrailref08_meet.l0, if_neg (show ¬ (j : Int) < (j : Int) by omega)]; rw [hno]; exact evNow _
 | n + 1, j, hj, hno => by
  have hjl : j < ss.length := by omega
  have vi := vShape_good (hv ss[i] (by rw [List.take_succ_eq_append_getElem hi]; exact List.mem_append_right _ (List.mem_singleton.2 rfl))); have vj := vShape_good (hv ss[j] (by
   have : (ss.take (i + 1))[j]'(by simp; omega) = ss[j] := List.getElem_take ..; rw [← this]; exact List.getElem_mem _))
  have pi := cnt_pos vi.2.2.2.1; have pj := cnt_pos vj.2.2.2.1; have ci := refCount8_is ss[i].f0 ss[i].f1 (hI.2 _ (List.getElem_mem _)) vi.2.2.1 vi.1.2; have cj := refCount8_is ss[j].f0 ss[j].f1 (hI.2 _ (List.getElem_mem _)) vj.2.2.1 vj.1.2; rw [show min (cnt (sets ss[i].f0)) 1073741825 = cnt (sets ss[i].f0) by omega] at ci; rw [show min (cnt (sets ss[j].f0)) 1073741825 = cnt (sets ss[j].f0) by omega] at cj; have hw := succ_wrap j (by omega); have wi : Aside0 (wrap64 (wrap64 (ss[i].f1 + cnt (sets ss[i].f0)) - 1) = lastOf ss[i]) := Aside0.mk (by rw [w64 (x := ss[i].f1 + cnt (sets ss[i].f0)) (by omega) (by omega), w64 (by omega) (by omega)]; rfl); have wj : Aside0 (wrap64 (wrap64 (ss[j].f1 + cnt (sets ss[j].f0)) - 1) = lastOf ss[j]) := Aside0.mk (by rw [w64 (x := ss[j].f1 + cnt (sets ss[j].f0)) (by omega) (by omega), w64 (by omega) (by omega)]; rfl); have yes : meetsB ss[i] ss[j] = true → (ss.take i).any (meetsB ss[i]) = true := fun h => by
   refine List.any_eq_true.2 ⟨ss[j], ?_, h⟩; have : (ss.take i)[j]'(by simp; omega) = ss[j] := List.getElem_take ..; rw [← this]; exact List.getElem_mem _
  have next : meetsB ss[i] ss[j] = false → Ev (fun k => leadtrailref08_meet.l0 k ss (i : Int) (wrap64 ((j : Int) + 1))) ((ss.take i).any (meetsB ss[i])) := fun h => by
   rw [hw.out]; refine refMeet_loop ss hI i hi hs hv n (j + 1) (by omega) ?_; rw [List.take_succ_eq_append_getElem hjl, List.any_append, hno]; simp [h]
  refine evSucc ?_; simp only [leadtrailref08_meet.l0, if_pos (show (j : Int) < (i : Int) by omega), if_pos (show (0 : Int) ≤ (i : Int) by omega), if_pos (show (i : Int) < (ss.length : Int) by omega), if_pos (show (0 : Int) ≤ (j : Int) by omega), if_pos (show (j : Int) < (ss.length : Int) by omega), rdSh_at ss i hi, rdSh_at ss j hjl]; refine Ev.bind cj ?_; simp only [wj.out]; by_cases c1 : ss[i].f1 ≤ lastOf ss[j]
  ·simp only [if_pos c1]; refine Ev.bind ci ?_; simp only [wi.out]; by_cases c2 : ss[j].f1 ≤ lastOf ss[i]
   ·simp only [if_pos c2]; rw [yes (by simp only [meetsB, decide_eq_true c1, decide_eq_true c2]; rfl)]; exact evNow _
   ·simp only [if_neg c2]; exact next (by simp only [meetsB, decide_eq_false c2, Bool.and_false])
  ·simp only [if_neg c1]; exact next (by simp only [meetsB, decide_eq_false c1, Bool.false_and])
theorem refValid_loop8 (ss : List Sh) (hI : InS ss) (hs : ss.length ≤ 32) : ∀ (n i : Nat), i + n = ss.length → (∀ p ∈ ss.take i, vShape p.f0 p.f1 = true) →
 Ev (fun k => leadtrailref08_Valid.l0 k (i : Int) ss) (vS (ss.take i) (ss.drop i))
 | 0, i, hi, hv => by
  refine evSucc ?_; simp only [leadtrailref08_Valid.l0, if_neg (show ¬ (i : Int) < (ss.length : Int) by omega)]; rw [List.drop_of_length_le (by omega)]; exact evNow _
 | n + 1, i, hi, hv => by
  have hil : i < ss.length := by omega
  have hw := succ_wrap i (by omega); have e : vS (ss.take i) (ss.drop i) = (vShape ss[i].f0 ss[i].f1 && (!((ss.take i).any (meetsB ss[i])) && vS (ss.take (i + 1)) (ss.drop (i + 1)))) := by
   rw [List.drop_eq_getElem_cons hil, List.take_succ_eq_append_getElem hil]; rfl
  rw [e]; refine evSucc ?_; simp only [leadtrailref08_Valid.l0, if_pos (show (i : Int) < (ss.length : Int) by omega), if_pos (show (0 : Int) ≤ (i : Int) by omega), rdSh_at ss i hil]; refine Ev.bind (refVShape_is _ _ (hI.2 _ (List.getElem_mem _))) ?_; cases hp : vShape ss[i].f0 ss[i].f1
  ·simp only [Bool.false_eq_true, if_false, Bool.false_and]; exact evNow _
  ·simp only [if_true, Bool.true_and]; have hv' : ∀ p ∈ ss.take (i + 1), vShape p.f0 p.f1 = true := fun p hq => by
    rw [List.take_succ_eq_append_getElem hil] at hq; rcases List.mem_append.1 hq with h | h
    ·exact hv p h
    ·rw [List.mem_singleton.1 h]; exact hp
   have hm := refMeet_loop ss hI i hil hs hv' i 0 (by omega) (by simp); refine Ev.bind (show Ev (fun k => leadtrailref08_meet.f k ss (i : Int)) _ from hm) ?_; cases hq : (ss.take i).any (meetsB ss[i])
   ·simp only [Bool.false_eq_true, if_false, Bool.not_false, Bool.true_and, hw.out]; exact refValid_loop8 ss hI hs n (i + 1) (by omega) hv'
   ·simp only [if_true, Bool.not_true, Bool.false_and]; exact evNow _
theorem refValid8_is (ss : List Sh) (hI : InS ss) : Ev (fun k => leadtrailref08_Valid.f k ss) (vScheme ss) := by
 simp only [leadtrailref08_Valid.f]; by_cases c : (ss.length : Int) > 32
 ·simp only [if_pos c]; rw [show vScheme ss = false by simp only [vScheme, decide_eq_false (show ¬ ss.length ≤ 32 by omega), Bool.false_and]]; exact evNow _
 ·simp only [if_neg c]; rw [show vScheme ss = vS [] ss by simp only [vScheme, decide_eq_true (show ss.length ≤ 32 by omega), Bool.true_and]]; simpa using refValid_loop8 ss hI (by omega) ss.length 0 (by omega) (by simp)
theorem copyS_loop (ss : List Sh) (hI : InS ss) : ∀ (n i : Nat), i + n = ss.length → Ev (fun k => leadtrailref08_Copy.l0 k (i : Int) ss (ss.take i)) ss
 | 0, i, hi => by
  refine evSucc ?_; simp only [leadtrailref08_Copy.l0, if_neg (show ¬ (i : Int) < (ss.length : Int) by omega)]; rw [List.take_of_length_le (by omega)]; exact evNow _
 | n + 1, i, hi => by
  have hil : i < ss.length := by omega
  have h2 := hI.1; have hw := succ_wrap i (by omega); have ih := copyS_loop ss hI n (i + 1) (by omega); rw [List.take_succ_eq_append_getElem hil] at ih; refine evSucc ?_; simp only [leadtrailref08_Copy.l0, if_pos (show (i : Int) < (ss.length : Int) by omega), if_pos (show (0 : Int) ≤ (i : Int) by omega), rdSh_at ss i hil]; refine Ev.bind (Copy_is _ _ (hI.2 _ (List.getElem_mem _))) ?_; simp only [if_pos (show (ss.take i).length < 4398046511104 by rw [List.length_take]; omega), hw.out]; exact ih
theorem CopyS_is (ss : List Sh) (hI : InS ss) : Ev (fun k => leadtrailref08_Copy.f k ss) ss := by
 have := copyS_loop ss hI ss.length 0 (by omega); rw [List.take_zero] at this; exact this
theorem okB_hit {ps : List (List Sp)} {a u : Int} (hv : vShape ps a = true) : okB ps a (u - a) = hitC u (sets ps, a) := by
 unfold okB hitC cntS; rw [if_pos hv, Bool.eq_iff_iff, decide_eq_true_iff, Bool.and_eq_true, decide_eq_true_iff, decide_eq_true_iff]; show 0 ≤ u - a ∧ _ ↔ a ≤ u ∧ _; constructor <;> rintro ⟨h1, h2⟩ <;> exact ⟨by omega, h2⟩
theorem encC_cons (p : Cs) (t : List Cs) (u : Int) : encC (p :: t) u = if hitC u p = true then some (unr p.1 (u - p.2)) else encC t u := rfl
theorem cs_drop (ss : List Sh) (i : Nat) (h : i < ss.length) : cs (ss.drop i) = C ss[i] :: cs (ss.drop (i + 1)) := by rw [List.drop_eq_getElem_cons h]; rfl
theorem wf_range {x : Int} (h : (Lit.int .i64 x).wf = true) : -9223372036854775808 ≤ x ∧ x ≤ 9223372036854775807 := by
 simp [Lit.wf] at h; exact ⟨h.1, h.2⟩
theorem encode_loop (ss : List Sh) (u : Int) (hI : InS ss) (hs : ss.length ≤ 32) (hv : ∀ p ∈ ss, vShape p.f0 p.f1 = true) (hu : (Lit.int .i64 u).wf = true) : ∀ (n i : Nat), i + n = ss.length →
 Ev (fun k => code_encode.l0 k u ss (ss.length : Int) (i : Int)) ((encC (cs (ss.drop i)) u).getD [])
 | 0, i, hi => by
  refine evSucc ?_; simp only [code_encode.l0, if_neg (show ¬ (i : Int) < (ss.length : Int) by omega)]; rw [List.drop_of_length_le (by omega)]; exact evNow _
 | n + 1, i, hi => by
  have hil : i < ss.length := by omega
  have hw := succ_wrap i (by omega); have hur := wf_range hu; have vi := hv _ (List.getElem_mem hil); have vg := vShape_good vi; have ih := encode_loop ss u hI hs hv hu n (i + 1) (by omega); rw [cs_drop ss i hil, encC_cons]; refine evSucc ?_; simp only [code_encode.l0, if_pos (show (i : Int) < (ss.length : Int) by omega), if_pos (show (0 : Int) ≤ (i : Int) by omega), rdSh_at ss i hil, hw.out]; by_cases c : u < ss[i].f1
  ·simp only [if_pos c, if_neg (show ¬ hitC u (C ss[i]) = true by rw [hitC_iff]; show ¬ (ss[i].f1 ≤ u ∧ _); omega)]; exact ih
  ·have w1 : Aside0 (wrap64 (u - ss[i].f1) = u - ss[i].f1) := Aside0.mk (w64 (by omega) (by omega)); simp only [if_neg c, w1.out]; refine Ev.bind (Unrank_is _ _ _ (hI.2 _ (List.getElem_mem _))) ?_; have e := okB_hit (u := u) vi; rw [show (sets ss[i].f0, ss[i].f1) = C ss[i] from rfl] at e; simp only [unS, e]; cases h : hitC u (C ss[i])
   ·simp only [Bool.false_eq_true, if_false]; exact ih
   ·have hlen : ¬ (unr (sets ss[i].f0) (u - ss[i].f1)).length = 0 := by rw [unr_len, sets_len]; have := vg.1; omega
    simp only [if_true, if_neg hlen]; exact evNow _
theorem encode_is (ss : List Sh) (u : Int) (hI : InS ss) (h : vScheme ss = true) (hu : (Lit.int .i64 u).wf = true) : Ev (fun k => code_encode.f k ss u) ((encC (cs ss) u).getD []) := by
 obtain ⟨h1, h2, _⟩ := vScheme_facts h; have := encode_loop ss u hI h1 h2 hu ss.length 0 (by omega); rw [List.drop_zero] at this; exact this
theorem find_loop (ss : List Sh) (u : Int) (hI : InS ss) (hs : ss.length ≤ 32) (hv : ∀ p ∈ ss, vShape p.f0 p.f1 = true) : ∀ (n i : Nat), i + n = ss.length →
 ∃ r, Ev (fun k => leadtrailref10_Find.l0 k u (i : Int) ss) r ∧ ((r = -1 ∧ encC (cs (ss.drop i)) u = none) ∨ ∃ (j : Nat) (hj : j < ss.length), r = (j : Int) ∧ hitC u (C ss[j]) = true ∧ encC (cs (ss.drop i)) u = some (unr (sets ss[j].f0) (u - ss[j].f1)))
 | 0, i, hi => by
  refine ⟨-1, evSucc ?_, .inl ⟨rfl, by rw [List.drop_of_length_le (by omega)]; rfl⟩⟩; simp only [leadtrailref10_Find.l0, if_neg (show ¬ (i : Int) < (ss.length : Int) by omega)]; exact evNow _
 | n + 1, i, hi => by
  have hil : i < ss.length := by omega
  have hw := succ_wrap i (by omega); have vi := hv _ (List.getElem_mem hil); have vg := vShape_good vi; have pi := cnt_pos vg.2.2.2.1; have ci := refCount8_is ss[i].f0 ss[i].f1 (hI.2 _ (List.getElem_mem _)) vg.2.2.1 vg.1.2; rw [show min (cnt (sets ss[i].f0)) 1073741825 = cnt (sets ss[i].f0) by omega] at ci; have wi : Aside0 (wrap64 (wrap64 (ss[i].f1 + cnt (sets ss[i].f0)) - 1) = lastOf ss[i]) := Aside0.mk (by rw [w64 (x := ss[i].f1 + cnt (sets ss[i].f0)) (by omega) (by omega), w64 (by omega) (by omega)]; rfl); obtain ⟨r, ih, ihr⟩ := find_loop ss u hI hs hv n (i + 1) (by omega); have hlo : lastOf ss[i] = ss[i].f1 + cnt (sets ss[i].f0) - 1 := rfl; have e1 : (C ss[i]).2 = ss[i].f1 ∧ (C ss[i]).1 = sets ss[i].f0 := ⟨rfl, rfl⟩; have key : ∀ g : Nat → Option Int, (hitC u (C ss[i]) = true → Ev g (i : Int)) → (hitC u (C ss[i]) = false → Ev g r) →
   ∃ r, Ev g r ∧ ((r = -1 ∧ encC (cs (ss.drop i)) u = none) ∨ ∃ (j : Nat) (hj : j < ss.length), r = (j : Int) ∧ hitC u (C ss[j]) = true ∧ encC (cs (ss.drop i)) u = some (unr (sets ss[j].f0) (u - ss[j].f1))) := fun g ga gb => by
   rw [cs_drop ss i hil, encC_cons]; cases hh : hitC u (C ss[i])
   ·exact ⟨r, gb hh, ihr⟩
   ·exact ⟨_, ga hh, .inr ⟨i, hil, rfl, hh, rfl⟩⟩
  refine key _ (fun hh => evSucc ?_) (fun hh => evSucc ?_)
  ·have h' := hitC_iff.1 hh; rw [e1.1, e1.2] at h'; simp only [leadtrailref10_Find.l0, if_pos (show (i : Int) < (ss.length : Int) by omega), if_pos (show (0 : Int) ≤ (i : Int) by omega), rdSh_at ss i hil, if_pos (show u ≥ ss[i].f1 by omega)]; refine Ev.bind ci ?_; simp only [wi.out, if_pos (show u ≤ lastOf ss[i] by omega)]; exact evNow _
  ·have h' : ¬ (ss[i].f1 ≤ u ∧ u - ss[i].f1 < cnt (sets ss[i].f0)) := fun h => by
    have : hitC u (C ss[i]) = true := hitC_iff.2 h; rw [hh] at this; cases this
   simp only [leadtrailref10_Find.l0, if_pos (show (i : Int) < (ss.length : Int) by omega), if_pos (show (0 : Int) ≤ (i : Int) by omega), rdSh_at ss i hil, hw.out]; by_cases c : u ≥ ss[i].f1
   ·simp only [if_pos c]; refine Ev.bind ci ?_; simp only [wi.out, if_neg (show ¬ u ≤ lastOf ss[i] by omega)]; exact ih
   ·simp only [if_neg c]; exact ih
def ofR : Option (List Int) → List Int × Bool
 | some b => (b, true)
 | none => ([], false)
theorem refOf_is (ss : List Sh) (u : Int) (hI : InS ss) (h : vScheme ss = true) (hu : (Lit.int .i64 u).wf = true) : Ev (fun k => leadtrailref10_Of.f k ss u) (ofR (encC (cs ss) u)) := by
 obtain ⟨h1, h2, _⟩ := vScheme_facts h; obtain ⟨r, g1, g2⟩ := find_loop ss u hI h1 h2 ss.length 0 (by omega); rw [List.drop_zero] at g2; have hur := wf_range hu; simp only [leadtrailref10_Of.f]; refine Ev.bind (show Ev (fun k => leadtrailref10_Find.f k ss u) r from g1) ?_; rcases g2 with ⟨rfl, e⟩ | ⟨j, hj, rfl, hh, e⟩
 ·rw [e]; simp only [if_pos (show (-1 : Int) < 0 by omega)]; exact evNow _
 ·have vj := h2 _ (List.getElem_mem hj); have vg := vShape_good vj; have h' := hitC_iff.1 hh; have w1 : Aside0 (wrap64 (u - ss[j].f1) = u - ss[j].f1) := Aside0.mk (by
   have h3 : ss[j].f1 ≤ u := h'.1; exact w64 (by omega) (by omega))
  have eo := okB_hit (u := u) vj; rw [show (sets ss[j].f0, ss[j].f1) = C ss[j] from rfl, hh] at eo; rw [e]; simp only [if_neg (show ¬ (j : Int) < 0 by omega), if_pos (show (0 : Int) ≤ (j : Int) by omega), if_pos (show (j : Int) < (ss.length : Int) by omega), rdSh_at ss j hj, w1.out]; refine Ev.bind (refUnrank_is _ _ _ (hI.2 _ (List.getElem_mem _))) ?_; simp only [unS, eo, if_true]; exact evNow _
theorem enc_range {ss : List Sh} (h : vScheme ss = true) {u : Int} {x : List Int} (he : encC (cs ss) u = some x) : (0 ≤ u ∧ u ≤ 1073741823) ∧ (∀ b ∈ x, 0 ≤ b ∧ b ≤ 255) ∧ 1 ≤ x.length ∧ x.length ≤ 8 := by
 obtain ⟨h1, h2, _, h4⟩ := vScheme_facts h; obtain ⟨p, hp, hh, rfl⟩ := encC_mem he; obtain ⟨q, hq, rfl⟩ := List.mem_map.1 hp; have vg := vShape_good (h2 q hq); have h' := hitC_iff.1 hh; have e1 : (C q).2 = q.f1 ∧ (C q).1 = sets q.f0 := ⟨rfl, rfl⟩; rw [e1.1, e1.2] at h'; rw [e1.1, e1.2]; refine ⟨by omega, unr_range vg.2.2.2.1 (by omega) h'.2, ?_⟩; rw [unr_len, sets_len]; exact vg.1
end Go.Proofs.YtobhclnenffkgaaGreat.PBS
end
section
namespace Go.Proofs.YtobhclnenffkgaaGreat.PBS
open Go.RowKit Go.Proofs.YtobhclnenffkgaaGreatW.PrintWords Go.Proofs.YtobhclnenffkgaaGreatW.PrintLast Go.Proofs.YtobhclnenffkgaaGreatW.PrintMore Go.Proofs.YtobhclnenffkgaaGreat.B Go.Proofs.LT Go.Proofs.YtobhclnenffkgaaGreat.PB3
set_option linter.unusedVariables false
set_option linter.unusedSimpArgs false
def encR : Option (List Int) → List Int × Int
 | some b => (b, 0)
 | none => ([], 100)
noncomputable def encS (ss : List Sh) (u : Int) : List Int × Int := if vScheme ss = true then encR (encC (cs ss) u) else ([], 84)
theorem Encode_is (ss : List Sh) (u : Int) (hI : InS ss) (hu : (Lit.int .i64 u).wf = true) : Ev (fun k => code_Encode.f k ss u) (encS ss u) := by
 simp only [code_Encode.f]; refine Ev.bind (schemeValid_is ss hI) ?_; unfold encS; cases h : vScheme ss
 ·simp only [Bool.false_eq_true, if_false]; exact evNow _
 ·simp only [if_true]; refine Ev.bind (encode_is ss u hI h hu) ?_; cases he : encC (cs ss) u with
  | none => simp only [Option.getD_none, List.length_nil, encR]; rw [if_pos (by rfl)]; exact evNow _
  | some b =>
   have := (enc_range h he).2.2; simp only [Option.getD_some, encR, if_neg (show ¬ (b.length : Int) = 0 by omega)]; exact evNow _
def one1 (lo hi : Int) : List Sp := [⟨lo, hi⟩]
theorem one_valid {lo hi : Int} (h0 : 0 ≤ lo) (h1 : lo ≤ hi) (h2 : hi ≤ 255) : ValidFrom 255 (-2) (runs (one1 lo hi)) := ⟨h0, h1, h2, by show (-2 : Int) < lo - 1; omega, trivial⟩
theorem one_size (lo hi : Int) : size (runs (one1 lo hi)) = hi - lo + 1 := by
 show size [(lo, hi)] = _; rw [size_cons, size_nil]; omega
theorem one_ok {lo hi : Int} (h0 : 0 ≤ lo) (h1 : lo ≤ hi) (h2 : hi ≤ 255) : okPart (one1 lo hi) = true := by
 simp only [okPart, (validB_iff _ _ _).2 (one_valid h0 h1 h2)]; rfl
def some10 : List Sh := [⟨[one1 194 223, one1 128 191], 128⟩, ⟨[one1 0 127], 0⟩]
theorem c10a : cnt (sets [one1 194 223, one1 128 191]) = 1920 := by
 show cnt [runs (one1 194 223), runs (one1 128 191)] = 1920; rw [cnt_cons, cnt_cons, cnt_nil, one_size, one_size]; rfl
theorem c10b : cnt (sets [one1 0 127]) = 128 := by
 show cnt [runs (one1 0 127)] = 128; rw [cnt_cons, cnt_nil, one_size]; rfl
theorem v10 : vScheme some10 = true := by
 have h1 : vShape [one1 194 223, one1 128 191] 128 = true := by
  unfold vShape; rw [c10a]; simp [one_ok (show (0 : Int) ≤ 194 by decide) (show (194 : Int) ≤ 223 by decide) (by decide), one_ok (show (0 : Int) ≤ 128 by decide) (show (128 : Int) ≤ 191 by decide) (by decide)]
 have h2 : vShape [one1 0 127] 0 = true := by
  unfold vShape; rw [c10b]; simp [one_ok (show (0 : Int) ≤ 0 by decide) (show (0 : Int) ≤ 127 by decide) (by decide)]
 have h3 : meetsB ⟨[one1 0 127], 0⟩ ⟨[one1 194 223, one1 128 191], 128⟩ = false := by
  simp only [meetsB, lastOf, c10a, c10b]; decide
 show (decide (2 ≤ 32) && (vShape [one1 194 223, one1 128 191] 128 && (!([] : List Sh).any (meetsB _) && (vShape [one1 0 127] 0 && (!([⟨[one1 194 223, one1 128 191], 128⟩] : List Sh).any (meetsB ⟨[one1 0 127], 0⟩) && true))))) = true; rw [h1, h2]; simp [h3]
theorem i64_small {x : Int} (h0 : 0 ≤ x) (h1 : x ≤ 1073741823) : (Lit.int .i64 x).wf = true := wf64 (by omega) (by omega)
end Go.Proofs.YtobhclnenffkgaaGreat.PBS
end
section
namespace Go.Proofs.YtobhclnenffkgaaGreat.PBS
open Go.RowKit Go.Proofs.YtobhclnenffkgaaGreatW.PrintWords Go.Proofs.YtobhclnenffkgaaGreatW.PrintLast Go.Proofs.YtobhclnenffkgaaGreatW.PrintMore Go.Proofs.YtobhclnenffkgaaGreat.B Go.Proofs.LT Go.Proofs.YtobhclnenffkgaaGreat.PB3
set_option linter.unusedVariables false
set_option linter.unusedSimpArgs false
def InB (x : List Int) : Prop := ∀ b ∈ x, 0 ≤ b ∧ b ≤ 255
def cmpR (x y : List Int) : Int := if lexB x y = true then -1 else if lexB y x = true then 1 else 0
theorem cmp_is : ∀ (x y : List Int), InB x → InB y → Lib.compareBytes (Lib.bytesOf x) (Lib.bytesOf y) = cmpR x y
 | [], [], _, _ => rfl
 | [], b :: t, _, _ => rfl
 | a :: s, [], _, _ => rfl
 | a :: s, b :: t, hx, hy => by
  have h1 := hx a List.mem_cons_self; have h2 := hy b List.mem_cons_self; have ih := cmp_is s t (fun z hz => hx z (List.mem_cons_of_mem _ hz)) (fun z hz => hy z (List.mem_cons_of_mem _ hz)); show (if UInt8.ofNat a.toNat < UInt8.ofNat b.toNat then (-1 : Int) else if UInt8.ofNat b.toNat < UInt8.ofNat a.toNat then 1 else Lib.compareBytes (Lib.bytesOf s) (Lib.bytesOf t)) = _; rw [ih]; unfold cmpR; have p1 := byte_lt h1 h2; have p2 := byte_lt h2 h1; rcases (by omega : a < b ∨ a = b ∨ b < a) with h | h | h
  ·rw [if_pos (p1.2 h), if_pos (lexB_cons_iff.2 (.inl h))]
  ·subst h; rw [if_neg (fun q => by have := p1.1 q; omega), if_neg (fun q => by have := p1.1 q; omega), lexB_cons, lexB_cons, decide_eq_false (Int.lt_irrefl a), decide_eq_true rfl]; rfl
  ·rw [if_neg (fun q => by have := p1.1 q; omega), if_pos (p2.2 h), if_neg (fun q => by rcases lexB_cons_iff.1 q with q | q <;> omega), if_pos (lexB_cons_iff.2 (.inl h))]
theorem rdx (x : List Int) (i : Nat) (h : i < x.length) : rd x (i : Int) = x[i] := rd_get x i h
theorem Less_loop (x y : List Int) (hx : x.length ≤ 4611686018427387900) : ∀ (n i : Nat), i + n = x.length → Ev (fun k => leadtrailref12_Less.l0 k x y (i : Int)) (lexB (x.drop i) (y.drop i))
 | 0, i, hi => by
  refine evSucc ?_; simp only [leadtrailref12_Less.l0, if_neg (show ¬ (i : Int) < (x.length : Int) by omega)]; refine evSucc ?_; simp only [leadtrailref12_Less.j1, Bool.false_eq_true, if_false]; rw [List.drop_of_length_le (show x.length ≤ i by omega)]; by_cases c : i < y.length
  ·rw [List.drop_eq_getElem_cons c, lexB_less, decide_eq_true (show (x.length : Int) < (y.length : Int) by omega)]; exact evNow _
  ·rw [List.drop_of_length_le (show y.length ≤ i by omega), lexB_nil, decide_eq_false (show ¬ (x.length : Int) < (y.length : Int) by omega)]; exact evNow _
 | n + 1, i, hi => by
  have hil : i < x.length := by omega
  have hw := succ_wrap i (by omega); have ih := Less_loop x y hx n (i + 1) (by omega); refine evSucc ?_; simp only [leadtrailref12_Less.l0, if_pos (show (i : Int) < (x.length : Int) by omega)]; refine evSucc ?_; by_cases c : i < y.length
  ·simp only [leadtrailref12_Less.j1, decide_eq_true (show (i : Int) < (y.length : Int) by omega), if_true, if_pos (show (0 : Int) ≤ (i : Int) by omega), if_pos (show (i : Int) < (x.length : Int) by omega), if_pos (show (i : Int) < (y.length : Int) by omega), rdx x i hil, rdx y i c, hw.out]; rw [List.drop_eq_getElem_cons c, List.drop_eq_getElem_cons hil, lexB_cons]; by_cases e : x[i] = y[i]
   ·simp only [if_pos e, decide_eq_false (show ¬ x[i] < y[i] by omega), decide_eq_true e, Bool.false_or, Bool.true_and]; exact ih
   ·simp only [if_neg e, decide_eq_false e, Bool.false_and, Bool.or_false]; exact evNow _
  ·simp only [leadtrailref12_Less.j1, decide_eq_false (show ¬ (i : Int) < (y.length : Int) by omega), Bool.false_eq_true, if_false]; rw [List.drop_of_length_le (show y.length ≤ i by omega), lexB_nil, decide_eq_false (show ¬ (x.length : Int) < (y.length : Int) by omega)]; exact evNow _
theorem Less_is (x y : List Int) (hx : x.length ≤ 4611686018427387900) : Ev (fun k => leadtrailref12_Less.f k x y) (lexB x y) := by
 have := Less_loop x y hx x.length 0 (by omega); rw [List.drop_zero, List.drop_zero] at this; exact this
theorem cnt_at {p : Sh} (hv : vShape p.f0 p.f1 = true) : 1 ≤ cnt (sets p.f0) ∧ cnt (sets p.f0) ≤ 1073741824 ∧ 0 ≤ p.f1 ∧ p.f1 ≤ 1073741823 ∧ p.f1 + cnt (sets p.f0) - 1 ≤ 1073741823 := by
 obtain ⟨_, h2, _, h4, h5⟩ := vShape_good hv; have := cnt_pos h4; omega
theorem top_is {p : Sh} (hv : vShape p.f0 p.f1 = true) : unS p.f0 p.f1 (cnt (sets p.f0) - 1) = topC (C p) ∧ unS p.f0 p.f1 0 = botC (C p) := by
 have hc := cnt_at hv; have e : cntS p.f0 p.f1 = cnt (sets p.f0) := if_pos hv; have h1 : okB p.f0 p.f1 (cnt (sets p.f0) - 1) = true := decide_eq_true (by rw [e]; omega); have h2 : okB p.f0 p.f1 0 = true := decide_eq_true (by rw [e]; omega); exact ⟨by simp only [unS, h1, if_true]; rfl, by simp only [unS, h2, if_true]; rfl⟩
theorem topbot_in {p : Sh} (hv : vShape p.f0 p.f1 = true) : InB (topC (C p)) ∧ InB (botC (C p)) ∧ (topC (C p)).length ≤ 8 ∧ (botC (C p)).length ≤ 8 := by
 obtain ⟨h1, h2⟩ := top_is hv; have hl := (vShape_good hv).1; refine ⟨by rw [← h1]; exact unS_range _ _ _, by rw [← h2]; exact unS_range _ _ _, ?_, ?_⟩
 ·show (unr (sets p.f0) _).length ≤ 8; rw [unr_len, sets_len]; exact hl.2
 ·show (unr (sets p.f0) _).length ≤ 8; rw [unr_len, sets_len]; exact hl.2
def okO (p q : Sh) : Prop := p.f1 < q.f1 → lexB (topC (C p)) (botC (C q)) = true
theorem refCk_step (ss : List Sh) (hI : InS ss) (hs : ss.length ≤ 32) (hv : ∀ p ∈ ss, vShape p.f0 p.f1 = true) (i : Nat) (hi : i < ss.length) (B : Prop) (hnext : ∃ b, Ev (fun k => leadtrailref12_Check.l0 k ((i + 1 : Nat) : Int) ss) (b, 0) ∧ (b = true ↔ B)) :
 ∀ (n j : Nat), j + n = ss.length → ∃ b, Ev (fun k => leadtrailref12_Check.l1 k (i : Int) (j : Int) ss) (b, 0) ∧ (b = true ↔ (∀ j', j ≤ j' → ∀ h : j' < ss.length, okO ss[i] ss[j']) ∧ B)
 | 0, j, hj => by
  obtain ⟨b, h1, h2⟩ := hnext; have hw := succ_wrap i (by omega); refine ⟨b, evSucc ?_, h2.trans ⟨fun h => ⟨fun j' h1 h2 => by omega, h⟩, fun h => h.2⟩⟩; simp only [leadtrailref12_Check.l1, if_neg (show ¬ (j : Int) < (ss.length : Int) by omega), hw.out]; exact h1
 | n + 1, j, hj => by
  have hjl : j < ss.length := by omega
  have hw := succ_wrap j (by omega); have vi := hv _ (List.getElem_mem hi); have vj := hv _ (List.getElem_mem hjl); have ci := refCount8_is ss[i].f0 ss[i].f1 (hI.2 _ (List.getElem_mem _)) (vShape_good vi).2.2.1 (vShape_good vi).1.2; have ai := cnt_at vi; rw [show min (cnt (sets ss[i].f0)) 1073741825 = cnt (sets ss[i].f0) by omega] at ci; have w1 : Aside0 (wrap64 (cnt (sets ss[i].f0) - 1) = cnt (sets ss[i].f0) - 1) := Aside0.mk (w64 (by omega) (by omega)); obtain ⟨b, ih1, ih2⟩ := refCk_step ss hI hs hv i hi B hnext n (j + 1) (by omega); have split : ((∀ j', j ≤ j' → ∀ h : j' < ss.length, okO ss[i] ss[j']) ∧ B) ↔ okO ss[i] ss[j] ∧ ((∀ j', j + 1 ≤ j' → ∀ h : j' < ss.length, okO ss[i] ss[j']) ∧ B) := by
   constructor
   ·rintro ⟨h1, h2⟩; exact ⟨h1 j (Nat.le_refl _) hjl, fun j' h h' => h1 j' (by omega) h', h2⟩
   ·rintro ⟨h0, h1, h2⟩; refine ⟨fun j' h h' => ?_, h2⟩; by_cases e : j = j'
    ·subst e; exact h0
    ·exact h1 j' (by omega) h'
  by_cases c : ss[i].f1 < ss[j].f1
  ·cases hl : lexB (topC (C ss[i])) (botC (C ss[j]))
   ·refine ⟨false, evSucc ?_, ⟨fun h => (by cases h), fun h => ?_⟩⟩
    ·simp only [leadtrailref12_Check.l1, if_pos (show (j : Int) < (ss.length : Int) by omega), if_pos (show (0 : Int) ≤ (i : Int) by omega), if_pos (show (i : Int) < (ss.length : Int) by omega), if_pos (show (0 : Int) ≤ (j : Int) by omega), rdSh_at ss i hi, rdSh_at ss j hjl, if_pos c]; refine Ev.bind ci ?_; simp only [w1.out]; refine Ev.bind (refUnrank_is _ _ _ (hI.2 _ (List.getElem_mem _))) (Ev.bind (refUnrank_is _ _ _ (hI.2 _ (List.getElem_mem _))) ?_); simp only [(top_is vi).1, (top_is vj).2]; refine Ev.bind (Less_is _ _ (by have := (topbot_in vi).2.2.1; omega)) ?_; simp only [hl, Bool.false_eq_true, if_false]; exact evNow _
    ·have := (split.1 h).1 c; rw [hl] at this; cases this
   ·refine ⟨b, evSucc ?_, ?_⟩
    ·simp only [leadtrailref12_Check.l1, if_pos (show (j : Int) < (ss.length : Int) by omega), if_pos (show (0 : Int) ≤ (i : Int) by omega), if_pos (show (i : Int) < (ss.length : Int) by omega), if_pos (show (0 : Int) ≤ (j : Int) by omega), rdSh_at ss i hi, rdSh_at ss j hjl, if_pos c]; refine Ev.bind ci ?_; simp only [w1.out]; refine Ev.bind (refUnrank_is _ _ _ (hI.2 _ (List.getElem_mem _))) (Ev.bind (refUnrank_is _ _ _ (hI.2 _ (List.getElem_mem _))) ?_); simp only [(top_is vi).1, (top_is vj).2]; refine Ev.bind (Less_is _ _ (by have := (topbot_in vi).2.2.1; omega)) ?_; simp only [hl, if_true, hw.out]; exact ih1
    ·rw [ih2, split]; exact ⟨fun h => ⟨fun _ => hl, h⟩, fun h => h.2⟩
  ·refine ⟨b, evSucc ?_, ?_⟩
   ·simp only [leadtrailref12_Check.l1, if_pos (show (j : Int) < (ss.length : Int) by omega), if_pos (show (0 : Int) ≤ (i : Int) by omega), if_pos (show (i : Int) < (ss.length : Int) by omega), if_pos (show (0 : Int) ≤ (j : Int) by omega), rdSh_at ss i hi, rdSh_at ss j hjl, if_neg c, hw.out]; exact ih1
   ·rw [ih2, split]; exact ⟨fun h => ⟨fun q => absurd q c, h⟩, fun h => h.2⟩
theorem refCk_loop (ss : List Sh) (hI : InS ss) (hs : ss.length ≤ 32) (hv : ∀ p ∈ ss, vShape p.f0 p.f1 = true) : ∀ (n i : Nat), i + n = ss.length → ∃ b, Ev (fun k => leadtrailref12_Check.l0 k (i : Int) ss) (b, 0) ∧ (b = true ↔ ∀ i', i ≤ i' → ∀ h : i' < ss.length, ∀ j' (h' : j' < ss.length), okO ss[i'] ss[j'])
 | 0, i, hi => by
  refine ⟨true, evSucc ?_, ⟨fun _ i' h h' => by omega, fun _ => rfl⟩⟩; simp only [leadtrailref12_Check.l0, if_neg (show ¬ (i : Int) < (ss.length : Int) by omega)]; exact evNow _
 | n + 1, i, hi => by
  have hil : i < ss.length := by omega
  obtain ⟨b, h1, h2⟩ := refCk_step ss hI hs hv i hil _ (refCk_loop ss hI hs hv n (i + 1) (by omega)) ss.length 0 (by omega); refine ⟨b, evSucc ?_, h2.trans ⟨?_, fun h => ⟨fun j' _ h' => h i (Nat.le_refl _) hil j' h', fun i' a c => h i' (by omega) c⟩⟩⟩
  ·simp only [leadtrailref12_Check.l0, if_pos (show (i : Int) < (ss.length : Int) by omega)]; exact h1
  ·rintro ⟨a, c⟩ i' q q'; by_cases e : i = i'
   ·subst e; exact fun j' h' => a j' (Nat.zero_le _) h'
   ·exact c i' (by omega) q'
theorem okO_rises (ss : List Sh) : (∀ i', 0 ≤ i' → ∀ h : i' < ss.length, ∀ j' (h' : j' < ss.length), okO ss[i'] ss[j']) ↔ RisesC (cs ss) := by
 constructor
 ·intro h p hp q hq hlt; obtain ⟨a, ha, rfl⟩ := List.mem_map.1 hp; obtain ⟨b, hb, rfl⟩ := List.mem_map.1 hq; obtain ⟨i, hi, rfl⟩ := List.mem_iff_getElem.1 ha; obtain ⟨j, hj, rfl⟩ := List.mem_iff_getElem.1 hb; exact h i (Nat.zero_le _) hi j hj hlt
 ·intro h i _ hi j hj hlt; exact h _ (List.mem_map.2 ⟨_, List.getElem_mem hi, rfl⟩) _ (List.mem_map.2 ⟨_, List.getElem_mem hj, rfl⟩) hlt
open Classical in
noncomputable def risesB (ss : List Sh) : Bool := decide (RisesC (cs ss))
open Classical in
theorem risesB_iff (ss : List Sh) : risesB ss = true ↔ RisesC (cs ss) := by unfold risesB; exact decide_eq_true_iff
theorem refCheck12_is (ss : List Sh) (hI : InS ss) : Ev (fun k => leadtrailref12_Check.f k ss) (if vScheme ss = true then (risesB ss, 0) else (false, 84)) := by
 simp only [leadtrailref12_Check.f]; refine Ev.bind (refValid8_is ss hI) ?_; cases h : vScheme ss
 ·simp only [Bool.false_eq_true, if_false]; exact evNow _
 ·obtain ⟨h1, h2, _⟩ := vScheme_facts h; obtain ⟨b, b1, b2⟩ := refCk_loop ss hI h1 h2 ss.length 0 (by omega); rw [okO_rises] at b2; have e : b = risesB ss := by
   rw [Bool.eq_iff_iff, b2, risesB_iff]
  rw [← e]; simp only [if_true]; exact b1
theorem sort_of {l r : List Sh} (hl : l.length < 8796093022208) (hp : r.Perm l) (hs : r.Pairwise fun x y => x.f1 < y.f1) : sortShape.f l = some r := by
 have hne : r.Pairwise fun x y => x.f1 ≠ y.f1 := hs.imp (fun h => by omega)
 have hne2 : l.Pairwise fun x y => x.f1 ≠ y.f1 := (hp.pairwise_iff (fun h => Ne.symm h)).1 hne
 have h1 : sortShape.f l = some (l.mergeSort fun x y => decide (x.f1 ≤ y.f1)) := by
  unfold sortShape.f; rw [if_pos (show sortShape.ok l = true by simp only [sortShape.ok, Bool.and_eq_true, decide_eq_true_eq]; exact ⟨hl, hne2⟩)]
 obtain ⟨_, m1, m2, _⟩ := sortShape.merge h1; rw [h1, sortShape.uniq (m1.trans hp.symm) m2 hs]
def o12a : List Sh := [⟨[one1 80 81], 10⟩, ⟨[one1 65 66], 0⟩]
def o12a' : List Sh := [⟨[one1 65 66], 0⟩, ⟨[one1 80 81], 10⟩]
def o12b : List Sh := [⟨[one1 65 65], 10⟩, ⟨[one1 66 66], 0⟩]
def o12b' : List Sh := [⟨[one1 66 66], 0⟩, ⟨[one1 65 65], 10⟩]
theorem check_at (l l' : List Sh) (v : Bool × Int × Int × Int) (hl : l.length ≤ 4) (h1 : Ev (fun k => scheme_Valid.f k l) true) (h2 : sortShape.f l = some l') (h3 : Ev (fun k => order_Check.l0 k l' 1) v) : Ev (fun k => order_Check.f k l) v := by
 simp only [order_Check.f]; refine Ev.bind h1 ?_; simp only [if_true, show cloneShape.f l = some l by unfold cloneShape.f; rw [if_pos (by omega)], h2, Option.bind_some]; exact h3
theorem check12a : Ev (fun k => order_Check.f k o12a) (true, 0, 0, 0) :=
 check_at o12a o12a' _ (by decide) (Ev.of (k := 40) (scheme_Valid.mono _) (by kernel_rfl)) (sort_of (by decide) (List.Perm.swap _ _ _) (by
  refine List.pairwise_cons.2 ⟨fun q hq => ?_, List.pairwise_singleton _ _⟩; rw [List.mem_singleton.1 hq]; decide)) (Ev.of (k := 40) (fun k => order_Check.mono_l k _ _) (by kernel_rfl))
theorem check12b : Ev (fun k => order_Check.f k o12b) (false, 0, 10, 0) :=
 check_at o12b o12b' _ (by decide) (Ev.of (k := 40) (scheme_Valid.mono _) (by kernel_rfl)) (sort_of (by decide) (List.Perm.swap _ _ _) (by
  refine List.pairwise_cons.2 ⟨fun q hq => ?_, List.pairwise_singleton _ _⟩; rw [List.mem_singleton.1 hq]; decide)) (Ev.of (k := 40) (fun k => order_Check.mono_l k _ _) (by kernel_rfl))
theorem fixed12 : Ev (fun k => leadtraillaw12_fixed.f k) true := by
 simp only [leadtraillaw12_fixed.f, leadtraillaw12_one.f, Option.bind_some]; refine Ev.bind check12a (Ev.bind check12b ?_); exact evNow _
end Go.Proofs.YtobhclnenffkgaaGreat.PBS
end
section
namespace Go.Proofs.YtobhclnenffkgaaGreat.PBS
open Go.RowKit Go.Proofs.YtobhclnenffkgaaGreatW.PrintWords Go.Proofs.YtobhclnenffkgaaGreatW.PrintLast Go.Proofs.YtobhclnenffkgaaGreatW.PrintMore Go.Proofs.YtobhclnenffkgaaGreat.B Go.Proofs.LT Go.Proofs.YtobhclnenffkgaaGreat.PB3
set_option linter.unusedVariables false
set_option linter.unusedSimpArgs false
set_option linter.unusedSectionVars false
noncomputable def textR (l : List Cs) : List Int → Int → List Int → List Int × Int × Int
 | out, _, [] => (out, 0, 0)
 | out, i, u :: t => match encC l u with
  | some b => textR l (out ++ b) (i + 1) t
  | none => ([], i, 100)
theorem rdCd_at (l : List S55) (i : Nat) (h : i < l.length) : rd_T55 l (i : Int) = l[i] := by simp [rd_T55, List.getD, h]
theorem refText_loop (ss : List Sh) (us : List Int) (hI : InS ss) (h : vScheme ss = true) (hu : ∀ u ∈ us, (Lit.int .i64 u).wf = true) (hl : us.length * 8 ≤ 140737488351232) : ∀ (n i : Nat) (out : List Int), i + n = us.length → out.length ≤ 8 * i →
 Ev (fun k => leadtrailref10_Text.l0 k us out (i : Int) ss) (textR (cs ss) out (i : Int) (us.drop i))
 | 0, i, out, hi, ho => by
  rw [List.drop_of_length_le (by omega)]; refine evSucc ?_; simp only [leadtrailref10_Text.l0, if_neg (show ¬ (i : Int) < (us.length : Int) by omega)]; exact evNow _
 | n + 1, i, out, hi, ho => by
  have hil : i < us.length := by omega
  have hw := succ_wrap i (by omega); have hw1 := hu _ (List.getElem_mem hil); have hO := refOf_is ss us[i] hI h hw1; have hrd := rd_get us i hil; rw [List.drop_eq_getElem_cons hil]; cases he : encC (cs ss) us[i] with
  | none =>
   rw [he] at hO; have e : textR (cs ss) out (i : Int) (us[i] :: us.drop (i + 1)) = ([], (i : Int), 100) := by show (match encC (cs ss) us[i] with | some b => _ | none => _) = _; rw [he]
   rw [e]; refine evSucc ?_; simp only [leadtrailref10_Text.l0, if_pos (show (i : Int) < (us.length : Int) by omega), if_pos (show (0 : Int) ≤ (i : Int) by omega), hrd]; refine Ev.bind hO ?_; simp only [ofR, Bool.false_eq_true, if_false]; exact evNow _
  | some b =>
   rw [he] at hO; have hr := (enc_range h he).2.2; have e : textR (cs ss) out (i : Int) (us[i] :: us.drop (i + 1)) = textR (cs ss) (out ++ b) ((i : Int) + 1) (us.drop (i + 1)) := by show (match encC (cs ss) us[i] with | some b => _ | none => _) = _; rw [he]
   rw [e, show (i : Int) + 1 = ((i + 1 : Nat) : Int) by omega]; have ih := refText_loop ss us hI h hu hl n (i + 1) (out ++ b) (by omega) (by rw [List.length_append]; omega); refine evSucc ?_; simp only [leadtrailref10_Text.l0, if_pos (show (i : Int) < (us.length : Int) by omega), if_pos (show (0 : Int) ≤ (i : Int) by omega), hrd]; refine Ev.bind hO ?_; simp only [ofR, if_true, if_pos (show out.length + b.length < 140737488355328 by omega), hw.out]; exact ih
noncomputable def textS (ss : List Sh) (us : List Int) : List Int × Int × Int := if vScheme ss = true then textR (cs ss) [] 0 us else ([], 0, 84)
theorem refText_is (ss : List Sh) (us : List Int) (hI : InS ss) (hu : ∀ u ∈ us, (Lit.int .i64 u).wf = true) (hl : us.length * 8 ≤ 140737488351232) : Ev (fun k => leadtrailref10_Text.f k ss us) (textS ss us) := by
 unfold textS; simp only [leadtrailref10_Text.f]; refine Ev.bind (refValid8_is ss hI) ?_; cases h : vScheme ss
 ·simp only [h, Bool.false_eq_true, if_false]; exact evNow _
 ·have h2 := refText_loop ss us hI h hu hl us.length 0 [] (by omega) (by simp); rw [List.drop_zero] at h2; simp only [h, if_true]; exact h2
theorem sorted_of {l : List S55} (hl : l.length < 8796093022208) (hi : ∀ x ∈ l, sortCoded.inB x = true) : ∃ ls, sortCoded.f l = some ls :=
 ⟨_, by
  unfold sortCoded.f; rw [if_pos (by simp only [sortCoded.ok, Bool.and_eq_true, decide_eq_true_eq, List.all_eq_true]; exact ⟨hl, hi⟩)]⟩
theorem out_loop (ls : List S55) (hl : ls.length ≤ 1048576) : ∀ (n i : Nat) (out : List Int), i + n = ls.length → out.length = i → Ev (fun k => order_Sorted.l1 k ls out (ls.length : Int) (i : Int)) (out ++ (ls.drop i).map (fun x => x.f0), 0, 0)
 | 0, i, out, hi, ho => by
  rw [List.drop_of_length_le (by omega), List.map_nil, List.append_nil]; refine evSucc ?_; simp only [order_Sorted.l1, if_neg (show ¬ (i : Int) < (ls.length : Int) by omega)]; exact evNow _
 | n + 1, i, out, hi, ho => by
  have hil : i < ls.length := by omega
  have hw := succ_wrap i (by omega); have ih := out_loop ls hl n (i + 1) (out ++ [ls[i].f0]) (by omega) (by rw [List.length_append]; simp; omega); rw [List.drop_eq_getElem_cons hil, List.map_cons]; rw [List.append_assoc] at ih; refine evSucc ?_; simp only [order_Sorted.l1, if_pos (show (i : Int) < (ls.length : Int) by omega), if_pos (show (0 : Int) ≤ (i : Int) by omega), if_pos (show out.length < 17592186044416 by omega), rdCd_at ls i hil, hw.out]; exact ih
theorem sorted_loop (ss : List Sh) (us : List Int) (hI : InS ss) (h : vScheme ss = true) (hu : ∀ u ∈ us, (Lit.int .i64 u).wf = true) (hl : us.length ≤ 1048576) : ∀ (n i : Nat) (acc : List S55) (out : List Int), i + n = us.length → acc.map (fun x => x.f0) = us.take i → (∀ x ∈ acc, encC (cs ss) x.f0 = some x.f1) →
 (∃ j : Int, Ev (fun k => order_Sorted.l0 k acc us (us.length : Int) (i : Int) ss) ([], j, 100) ∧ textR (cs ss) out (i : Int) (us.drop i) = ([], j, 100)) ∨
 (∃ (all ls : List S55) (tx : List Int), all.map (fun x => x.f0) = us ∧ (∀ x ∈ all, encC (cs ss) x.f0 = some x.f1) ∧ sortCoded.f all = some ls ∧ Ev (fun k => order_Sorted.l0 k acc us (us.length : Int) (i : Int) ss) (ls.map (fun x => x.f0), 0, 0) ∧ textR (cs ss) out (i : Int) (us.drop i) = (tx, 0, 0))
 | 0, i, acc, out, hi, hm, ha => by
  rw [List.take_of_length_le (by omega)] at hm; have hlen : acc.length = us.length := by rw [← hm, List.length_map]
  obtain ⟨ls, hs⟩ := sorted_of (l := acc) (by omega) (fun x hx => by
   have := (enc_range h (ha x hx)).2.1; unfold sortCoded.inB; rw [List.all_eq_true]; intro b hb; have := this b hb; simp only [Bool.and_eq_true, decide_eq_true_eq]; exact this)
  have hp := (sortCoded.merge hs).2.1.length_eq; refine .inr ⟨acc, ls, out, hm, ha, hs, ?_, by rw [List.drop_of_length_le (by omega)]; rfl⟩; have h2 := out_loop ls (by omega) ls.length 0 [] (by omega) rfl; rw [List.drop_zero, List.nil_append] at h2; refine evSucc ?_; simp only [order_Sorted.l0, if_neg (show ¬ (i : Int) < (us.length : Int) by omega), hs, Option.bind_some]; exact h2
 | n + 1, i, acc, out, hi, hm, ha => by
  have hil : i < us.length := by omega
  have hw := succ_wrap i (by omega); have hw1 := hu _ (List.getElem_mem hil); have hE := Encode_is ss us[i] hI hw1; have hrd := rd_get us i hil; have hal : acc.length = i := by have := congrArg List.length hm; rw [List.length_map, List.length_take] at this; omega
  rw [List.drop_eq_getElem_cons hil]; unfold encS at hE; rw [if_pos h] at hE; cases he : encC (cs ss) us[i] with
  | none =>
   rw [he] at hE; refine .inl ⟨(i : Int), ?_, by show (match encC (cs ss) us[i] with | some b => _ | none => _) = _; rw [he]⟩; refine evSucc ?_; simp only [order_Sorted.l0, if_pos (show (i : Int) < (us.length : Int) by omega), if_pos (show (0 : Int) ≤ (i : Int) by omega), hrd]; refine Ev.bind hE ?_; simp only [encR, if_neg (show ¬ (100 : Int) = 0 by omega)]; exact evNow _
  | some b =>
   rw [he] at hE; have e : textR (cs ss) out (i : Int) (us[i] :: us.drop (i + 1)) = textR (cs ss) (out ++ b) ((i + 1 : Nat) : Int) (us.drop (i + 1)) := by
    show (match encC (cs ss) us[i] with | some b => _ | none => _) = _; rw [he]; simp only; congr 1
   have ih := sorted_loop ss us hI h hu hl n (i + 1) (acc ++ [⟨us[i], b⟩]) (out ++ b) (by omega)
    (by rw [List.map_append, hm, List.take_add_one, List.getElem?_eq_getElem hil]; rfl)
    (fun x hx => by
     rcases List.mem_append.1 hx with hx | hx
     ·exact ha x hx
     ·rw [List.mem_singleton.1 hx]; exact he)
   rw [e]; have step : ∀ r, Ev (fun k => order_Sorted.l0 k (acc ++ [⟨us[i], b⟩]) us (us.length : Int) ((i + 1 : Nat) : Int) ss) r → Ev (fun k => order_Sorted.l0 k acc us (us.length : Int) (i : Int) ss) r := fun r hr => by
    refine evSucc ?_; simp only [order_Sorted.l0, if_pos (show (i : Int) < (us.length : Int) by omega), if_pos (show (0 : Int) ≤ (i : Int) by omega), hrd]; refine Ev.bind hE ?_; simp only [encR, if_true, if_pos (show acc.length < 4398046511104 by omega), hw.out]; exact hr
   rcases ih with ⟨j, h1, h2⟩ | ⟨all, ls, tx, h1, h2, h3, h4, h5⟩
   ·exact .inl ⟨j, step _ h1, h2⟩
   ·exact .inr ⟨all, ls, tx, h1, h2, h3, step _ h4, h5⟩
theorem sorted_is (ss : List Sh) (us : List Int) (hI : InS ss) (hu : ∀ u ∈ us, (Lit.int .i64 u).wf = true) (hl : us.length ≤ 1048576) :
 (∃ (j e : Int), e ≠ 0 ∧ Ev (fun k => order_Sorted.f k ss us) ([], j, e) ∧ textS ss us = ([], j, e)) ∨
 (∃ (all ls : List S55) (tx : List Int), vScheme ss = true ∧ all.map (fun x => x.f0) = us ∧ (∀ x ∈ all, encC (cs ss) x.f0 = some x.f1) ∧ sortCoded.f all = some ls ∧ Ev (fun k => order_Sorted.f k ss us) (ls.map (fun x => x.f0), 0, 0) ∧ textS ss us = (tx, 0, 0)) := by
 simp only [order_Sorted.f]; cases h : vScheme ss
 ·refine .inl ⟨0, 84, by omega, Ev.bind (schemeValid_is ss hI) ?_, by unfold textS; rw [h]; rfl⟩; simp only [h, Bool.false_eq_true, if_false]; exact evNow _
 ·have wrap : ∀ r, Ev (fun k => order_Sorted.l0 k [] us (us.length : Int) ((0 : Nat) : Int) ss) r → Ev (fun k => (scheme_Valid.f k ss).bind fun t => if t = true then order_Sorted.l0 k [] us (us.length : Int) 0 ss else some ([], 0, 84)) r := fun r hr => by
   refine Ev.bind (schemeValid_is ss hI) ?_; simp only [h, if_true]; exact hr
  have et : textS ss us = textR (cs ss) [] ((0 : Nat) : Int) (us.drop 0) := by unfold textS; rw [if_pos h, List.drop_zero]; rfl
  rcases sorted_loop ss us hI h hu hl us.length 0 [] [] (by omega) (by simp) (fun x hx => by cases hx) with ⟨j, h1, h2⟩ | ⟨all, ls, tx, h1, h2, h3, h4, h5⟩
  ·exact .inl ⟨j, 100, by omega, wrap _ h1, et.trans h2⟩
  ·exact .inr ⟨all, ls, tx, rfl, h1, h2, h3, wrap _ h4, et.trans h5⟩
def sumI (l : List Int) : Int := l.foldr (· + ·) 0
theorem sumI_snoc (l : List Int) (x : Int) : sumI (l ++ [x]) = sumI l + x := by
 induction l with
 | nil => simp [sumI]
 | cons a t ih => show a + sumI (t ++ [x]) = a + sumI t + x; rw [ih]; omega
theorem sumI_perm {a b : List Int} (h : a.Perm b) : sumI a = sumI b := by
 induction h with
 | nil => rfl
 | cons x _ ih => show x + sumI _ = x + sumI _; rw [ih]
 | swap x y l => show y + (x + sumI l) = x + (y + sumI l); omega
 | trans _ _ h1 h2 => exact h1.trans h2
theorem sumI_range : ∀ {l : List Int}, (∀ x ∈ l, 0 ≤ x ∧ x ≤ 1073741823) → 0 ≤ sumI l ∧ sumI l ≤ 1073741823 * (l.length : Int)
 | [], _ => by simp [sumI]
 | a :: t, h => by
  have := sumI_range (l := t) (fun x hx => h x (List.mem_cons_of_mem _ hx)); have := h a List.mem_cons_self; show 0 ≤ a + sumI t ∧ a + sumI t ≤ 1073741823 * ((t.length + 1 : Nat) : Int); omega
def cntI (v : Int) (l : List Int) : Int := (l.countP fun x => decide (x = v) : Nat)
theorem cntI_snoc (v : Int) (l : List Int) (x : Int) : cntI v (l ++ [x]) = cntI v l + if x = v then 1 else 0 := by
 unfold cntI; rw [List.countP_append]; by_cases h : x = v <;> simp [h]
theorem cntI_le (v : Int) (l : List Int) : 0 ≤ cntI v l ∧ cntI v l ≤ l.length := by
 have := List.countP_le_length (p := fun x => decide (x = v)) (l := l); unfold cntI; omega
theorem take_snoc (l : List Int) (i : Nat) (h : i < l.length) : l.take (i + 1) = l.take i ++ [l[i]] := by rw [List.take_add_one, List.getElem?_eq_getElem h]; rfl
section
variable (ss : List Sh) (us out : List Int) (hI : InS ss) (h : vScheme ss = true) (hl : us.length ≤ 1048576) (hp : out.Perm us) (hr : ∀ u ∈ out, 0 ≤ u ∧ u ≤ 1073741823)
include hl hp in
theorem tail_is (hs : Ev (fun k => order_Sorted.f k ss us) (out, 0, 0)) : Ev (fun k => (order_Sorted.f k ss us).bind fun bt => (if (out.length : Int) = (us.length : Int) then ((leadtrailmem_OwnInts.f (([out, bt.1] : List (List Int)))).bind fun t => (if t = true then (if 0 ≤ (us.length : Int) then (if (us.length : Int) < ((us ++ [-7]).length : Int) then (some ((rd (us ++ [-7]) (us.length : Int)) == (-7))) else (none)) else (none)) else (none))) else (none))) true := by
 have hlen := hp.length_eq; have hown : leadtrailmem_OwnInts.f ([out, out] : List (List Int)) = some true := by
  unfold leadtrailmem_OwnInts.f; rw [if_pos (by simp), if_pos (by simp; omega)]
 have hrd : rd (us ++ [-7]) (us.length : Int) = -7 := by
  rw [rd_get (us ++ [-7]) us.length (by simp)]; simp
 refine Ev.bind hs ?_; simp only [hown, Option.bind_some, if_true, if_pos (show (out.length : Int) = (us.length : Int) by omega), if_pos (show (0 : Int) ≤ (us.length : Int) by omega), if_pos (show (us.length : Int) < ((us ++ [-7]).length : Int) by simp; omega), hrd, beq_self_eq_true]; exact evNow _
include hl hp hr in
theorem law_l4 (hs : Ev (fun k => order_Sorted.f k ss us) (out, 0, 0)) (v x15 x16 : Int) (q : Nat) (hq : q < us.length) (hnext : us.length ≤ 300 → Ev (fun k => leadtraillaw12_OrderSorted.l2 k us (us ++ [-7]) out x15 x16 us (us.length : Int) ((q + 1 : Nat) : Int) ss) true) : ∀ (n i : Nat), i + n = us.length →
 Ev (fun k => leadtraillaw12_OrderSorted.l4 k us (us ++ [-7]) out x15 x16 v (cntI v out - cntI v (us.take i)) us (us.length : Int) (q : Int) us (us.length : Int) (i : Int) ss) true
 | 0, i, hi => by
  rw [List.take_of_length_le (by omega), show cntI v out - cntI v us = 0 by unfold cntI; rw [hp.countP_eq]; omega]; have hw := succ_wrap q (by omega); refine evSucc ?_; simp only [leadtraillaw12_OrderSorted.l4, if_neg (show ¬ (i : Int) < (us.length : Int) by omega), if_true, hw.out]; by_cases c : (us.length : Int) > 300
  ·simp only [if_pos c]; exact tail_is ss us out hl hp hs
  ·simp only [if_neg c]; exact hnext (by omega)
 | n + 1, i, hi => by
  have hil : i < us.length := by omega
  have hw := succ_wrap i (by omega); have hrd := rd_get us i hil; have ih := law_l4 hs v x15 x16 q hq hnext n (i + 1) (by omega); rw [take_snoc us i hil, cntI_snoc] at ih; have b1 := cntI_le v out; have b2 := cntI_le v (us.take i); have hlen := hp.length_eq; have hti : (us.take i).length = i := by rw [List.length_take]; omega
  have hw2 : wrap64 (cntI v out - cntI v (us.take i) - 1) = cntI v out - cntI v (us.take i) - 1 := w64 (by omega) (by omega); refine evSucc ?_; simp only [leadtraillaw12_OrderSorted.l4, if_pos (show (i : Int) < (us.length : Int) by omega), if_pos (show (0 : Int) ≤ (i : Int) by omega), hrd, hw.out, hw2]; by_cases c : us[i] = v
  ·rw [if_pos c] at ih; simp only [if_pos c]; rw [show cntI v out - cntI v (us.take i) - 1 = cntI v out - (cntI v (us.take i) + 1) by omega]; exact ih
  ·rw [if_neg c] at ih; simp only [if_neg c]; rw [Int.add_zero] at ih; exact ih
include hl hp hr in
theorem law_l3 (hs : Ev (fun k => order_Sorted.f k ss us) (out, 0, 0)) (v x15 x16 : Int) (q : Nat) (hq : q < us.length) (hnext : us.length ≤ 300 → Ev (fun k => leadtraillaw12_OrderSorted.l2 k us (us ++ [-7]) out x15 x16 us (us.length : Int) ((q + 1 : Nat) : Int) ss) true) : ∀ (n i : Nat), i + n = out.length →
 Ev (fun k => leadtraillaw12_OrderSorted.l3 k us (us ++ [-7]) out x15 x16 v (cntI v (out.take i)) us (us.length : Int) (q : Int) (out.length : Int) (i : Int) ss) true
 | 0, i, hi => by
  rw [List.take_of_length_le (by omega)]; have h4 := law_l4 ss us out hl hp hr hs v x15 x16 q hq hnext us.length 0 (by omega); rw [List.take_zero, show cntI v [] = 0 from rfl, Int.sub_zero] at h4; refine evSucc ?_; simp only [leadtraillaw12_OrderSorted.l3, if_neg (show ¬ (i : Int) < (out.length : Int) by omega)]; exact h4
 | n + 1, i, hi => by
  have hil : i < out.length := by omega
  have hlen := hp.length_eq; have hw := succ_wrap i (by omega); have hrd := rd_get out i hil; have ih := law_l3 hs v x15 x16 q hq hnext n (i + 1) (by omega); rw [take_snoc out i hil, cntI_snoc] at ih; have b2 := cntI_le v (out.take i); have hti : (out.take i).length = i := by rw [List.length_take]; omega
  have hw2 : wrap64 (cntI v (out.take i) + 1) = cntI v (out.take i) + 1 := w64 (by omega) (by omega); refine evSucc ?_; simp only [leadtraillaw12_OrderSorted.l3, if_pos (show (i : Int) < (out.length : Int) by omega), if_pos (show (0 : Int) ≤ (i : Int) by omega), hrd, hw.out, hw2]; by_cases c : out[i] = v
  ·rw [if_pos c] at ih; simp only [if_pos c]; exact ih
  ·rw [if_neg c, Int.add_zero] at ih; simp only [if_neg c]; exact ih
include hl hp hr in
theorem law_l2 (hs : Ev (fun k => order_Sorted.f k ss us) (out, 0, 0)) : ∀ (n i : Nat), i + n = us.length → Ev (fun k => leadtraillaw12_OrderSorted.l2 k us (us ++ [-7]) out (sumI out) (sumI (us.take i)) us (us.length : Int) (i : Int) ss) true
 | 0, i, hi => by
  have hlen := hp.length_eq; rw [List.take_of_length_le (by omega)]; have ht := tail_is ss us out hl hp hs; refine evSucc ?_; simp only [leadtraillaw12_OrderSorted.l2, if_neg (show ¬ (i : Int) < (us.length : Int) by omega), if_pos (sumI_perm hp)]; simp only [if_pos (show (out.length : Int) = (us.length : Int) by omega)] at ht ⊢; by_cases c : (us.length : Int) > 300
  ·simp only [if_pos c]; exact ht
  ·simp only [if_neg c]; exact ht
 | n + 1, i, hi => by
  have hil : i < us.length := by omega
  have hrd := rd_get us i hil; have ih := law_l2 hs n (i + 1) (by omega); rw [take_snoc us i hil, sumI_snoc] at ih; have hru : ∀ u ∈ us, 0 ≤ u ∧ u ≤ 1073741823 := fun u hu => hr u (hp.symm.subset hu)
  have b1 := sumI_range (l := us.take i) (fun u hu => hru u (List.mem_of_mem_take hu)); have b2 := hru _ (List.getElem_mem hil); have hti : (us.take i).length = i := by rw [List.length_take]; omega
  have hw2 : wrap64 (sumI (us.take i) + us[i]) = sumI (us.take i) + us[i] := w64 (by omega) (by omega); have h3 := law_l3 ss us out hl hp hr hs us[i] (sumI out) (sumI (us.take i) + us[i]) i hil (fun _ => ih) out.length 0 (by omega); rw [List.take_zero, show cntI us[i] [] = 0 from rfl] at h3; refine evSucc ?_; simp only [leadtraillaw12_OrderSorted.l2, if_pos (show (i : Int) < (us.length : Int) by omega), if_pos (show (0 : Int) ≤ (i : Int) by omega), hrd, hw2]; exact h3
end
theorem less_of {ss : List Sh} (h : vScheme ss = true) {x y : S55} (hx : encC (cs ss) x.f0 = some x.f1) (hy : encC (cs ss) y.f0 = some y.f1) (hc : sortCoded.cf y x ≤ 0) :
 lexB x.f1 y.f1 = false ∧ ((strOfNums x.f1).toList = (strOfNums y.f1).toList → ¬ x.f0 < y.f0) ∧ (risesB ss = true → ¬ x.f0 < y.f0) := by
 obtain ⟨_, _, ha, hg⟩ := vScheme_facts h; have bx := (enc_range h hx).2.1; have by_ := (enc_range h hy).2.1; have hle := cfU_le.1 hc; have h1 : lexB x.f1 y.f1 = false := by
  rcases hle with hlt | ⟨e, _⟩
  ·rw [cmp_is _ _ by_ bx] at hlt; unfold cmpR at hlt; split at hlt
   ·next h2 => exact lexB_asymm h2
   ·split at hlt <;> omega
  ·rw [bytesOf_inj by_ bx e]; exact lexB_irrefl _
 refine ⟨h1, fun e hlt => ?_, fun hrs hlt => ?_⟩
 ·rw [Lib.strOfNums_toList, Lib.strOfNums_toList] at e; rcases hle with hl | ⟨_, hl⟩
  ·rw [e, cb_refl] at hl; omega
  ·omega
 ·have := rises_lt ha hg ((risesB_iff ss).1 hrs) hx hy hlt; rw [h1] at this; cases this
theorem law_l1 (ss : List Sh) (us : List Int) (ls : List S55) (hI : InS ss) (h : vScheme ss = true) (hl : us.length ≤ 1048576) (hp : (ls.map (fun x => x.f0)).Perm us) (he : ∀ x ∈ ls, encC (cs ss) x.f0 = some x.f1) (hc : ls.Pairwise (fun x y => sortCoded.cf x y ≤ 0)) (hs : Ev (fun k => order_Sorted.f k ss us) (ls.map (fun x => x.f0), 0, 0)) : ∀ (n i : Nat), i + n = ls.length →
 Ev (fun k => leadtraillaw12_OrderSorted.l1 k us (us ++ [-7]) (ls.map (fun x => x.f0)) (risesB ss) (sumI ((ls.map (fun x => x.f0)).take i)) 0 ((ls.map (fun x => x.f0)).length : Int) (i : Int) ss) true
 | 0, i, hi => by
  have hr : ∀ u ∈ ls.map (fun x => x.f0), 0 ≤ u ∧ u ≤ 1073741823 := fun u hu => by
   obtain ⟨x, hx, rfl⟩ := List.mem_map.1 hu; exact (enc_range h (he x hx)).1
  have h2 := law_l2 ss us (ls.map (fun x => x.f0)) hl hp hr hs us.length 0 (by omega); rw [List.take_zero, show sumI [] = 0 from rfl] at h2; rw [List.take_of_length_le (by rw [List.length_map]; omega)]; refine evSucc ?_; simp only [leadtraillaw12_OrderSorted.l1, if_neg (show ¬ (i : Int) < ((ls.map (fun x => x.f0)).length : Int) by rw [List.length_map]; omega)]; exact h2
 | n + 1, i, hi => by
  have hil : i < ls.length := by omega
  have hlen : ls.length = us.length := by have := hp.length_eq; rwa [List.length_map] at this
  have hil2 : i < (ls.map (fun x => x.f0)).length := by rw [List.length_map]; exact hil
  have ih := law_l1 ss us ls hI h hl hp he hc hs n (i + 1) (by omega); have hrd := rd_get (ls.map (fun x => x.f0)) i hil2; have hgi : (ls.map (fun x => x.f0))[i] = ls[i].f0 := by rw [List.getElem_map]
  rw [take_snoc _ i hil2, sumI_snoc, hgi] at ih; rw [hgi] at hrd; have hei := he _ (List.getElem_mem hil); have hri := enc_range h hei; have hO := refOf_is ss ls[i].f0 hI h (i64_small hri.1.1 hri.1.2); rw [hei] at hO; have hw := succ_wrap i (by omega); have b1 := sumI_range (l := (ls.map (fun x => x.f0)).take i) (fun u hu => by
   obtain ⟨x, hx, rfl⟩ := List.mem_map.1 (List.mem_of_mem_take hu); exact (enc_range h (he x hx)).1)
  have hti : ((ls.map (fun x => x.f0)).take i).length = i := by rw [List.length_take]; omega
  have hw2 : wrap64 (sumI ((ls.map (fun x => x.f0)).take i) + ls[i].f0) = sumI ((ls.map (fun x => x.f0)).take i) + ls[i].f0 := w64 (by omega) (by omega); refine evSucc ?_; simp only [leadtraillaw12_OrderSorted.l1, if_pos (show (i : Int) < ((ls.map (fun x => x.f0)).length : Int) by omega), if_pos (show (0 : Int) ≤ (i : Int) by omega), hrd, hw.out, hw2]; refine Ev.bind hO ?_; simp only [ofR, if_true]; by_cases c : (i : Int) > 0
  ·have hj : i - 1 < ls.length := by omega
   have hj2 : i - 1 < (ls.map (fun x => x.f0)).length := by rw [List.length_map]; exact hj
   have hwj : wrap64 ((i : Int) - 1) = ((i - 1 : Nat) : Int) := by rw [w64 (by omega) (by omega)]; omega
   have hrdj := rd_get (ls.map (fun x => x.f0)) (i - 1) hj2; rw [List.getElem_map] at hrdj; have hej := he _ (List.getElem_mem hj); have hrj := enc_range h hej; have hOj := refOf_is ss ls[i - 1].f0 hI h (i64_small hrj.1.1 hrj.1.2); rw [hej] at hOj; have hcf := List.pairwise_iff_getElem.1 hc (i - 1) i hj hil (by omega); obtain ⟨k1, k2, k3⟩ := less_of h hei hej hcf; simp only [if_pos c, hwj, if_pos (show (0 : Int) ≤ ((i - 1 : Nat) : Int) by omega), if_pos (show ((i - 1 : Nat) : Int) < ((ls.map (fun x => x.f0)).length : Int) by omega), hrdj]; refine Ev.bind hOj ?_; simp only [ofR]; refine Ev.bind (Less_is ls[i].f1 ls[i - 1].f1 (by have := hri.2.2.2; omega)) ?_; simp only [k1, Bool.false_eq_true, if_false]; by_cases c1 : (strOfNums ls[i].f1).toList = (strOfNums ls[i - 1].f1).toList
   ·simp only [eq_true c1, if_true, if_neg (k2 c1)]; cases hb : risesB ss <;> rw [hb] at ih <;> simp only [Bool.false_eq_true, if_false, if_true] <;> exact ih
   ·simp only [eq_false c1, if_false]; cases hb : risesB ss
    ·rw [hb] at ih; simp only [Bool.false_eq_true, if_false]; exact ih
    ·rw [hb] at ih; simp only [if_true, if_neg (k3 hb)]; exact ih
  ·simp only [if_neg c]; exact ih
theorem law_l0 (ss : List Sh) (us out : List Int) (x8 : Int) (hl : us.length ≤ 1048576) (hfin : (x8 = 0 → Ev (fun k => (leadtrailref12_Check.f k ss).bind fun bt500 => (leadtraillaw12_OrderSorted.l1 k us (us ++ [-7]) out bt500.1 0 0 (out.length : Int) 0 ss)) true)) : ∀ (n i : Nat), i + n = us.length → Ev (fun k => leadtraillaw12_OrderSorted.l0 k us (us ++ [-7]) out x8 (us.length : Int) (i : Int) ss) true
 | 0, i, hi => by
  refine evSucc ?_; simp only [leadtraillaw12_OrderSorted.l0, if_neg (show ¬ (i : Int) < (us.length : Int) by omega)]; by_cases c : x8 = 0
  ·simp only [if_pos c]; exact hfin c
  ·simp only [if_neg c]; exact evNow _
 | n + 1, i, hi => by
  have hil : i < us.length := by omega
  have hw := succ_wrap i (by omega); have h1 := rd_get us i hil; have h2 : rd (us ++ [-7]) (i : Int) = us[i] := by rw [rd_get (us ++ [-7]) i (by simp; omega), List.getElem_append_left hil]
  have ih := law_l0 ss us out x8 hl hfin n (i + 1) (by omega); refine evSucc ?_; simp only [leadtraillaw12_OrderSorted.l0, if_pos (show (i : Int) < (us.length : Int) by omega), if_pos (show (0 : Int) ≤ (i : Int) by omega), if_pos (show (i : Int) < ((us ++ [-7]).length : Int) by simp; omega), h1, h2, if_true, hw.out]; exact ih
theorem leadtraillaw12_OrderSorted_ev (ss : List Sh) (us : List Int) (hI : InS ss) (hu : ∀ u ∈ us, (Lit.int .i64 u).wf = true) (hl : us.length ≤ 1048576) : Ev (fun k => leadtraillaw12_OrderSorted.f k ss us) true := by
 simp only [leadtraillaw12_OrderSorted.f]; refine Ev.bind fixed12 ?_; simp only [if_true, Option.bind_some, List.nil_append, List.length_nil, if_pos (show 0 + us.length < 17592186044416 by omega), if_pos (show us.length < 17592186044416 by omega)]; refine Ev.bind (CopyS_is ss hI) ?_; have htk : (us ++ [-7]).take ((us.length : Int)).toNat = us := by rw [Int.toNat_natCast, List.take_left']; rfl
 simp only [htk, if_pos (show (0 : Int) ≤ (us.length : Int) by omega), if_pos (show (us.length : Int) ≤ ((us ++ [-7]).length : Int) by simp; omega)]; have ht := refText_is ss us hI hu (by omega); rcases sorted_is ss us hI hu hl with ⟨j, e, he, h1, h2⟩ | ⟨all, ls, tx, h, h1, h2, h3, h4, h5⟩
 ·rw [h2] at ht; refine Ev.bind h1 (Ev.bind ht ?_); simp only [if_true, if_neg he]; refine evSucc ?_; simp only [leadtraillaw12_OrderSorted.j0, List.length_nil, show (((0 : Nat) : Int) != 0) = false from rfl, Bool.false_eq_true, if_false]; exact law_l0 ss us [] e hl (fun c => absurd c he) us.length 0 (by omega)
 ·rw [h5] at ht; obtain ⟨_, hp, hc, _⟩ := sortCoded.merge h3; have hpm : (ls.map (fun x => x.f0)).Perm us := by rw [← h1]; exact hp.map _
  have hel : ∀ x ∈ ls, encC (cs ss) x.f0 = some x.f1 := fun x hx => h2 x (hp.subset hx)
  refine Ev.bind h4 (Ev.bind ht ?_); simp only [if_true]; refine evSucc ?_; simp only [leadtraillaw12_OrderSorted.j0, Bool.false_eq_true, if_false]; refine law_l0 ss us (ls.map (fun x => x.f0)) 0 hl (fun _ => ?_) us.length 0 (by omega); refine Ev.bind (refCheck12_is ss hI) ?_; simp only [if_pos h]; have hfin := law_l1 ss us ls hI h hl hpm hel hc h4 ls.length 0 (by omega); rw [List.take_zero, show sumI [] = 0 from rfl] at hfin; exact hfin
end Go.Proofs.YtobhclnenffkgaaGreat.PBS
namespace Go.Proofs.YtobhclnenffkgaaGreat.Pure
open Go.Proofs.YtobhclnenffkgaaGreat.B Go.Proofs.YtobhclnenffkgaaGreatW.PrintWords
theorem OrderSorted : ∀ (l0_0 : List S48) (l1 : List Int), (l0_0.length * 32 ≤ 140737488351232 ∧ ∀ x ∈ l0_0, ((x.f0.length * 24 ≤ 140737488351232 ∧ ∀ y ∈ x.f0, (y.length * 16 ≤ 140737488351232 ∧ ∀ z ∈ y, ((Lit.int .i64 z.f0).wf = true ∧ (Lit.int .i64 z.f1).wf = true))) ∧ (Lit.int .i64 x.f1).wf = true)) → (l1.length * 8 ≤ 140737488351232 ∧ ∀ x ∈ l1, (Lit.int .i64 x).wf = true) → l1.length ≤ 1048576 → ∃ k, leadtraillaw12_OrderSorted.f k l0_0 l1 = some true :=
 fun l0 l1 h h1 hb => Ev.rounds (PBS.leadtraillaw12_OrderSorted_ev l0 l1 ⟨h.1, fun p hp => ⟨(h.2 p hp).1.1, fun x hx => ((h.2 p hp).1.2 x hx).1⟩⟩ h1.2 hb)
end Go.Proofs.YtobhclnenffkgaaGreat.Pure
end
