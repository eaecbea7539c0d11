/- Words and laws of this claim, of 7 texts. -/
import Derived.Test.YtkcklnmbeinfkaaKoBx11
import Derived.Test.YtkcklnmbeinfkaaKoBx12
import Derived.Test.YtkcklnmbeinfkaaKoBx13
import Derived.Test.YtkcklnmbeinfkaaKoBx14
import Derived.Test.YtkcklnmbeinfkaaKoQP0
import Derived.Test.YtkcklnmbeinfkaaKoBx0
import Derived.Test.YtkcklnmbeinfkaaKoBx3
import Derived.Test.YtkcklnmbeinfkaaKoBx9
import Derived.Test.YtkcklnmbeinfkaaKoBx15
import Derived.Test.YtkcklnmbeinfkaaKoBx22
import Derived.Test.YtkcklnmbeinfkaaKoBx23
import Derived.Test.YtkcklnmbeinfkaaKoBx25
import Derived.Test.YtkcklnmbeinfkaaKoBx26
import Derived.Test.YtkcklnmbeinfkaaKoBx28
import Derived.Test.YtkcklnmbeinfkaaKoBx29
import Derived.Test.YtkcklnmbeinfkaaKoBx30
import Derived.Test.YtkcklnmbeinfkaaKoBx8
import Derived.Test.YtkcklnmbeinfkaaKoBx5
import Derived.Test.YtkcklnmbeinfkaaKoQW1
import Derived.Test.YtkcklnmbeinfkaaKoBx24
import Derived.KernelRfl
section
namespace Go.Proofs.Ytkcklnmbeinfkaa.PBS
open Go.RowKit Go.Proofs.YtkcklnmbeinfkaaW.PrintWords Go.Proofs.YtkcklnmbeinfkaaW.PrintLast Go.Proofs.YtkcklnmbeinfkaaW.PrintMore Go.Proofs.Ytkcklnmbeinfkaa.B Go.Proofs.LT Go.Proofs.Ytkcklnmbeinfkaa.PB3
set_option linter.unusedVariables false
set_option linter.unusedSimpArgs false
theorem copy_loop (ps : List (List Sp)) (a : Int) (hI : In2 ps) : ∀ (n i : Nat), i + n = ps.length → Ev (fun k => leadtrailref08_CopyShape.l0 k (i : Int) ps a (ps.take i) a) (ps, a)
 | 0, i, hi => by
  refine evSucc ?_; simp only [leadtrailref08_CopyShape.l0, if_neg (show ¬ (i : Int) < (ps.length : Int) by omega)]; rw [List.take_of_length_le (by omega)]; exact evNow _
 | n + 1, i, hi => by
  have hil : i < ps.length := by omega
  have ih := copy_loop ps a hI n (i + 1) (by omega); have h1 := hI.2 _ (List.getElem_mem hil); have h2 := hI.1; unfold In1 at h1; have hw : Aside0 (wrap64 ((i : Int) + 1) = ((i + 1 : Nat) : Int)) := Aside0.mk (by rw [w64 (by omega) (by omega)]; rfl); have e : ps.take i ++ [([] : List Sp) ++ ps[i]] = ps.take (i + 1) := by rw [List.nil_append, List.take_succ_eq_append_getElem hil]
  refine evSucc ?_; simp only [leadtrailref08_CopyShape.l0, if_pos (show (i : Int) < (ps.length : Int) by omega), Option.bind_some, if_pos (show (0 : Int) ≤ (i : Int) by omega), rdL_at ps i hil, List.length_nil, if_pos (show 0 + (ps[i]).length < 8796093022208 by omega), if_pos (show (ps.take i).length < 5864062014805 by rw [List.length_take]; omega), hw.out, e]; exact ih
theorem Copy_is (ps : List (List Sp)) (a : Int) (hI : In2 ps) : Ev (fun k => leadtrailref08_CopyShape.f k ps a) (ps, a) := by
 have := copy_loop ps a hI ps.length 0 (by omega); rw [List.take_zero] at this; exact this
theorem refSize_at (p : List Sp) (hp : In1 p) (h : okPart p = true) : Ev (fun k => leadtrailref03_Size.f k p) (size (runs p)) := by
 have := refSize_is p hp; rwa [show p.map L113 = runs p from rfl, setL_of (okPart_good h).1] at this
theorem refCount_loop (ps : List (List Sp)) (a : Int) (hI : In2 ps) (hk : ps.all okPart = true) (hl : ps.length ≤ 8) : ∀ (n i : Nat) (m : Int), i + n = ps.length → 1 ≤ m → m ≤ 1073741825 →
 Ev (fun k => leadtrailref08_Count.l0 k m (i : Int) ps a) (capd m (ps.drop i))
 | 0, i, m, hi, _, _ => by
  refine evSucc ?_; simp only [leadtrailref08_Count.l0, if_neg (show ¬ (i : Int) < (ps.length : Int) by omega)]; rw [List.drop_of_length_le (by omega)]; exact evNow _
 | n + 1, i, m, hi, h0, h1 => by
  have hil : i < ps.length := by omega
  have hp := good_part hk hil; have hs := okPart_good hp; have hz := size_256 hs.1; have hb : 1 ≤ m * size (runs ps[i]) := by have := Int.mul_le_mul h0 hs.2 (by omega) (by omega); omega
  have hc : m * size (runs ps[i]) ≤ 1073741825 * 256 := Int.mul_le_mul h1 hz (by omega) (by omega); have hw : Aside0 (wrap64 (m * size (runs ps[i])) = m * size (runs ps[i])) := Aside0.mk (w64 (by omega) (by omega)); have hw2 : Aside0 (wrap64 ((i : Int) + 1) = ((i + 1 : Nat) : Int)) := Aside0.mk (by rw [w64 (by omega) (by omega)]; rfl); have e : capd m (ps.drop i) = capd (min (m * size (runs ps[i])) 1073741825) (ps.drop (i + 1)) := by rw [List.drop_eq_getElem_cons hil]; rfl
  refine evSucc ?_; simp only [leadtrailref08_Count.l0, if_pos (show (i : Int) < (ps.length : Int) by omega), if_pos (show (0 : Int) ≤ (i : Int) by omega), rdL_at ps i hil]; refine Ev.bind (refSize_at _ (hI.2 _ (List.getElem_mem _)) hp) ?_; simp only [hw.out, hw2.out]; rw [e]; by_cases c : m * size (runs ps[i]) > 1073741824
  ·simp only [if_pos c]; rw [show min (m * size (runs ps[i])) 1073741825 = 1073741825 by omega]; exact refCount_loop ps a hI hk hl n (i + 1) _ (by omega) (by omega) (by omega)
  ·simp only [if_neg c]; rw [show min (m * size (runs ps[i])) 1073741825 = m * size (runs ps[i]) by omega]; exact refCount_loop ps a hI hk hl n (i + 1) _ (by omega) (by omega) (by omega)
theorem refCount8_is (ps : List (List Sp)) (a : Int) (hI : In2 ps) (hk : ps.all okPart = true) (hl : ps.length ≤ 8) : Ev (fun k => leadtrailref08_Count.f k ps a) (min (cnt (sets ps)) 1073741825) := by
 have := refCount_loop ps a hI hk hl ps.length 0 1 (by omega) (by omega) (by omega); rw [List.drop_zero, capd_is ps 1 hk (by omega) (by omega), Int.one_mul] at this; exact this
theorem refVShape_loop (ps : List (List Sp)) (a : Int) (hI : In2 ps) (hl : ps.length ≤ 8) (a0 : 0 ≤ a) (a1 : a ≤ 1073741823) : ∀ (n i : Nat), i + n = ps.length → (ps.take i).all okPart = true →
 Ev (fun k => leadtrailref08_ValidShape.l0 k (i : Int) ps a) (ps.all okPart && decide (a + cnt (sets ps) - 1 ≤ 1073741823))
 | 0, i, hi, hk => by
  rw [List.take_of_length_le (by omega)] at hk; have hc := cnt_pos (good_of hk); refine evSucc ?_; simp only [leadtrailref08_ValidShape.l0, if_neg (show ¬ (i : Int) < (ps.length : Int) by omega)]; refine Ev.bind (refCount8_is ps a hI hk hl) ?_; rw [hk, Bool.true_and, w64 (x := a + min (cnt (sets ps)) 1073741825) (by omega) (by omega), w64 (by omega) (by omega), show decide (a + min (cnt (sets ps)) 1073741825 - 1 ≤ 1073741823) = decide (a + cnt (sets ps) - 1 ≤ 1073741823) from decide_eq_decide.2 (by omega)]; exact evNow _
 | n + 1, i, hi, hk => by
  have hil : i < ps.length := by omega
  have hw2 : Aside0 (wrap64 ((i : Int) + 1) = ((i + 1 : Nat) : Int)) := Aside0.mk (by rw [w64 (by omega) (by omega)]; rfl); have hbad : okPart ps[i] = false → ps.all okPart = false := fun h => by
   cases q : ps.all okPart
   ·rfl
   ·rw [good_part q hil] at h; cases h
  refine evSucc ?_; simp only [leadtrailref08_ValidShape.l0, if_pos (show (i : Int) < (ps.length : Int) by omega), if_pos (show (0 : Int) ≤ (i : Int) by omega), rdL_at ps i hil]; by_cases c : ((ps[i]).length : Int) = 0
  ·simp only [if_pos c]; rw [hbad (by simp only [okPart, decide_eq_true (show (ps[i]).length = 0 by omega)]; rfl), Bool.false_and]; exact evNow _
  ·simp only [if_neg c]; have e : okPart ps[i] = validB 255 (-2) (runs ps[i]) := by simp only [okPart, decide_eq_false (show ¬ (ps[i]).length = 0 by omega)]; rfl
   refine Ev.bind (refValid_is ps[i] (hI.2 _ (List.getElem_mem _))) ?_; rw [show (ps[i]).map L113 = runs ps[i] from rfl, ← e]; cases q : okPart ps[i]
   ·simp only [Bool.false_eq_true, if_false]; rw [hbad q, Bool.false_and]; exact evNow _
   ·simp only [if_true, hw2.out]; refine refVShape_loop ps a hI hl a0 a1 n (i + 1) (by omega) ?_; rw [List.take_succ_eq_append_getElem hil, List.all_append, hk]; simp [q]
theorem refVShape_is (ps : List (List Sp)) (a : Int) (hI : In2 ps) : Ev (fun k => leadtrailref08_ValidShape.f k ps a) (vShape ps a) := by
 have jT : Ev (fun k => leadtrailref08_ValidShape.j0 k true ps a) false := by
  refine evSucc ?_; simp only [leadtrailref08_ValidShape.j0, if_true]; exact evNow _
 simp only [leadtrailref08_ValidShape.f]; by_cases c1 : (ps.length : Int) < 1
 ·simp only [if_pos c1, vShape, decide_eq_false (show ¬ (1 ≤ ps.length ∧ ps.length ≤ 8) by omega), Bool.false_and]; exact jT
 by_cases c2 : (ps.length : Int) > 8
 ·simp only [if_neg c1, if_pos c2, vShape, decide_eq_false (show ¬ (1 ≤ ps.length ∧ ps.length ≤ 8) by omega), Bool.false_and]; exact jT
 simp only [if_neg c1, if_neg c2, vShape, decide_eq_true (show 1 ≤ ps.length ∧ ps.length ≤ 8 by omega), Bool.true_and]; by_cases c3 : a < 0
 ·simp only [if_pos c3, decide_eq_false (show ¬ (0 ≤ a ∧ a ≤ 1073741823) by omega), Bool.false_and]; exact jT
 by_cases c4 : a > 1073741823
 ·simp only [if_neg c3, decide_eq_true c4, decide_eq_false (show ¬ (0 ≤ a ∧ a ≤ 1073741823) by omega), Bool.false_and]; exact jT
 simp only [if_neg c3, decide_eq_false c4, decide_eq_true (show 0 ≤ a ∧ a ≤ 1073741823 by omega), Bool.true_and]; refine evSucc ?_; simp only [leadtrailref08_ValidShape.j0, Bool.false_eq_true, if_false]; exact refVShape_loop ps a hI (by omega) (by omega) (by omega) ps.length 0 (by omega) rfl
theorem refCount_is (ps : List (List Sp)) (a : Int) (hI : In2 ps) : Ev (fun k => leadtrailref09_Count.f k ps a) (if vShape ps a = true then cnt (sets ps) else 0) := by
 simp only [leadtrailref09_Count.f]; refine Ev.bind (refVShape_is ps a hI) ?_; cases hv : vShape ps a
 ·simp only [Bool.false_eq_true, if_false]; exact evNow _
 ·simp only [if_true]; obtain ⟨⟨l1, l2⟩, ⟨a1, a2⟩, hk, hg, hc⟩ := vShape_good hv; have := refCount8_is ps a hI hk l2; rw [show min (cnt (sets ps)) 1073741825 = cnt (sets ps) by omega] at this; exact Ev.bind this (evNow _)
theorem rd_get (l : List Int) (i : Nat) (h : i < l.length) : rd l (i : Int) = l[i] := rd_at l i _ (List.getElem?_eq_getElem h)
end Go.Proofs.Ytkcklnmbeinfkaa.PBS
end
section
namespace Go.Proofs.Ytkcklnmbeinfkaa.PBS
open Go.RowKit Go.Proofs.YtkcklnmbeinfkaaW.PrintWords Go.Proofs.YtkcklnmbeinfkaaW.PrintLast Go.Proofs.YtkcklnmbeinfkaaW.PrintMore Go.Proofs.Ytkcklnmbeinfkaa.B Go.Proofs.LT Go.Proofs.Ytkcklnmbeinfkaa.PB3
set_option linter.unusedVariables false
set_option linter.unusedSimpArgs false
noncomputable def cntS (ps : List (List Sp)) (a : Int) : Int := if vShape ps a = true then cnt (sets ps) else 0
noncomputable def okB (ps : List (List Sp)) (a k : Int) : Bool := decide (0 ≤ k ∧ k < cntS ps a)
noncomputable def unS (ps : List (List Sp)) (a k : Int) : List Int := if okB ps a k = true then unr (sets ps) k else []
theorem okB_of {ps : List (List Sp)} {a k : Int} (h : okB ps a k = true) : vShape ps a = true ∧ 0 ≤ k ∧ k < cnt (sets ps) := by
 have h := of_decide_eq_true h; by_cases hv : vShape ps a = true
 ·have e : cntS ps a = cnt (sets ps) := if_pos hv; exact ⟨hv, h.1, by omega⟩
 ·have e : cntS ps a = 0 := if_neg hv; omega
theorem Unrank_is (ps : List (List Sp)) (a k : Int) (hI : In2 ps) : Ev (fun n => shape_Unrank.f n ps a k) (unS ps a k, okB ps a k) := by
 cases h : okB ps a k
 ·have := Unrank_no ps a k hI (of_decide_eq_false h); simpa [unS, h] using this
 ·obtain ⟨hv, h0, h1⟩ := okB_of h; have := Unrank_yes hI hv h0 h1; simpa [unS, h] using this
end Go.Proofs.Ytkcklnmbeinfkaa.PBS
namespace Go.Proofs.Ytkcklnmbeinfkaa.Pure
open Go.Proofs.Ytkcklnmbeinfkaa.B Go.Proofs.YtkcklnmbeinfkaaW.PrintWords
end Go.Proofs.Ytkcklnmbeinfkaa.Pure
end
section
namespace Go.Proofs.Ytkcklnmbeinfkaa.PBS
open Go.RowKit Go.Proofs.YtkcklnmbeinfkaaW.PrintWords Go.Proofs.YtkcklnmbeinfkaaW.PrintLast Go.Proofs.YtkcklnmbeinfkaaW.PrintMore Go.Proofs.Ytkcklnmbeinfkaa.B Go.Proofs.LT Go.Proofs.Ytkcklnmbeinfkaa.PB3
set_option linter.unusedVariables false
set_option linter.unusedSimpArgs false
theorem div_mod_mul {k n c : Int} (hc : 0 < c) (hn : 0 < n) : k / (n * c) = k / c / n ∧ k % (n * c) = (k / c % n) * c + k % c := by
 have h1 := Int.emod_nonneg k (show c ≠ 0 by omega); have h2 := Int.emod_lt_of_pos k hc; have h3 := Int.emod_nonneg (k / c) (show n ≠ 0 by omega); have h4 := Int.emod_lt_of_pos (k / c) hn; have e1 := Int.ediv_mul_add_emod k c; have e2 := Int.ediv_mul_add_emod (k / c) n; have m0 := Int.mul_nonneg h3 (show 0 ≤ c by omega); have m1 := Int.mul_le_mul_of_nonneg_right (show k / c % n + 1 ≤ n by omega) (show 0 ≤ c by omega); rw [Int.add_mul, Int.one_mul] at m1; refine (Int.ediv_emod_unique (Int.mul_pos hn hc)).2 ⟨?_, by omega, by omega⟩; have e3 : n * c * (k / c / n) = k / c / n * n * c := by rw [Int.mul_comm, Int.mul_assoc]
 rw [e3]; have e4 : k / c * c = (k / c / n * n + k / c % n) * c := by rw [e2]
 rw [Int.add_mul] at e4; omega
theorem refSelect_at (p : List Sp) (d : Int) (hi : In1 p) (hk : okPart p = true) (h0 : 0 ≤ d) (h1 : d < size (runs p)) : Ev (fun k => leadtrailref03_Select.f k p d) (selV (runs p) d, true) := by
 have hs := okPart_good hk; obtain ⟨r, r1, r2⟩ := refSelect_is p d hi; rw [show p.map L113 = runs p from rfl, setL_of hs.1] at r2; have hS := selV_spec hs.1 h0 h1; obtain rfl := Sel.uniq hs.1 r2 (.inl ⟨_, hS.1, hS.2, rfl⟩); exact r1
theorem refUnrank_loop (ps : List (List Sp)) (a K : Int) (hI : In2 ps) (hk : ps.all okPart = true) (hl : ps.length ≤ 8) (hc : cnt (sets ps) ≤ 1073741824) (k0 : 0 ≤ K) (k1 : K < cnt (sets ps)) : ∀ (i : Nat), i ≤ ps.length →
 Ev (fun k => leadtrailref09_Unrank.l0 k (K / cnt (sets (ps.drop i))) ((i : Int) - 1) (List.replicate i 0 ++ unr (sets (ps.drop i)) (K % cnt (sets (ps.drop i)))) ps a) (unr (sets ps) K, true)
 | 0, _ => by
  refine evSucc ?_; rw [List.drop_zero, Int.emod_eq_of_lt k0 k1]; simp only [leadtrailref09_Unrank.l0, if_neg (show ¬ (((0 : Nat) : Int) - 1 ≥ 0) by omega)]; simpa using evNow (unr (sets ps) K, true)
 | i + 1, hi => by
  have hil : i < ps.length := by omega
  have ih := refUnrank_loop ps a K hI hk hl hc k0 k1 i (by omega); have hg := good_of hk; have hp := good_part hk hil; have hs := okPart_good hp; have hz := size_256 hs.1; have hpos : 1 ≤ cnt (sets (ps.drop (i + 1))) := by have := cnt_pos (hg.drop (i + 1)); rwa [sets_drop] at this
  have hcs := cnt_step ps i hil; obtain ⟨e1, e2⟩ := div_mod_mul (k := K) (show 0 < cnt (sets (ps.drop (i + 1))) by omega) (show 0 < size (runs ps[i]) by omega); rw [← hcs] at e1 e2; have q0 : 0 ≤ K / cnt (sets (ps.drop (i + 1))) := Int.ediv_nonneg k0 (by omega); have q1 : K / cnt (sets (ps.drop (i + 1))) ≤ K := Int.ediv_le_self _ k0; have d0 := Int.emod_nonneg (K / cnt (sets (ps.drop (i + 1)))) (show size (runs ps[i]) ≠ 0 by omega); have d1 := Int.emod_lt_of_pos (K / cnt (sets (ps.drop (i + 1)))) (show 0 < size (runs ps[i]) by omega); have r0 := Int.emod_nonneg K (show cnt (sets (ps.drop (i + 1))) ≠ 0 by omega); have r1 := Int.emod_lt_of_pos K (show 0 < cnt (sets (ps.drop (i + 1))) by omega); have hr := hs.1.range (selV_spec hs.1 d0 d1).1; have t1 : Int.tdiv (K / cnt (sets (ps.drop (i + 1)))) (size (runs ps[i])) = K / cnt (sets (ps.drop i)) := by rw [Int.tdiv_eq_ediv_of_nonneg q0, e1]
  have t2 : Int.tmod (K / cnt (sets (ps.drop (i + 1)))) (size (runs ps[i])) = K / cnt (sets (ps.drop (i + 1))) % size (runs ps[i]) := Int.tmod_eq_emod_of_nonneg q0; have q3 : 0 ≤ K / cnt (sets (ps.drop i)) := by rw [e1]; exact Int.ediv_nonneg q0 (by omega)
  have q4 : K / cnt (sets (ps.drop i)) ≤ K := by rw [e1]; exact Int.le_trans (Int.ediv_le_self _ q0) q1
  have hw : Aside0 (wrap64 (K / cnt (sets (ps.drop i))) = K / cnt (sets (ps.drop i))) := Aside0.mk (w64 (by omega) (by omega)); have hw2 : Aside0 (wrap64 ((i : Int) - 1) = (i : Int) - 1) := Aside0.mk (w64 (by omega) (by omega)); have hm : selV (runs ps[i]) (K / cnt (sets (ps.drop (i + 1))) % size (runs ps[i])) % 256 = selV (runs ps[i]) (K / cnt (sets (ps.drop (i + 1))) % size (runs ps[i])) := Int.emod_eq_of_lt hr.1 (by omega); have hlen : ((List.replicate (i + 1) (0 : Int) ++ unr (sets (ps.drop (i + 1))) (K % cnt (sets (ps.drop (i + 1))))).length : Nat) = ps.length := by
   rw [List.length_append, List.length_replicate, unr_len, sets_len, List.length_drop]; omega
  have eu : unr (sets (ps.drop i)) (K % cnt (sets (ps.drop i))) = selV (runs ps[i]) (K / cnt (sets (ps.drop (i + 1))) % size (runs ps[i])) :: unr (sets (ps.drop (i + 1))) (K % cnt (sets (ps.drop (i + 1)))) := by
   have e3 : (K % cnt (sets (ps.drop i))) / cnt (sets (ps.drop (i + 1))) = K / cnt (sets (ps.drop (i + 1))) % size (runs ps[i]) := by
    rw [e2, Int.add_comm, Int.add_mul_ediv_right _ _ (by omega), Int.ediv_eq_zero_of_lt r0 r1]; omega
   have e4 : (K % cnt (sets (ps.drop i))) % cnt (sets (ps.drop (i + 1))) = K % cnt (sets (ps.drop (i + 1))) := by
    rw [e2, Int.add_comm, Int.add_mul_emod_self_right, Int.emod_eq_of_lt r0 r1]
   rw [← e3, ← e4]; rw [List.drop_eq_getElem_cons hil]; exact unr_cons _ _ _
  refine evSucc ?_; rw [show (((i + 1 : Nat) : Int) - 1) = (i : Int) by omega]; simp only [leadtrailref09_Unrank.l0, if_pos (show (i : Int) ≥ 0 by omega), if_pos (show (0 : Int) ≤ (i : Int) by omega), if_pos (show (i : Int) < ((ps.length : Nat) : Int) by omega), rdL_at ps i hil]; refine Ev.bind (refSize_at _ (hI.2 _ (List.getElem_mem _)) hp) ?_; simp only [if_neg (show ¬ size (runs ps[i]) = 0 by omega)]; simp only [t1, t2]; refine Ev.bind (refSelect_at _ _ (hI.2 _ (List.getElem_mem _)) hp d0 d1) ?_; simp only [hlen, if_pos (show (i : Int) < ((ps.length : Nat) : Int) by omega), hw.out, hw2.out, hm, Int.toNat_natCast, set_mid]; rw [← eu]; exact ih
theorem refUnrank_is (ps : List (List Sp)) (a k : Int) (hI : In2 ps) : Ev (fun n => leadtrailref09_Unrank.f n ps a k) (unS ps a k, okB ps a k) := by
 have jT : Ev (fun n => leadtrailref09_Unrank.j0 n k true ps a) ([], false) := by
  refine evSucc ?_; simp only [leadtrailref09_Unrank.j0, if_true]; exact evNow _
 have no : okB ps a k = false → (unS ps a k, okB ps a k) = ([], false) := fun h => by rw [h]; unfold unS; rw [h]; rfl
 simp only [leadtrailref09_Unrank.f]; by_cases c : k < 0
 ·simp only [if_pos c]; rw [no (decide_eq_false (by omega))]; exact jT
 ·simp only [if_neg c]; refine Ev.bind (show Ev _ (cntS ps a) from refCount_is ps a hI) ?_; cases h : okB ps a k
  ·have := of_decide_eq_false h; rw [decide_eq_true (show k ≥ cntS ps a by omega)]; have e := no h; rw [h] at e; rw [e]; exact jT
  ·obtain ⟨hv, h0, h1⟩ := okB_of h; have h2 : 0 ≤ k ∧ k < cntS ps a := of_decide_eq_true h; obtain ⟨⟨l1, l2⟩, ⟨a1, a2⟩, hk, hg, hc⟩ := vShape_good hv; rw [decide_eq_false (show ¬ k ≥ cntS ps a by omega)]; refine evSucc ?_; have := refUnrank_loop ps a k hI hk l2 (by omega) h0 h1 ps.length (Nat.le_refl _); rw [List.drop_length, show cnt (sets []) = 1 from cnt_nil, Int.ediv_one, show unr (sets []) (k % 1) = [] from unr_nil _, List.append_nil] at this; have hw2 : Aside0 (wrap64 ((ps.length : Int) - 1) = (ps.length : Int) - 1) := Aside0.mk (w64 (by omega) (by omega)); simp only [leadtrailref09_Unrank.j0, Bool.false_eq_true, if_false, if_pos (show (0 : Int) ≤ ((ps.length : Nat) : Int) by omega), Int.toNat_natCast, if_pos (show ps.length ≤ 281474976710656 by omega), Option.bind_some, List.length_replicate, hw2.out]; unfold unS; simp only [h, if_true]; exact this
end Go.Proofs.Ytkcklnmbeinfkaa.PBS
end
section
namespace Go.Proofs.Ytkcklnmbeinfkaa.PBS
open Go.RowKit Go.Proofs.YtkcklnmbeinfkaaW.PrintWords Go.Proofs.YtkcklnmbeinfkaaW.PrintLast Go.Proofs.YtkcklnmbeinfkaaW.PrintMore Go.Proofs.Ytkcklnmbeinfkaa.B Go.Proofs.LT Go.Proofs.Ytkcklnmbeinfkaa.PB3
set_option linter.unusedVariables false
set_option linter.unusedSimpArgs false
def C (p : Sh) : Cs := (sets p.f0, p.f1)
def cs (ss : List Sh) : List Cs := ss.map C
theorem last_C (p : Sh) : lastC (C p) = lastOf p := rfl
theorem vS_facts : ∀ (t pre : List Sh), vS pre t = true → (∀ p ∈ t, vShape p.f0 p.f1 = true) ∧ (∀ q ∈ pre, ∀ p ∈ t, meetsB p q = false) ∧ Apart (cs t)
 | [], _, _ => ⟨fun _ h => (by cases h), fun _ _ _ h => (by cases h), trivial⟩
 | p :: t, pre, h => by
  have h' : (vShape p.f0 p.f1 && (!(pre.any (meetsB p)) && vS (pre ++ [p]) t)) = true := h; simp only [Bool.and_eq_true, Bool.not_eq_true'] at h'; obtain ⟨h1, h2, h3⟩ := h'; obtain ⟨k1, k2, k3⟩ := vS_facts t (pre ++ [p]) h3; refine ⟨fun q hq => ?_, fun q hq r hr => ?_, fun r hr => ?_, k3⟩
  ·rcases List.mem_cons.1 hq with rfl | hq
   ·exact h1
   ·exact k1 q hq
  ·rcases List.mem_cons.1 hr with rfl | hr
   ·cases e : meetsB r q
    ·rfl
    ·rw [List.any_eq_true.2 ⟨q, hq, e⟩] at h2; cases h2
   ·exact k2 q (List.mem_append_left _ hq) r hr
  ·obtain ⟨q, hq, rfl⟩ := List.mem_map.1 hr; have e := k2 p (List.mem_append_right _ (List.mem_singleton.2 rfl)) q hq; simp only [meetsB, Bool.and_eq_false_iff, decide_eq_false_iff_not] at e; rw [last_C, last_C]; show lastOf p < q.f1 ∨ lastOf q < p.f1; omega
theorem vScheme_facts {ss : List Sh} (h : vScheme ss = true) : ss.length ≤ 32 ∧ (∀ p ∈ ss, vShape p.f0 p.f1 = true) ∧ Apart (cs ss) ∧ AllGood (cs ss) := by
 simp only [vScheme, Bool.and_eq_true, decide_eq_true_eq] at h; obtain ⟨k1, k2, k3⟩ := vS_facts ss [] h.2; refine ⟨h.1, k1, k3, fun p hp => ?_⟩; obtain ⟨q, hq, rfl⟩ := List.mem_map.1 hp; exact (vShape_good (k1 q hq)).2.2.2.1
theorem rdSh_at (ss : List Sh) (i : Nat) (h : i < ss.length) : rd_T50 ss (i : Int) = ss[i] := by simp [rd_T50, List.getD, h]
theorem succ_wrap (i : Nat) (h : i ≤ 4611686018427387904) : Aside0 (wrap64 ((i : Int) + 1) = ((i + 1 : Nat) : Int)) := Aside0.mk (by rw [w64 (by omega) (by omega)]; simp)
theorem refMeet_loop (ss : List Sh) (hI : InS ss) (i : Nat) (hi : i < ss.length) (hs : ss.length ≤ 32) (hv : ∀ p ∈ ss.take (i + 1), vShape p.f0 p.f1 = true) : ∀ (n j : Nat), j + n = i → ((ss.take j).any (meetsB ss[i]) = false) →
 Ev (fun k => leadtrailref08_meet.l0 k ss (i : Int) (j : Int)) ((ss.take i).any (meetsB ss[i]))
 | 0, j, hj, hno => by
  refine evSucc ?_; obtain rfl : j = i := by omega
  simp only [leadtrailref08_meet.l0, if_neg (show ¬ (j : Int) < (j : Int) by omega)]; rw [hno]; exact evNow _
 | n + 1, j, hj, hno => by
  have hjl : j < ss.length := by omega
  have vi := vShape_good (hv ss[i] (by rw [List.take_succ_eq_append_getElem hi]; exact List.mem_append_right _ (List.mem_singleton.2 rfl))); have vj := vShape_good (hv ss[j] (by
   have : (ss.take (i + 1))[j]'(by simp; omega) = ss[j] := List.getElem_take ..; rw [← this]; exact List.getElem_mem _))
  have pi := cnt_pos vi.2.2.2.1; have pj := cnt_pos vj.2.2.2.1; have ci := refCount8_is ss[i].f0 ss[i].f1 (hI.2 _ (List.getElem_mem _)) vi.2.2.1 vi.1.2; have cj := refCount8_is ss[j].f0 ss[j].f1 (hI.2 _ (List.getElem_mem _)) vj.2.2.1 vj.1.2; rw [show min (cnt (sets ss[i].f0)) 1073741825 = cnt (sets ss[i].f0) by omega] at ci; rw [show min (cnt (sets ss[j].f0)) 1073741825 = cnt (sets ss[j].f0) by omega] at cj; have hw := succ_wrap j (by omega); have wi : Aside0 (wrap64 (wrap64 (ss[i].f1 + cnt (sets ss[i].f0)) - 1) = lastOf ss[i]) := Aside0.mk (by rw [w64 (x := ss[i].f1 + cnt (sets ss[i].f0)) (by omega) (by omega), w64 (by omega) (by omega)]; rfl); have wj : Aside0 (wrap64 (wrap64 (ss[j].f1 + cnt (sets ss[j].f0)) - 1) = lastOf ss[j]) := Aside0.mk (by rw [w64 (x := ss[j].f1 + cnt (sets ss[j].f0)) (by omega) (by omega), w64 (by omega) (by omega)]; rfl); have yes : meetsB ss[i] ss[j] = true → (ss.take i).any (meetsB ss[i]) = true := fun h => by
   refine List.any_eq_true.2 ⟨ss[j], ?_, h⟩; have : (ss.take i)[j]'(by simp; omega) = ss[j] := List.getElem_take ..; rw [← this]; exact List.getElem_mem _
  have next : meetsB ss[i] ss[j] = false → Ev (fun k => leadtrailref08_meet.l0 k ss (i : Int) (wrap64 ((j : Int) + 1))) ((ss.take i).any (meetsB ss[i])) := fun h => by
   rw [hw.out]; refine refMeet_loop ss hI i hi hs hv n (j + 1) (by omega) ?_; rw [List.take_succ_eq_append_getElem hjl, List.any_append, hno]; simp [h]
  refine evSucc ?_; simp only [leadtrailref08_meet.l0, if_pos (show (j : Int) < (i : Int) by omega), if_pos (show (0 : Int) ≤ (i : Int) by omega), if_pos (show (i : Int) < (ss.length : Int) by omega), if_pos (show (0 : Int) ≤ (j : Int) by omega), if_pos (show (j : Int) < (ss.length : Int) by omega), rdSh_at ss i hi, rdSh_at ss j hjl]; refine Ev.bind cj ?_; simp only [wj.out]; by_cases c1 : ss[i].f1 ≤ lastOf ss[j]
  ·simp only [if_pos c1]; refine Ev.bind ci ?_; simp only [wi.out]; by_cases c2 : ss[j].f1 ≤ lastOf ss[i]
   ·simp only [if_pos c2]; rw [yes (by simp only [meetsB, decide_eq_true c1, decide_eq_true c2]; rfl)]; exact evNow _
   ·simp only [if_neg c2]; exact next (by simp only [meetsB, decide_eq_false c2, Bool.and_false])
  ·simp only [if_neg c1]; exact next (by simp only [meetsB, decide_eq_false c1, Bool.false_and])
theorem refValid_loop8 (ss : List Sh) (hI : InS ss) (hs : ss.length ≤ 32) : ∀ (n i : Nat), i + n = ss.length → (∀ p ∈ ss.take i, vShape p.f0 p.f1 = true) →
 Ev (fun k => leadtrailref08_Valid.l0 k (i : Int) ss) (vS (ss.take i) (ss.drop i))
 | 0, i, hi, hv => by
  refine evSucc ?_; simp only [leadtrailref08_Valid.l0, if_neg (show ¬ (i : Int) < (ss.length : Int) by omega)]; rw [List.drop_of_length_le (by omega)]; exact evNow _
 | n + 1, i, hi, hv => by
  have hil : i < ss.length := by omega
  have hw := succ_wrap i (by omega); have e : vS (ss.take i) (ss.drop i) = (vShape ss[i].f0 ss[i].f1 && (!((ss.take i).any (meetsB ss[i])) && vS (ss.take (i + 1)) (ss.drop (i + 1)))) := by
   rw [List.drop_eq_getElem_cons hil, List.take_succ_eq_append_getElem hil]; rfl
  rw [e]; refine evSucc ?_; simp only [leadtrailref08_Valid.l0, if_pos (show (i : Int) < (ss.length : Int) by omega), if_pos (show (0 : Int) ≤ (i : Int) by omega), rdSh_at ss i hil]; refine Ev.bind (refVShape_is _ _ (hI.2 _ (List.getElem_mem _))) ?_; cases hp : vShape ss[i].f0 ss[i].f1
  ·simp only [Bool.false_eq_true, if_false, Bool.false_and]; exact evNow _
  ·simp only [if_true, Bool.true_and]; have hv' : ∀ p ∈ ss.take (i + 1), vShape p.f0 p.f1 = true := fun p hq => by
    rw [List.take_succ_eq_append_getElem hil] at hq; rcases List.mem_append.1 hq with h | h
    ·exact hv p h
    ·rw [List.mem_singleton.1 h]; exact hp
   have hm := refMeet_loop ss hI i hil hs hv' i 0 (by omega) (by simp); refine Ev.bind (show Ev (fun k => leadtrailref08_meet.f k ss (i : Int)) _ from hm) ?_; cases hq : (ss.take i).any (meetsB ss[i])
   ·simp only [Bool.false_eq_true, if_false, Bool.not_false, Bool.true_and, hw.out]; exact refValid_loop8 ss hI hs n (i + 1) (by omega) hv'
   ·simp only [if_true, Bool.not_true, Bool.false_and]; exact evNow _
theorem refValid8_is (ss : List Sh) (hI : InS ss) : Ev (fun k => leadtrailref08_Valid.f k ss) (vScheme ss) := by
 simp only [leadtrailref08_Valid.f]; by_cases c : (ss.length : Int) > 32
 ·simp only [if_pos c]; rw [show vScheme ss = false by simp only [vScheme, decide_eq_false (show ¬ ss.length ≤ 32 by omega), Bool.false_and]]; exact evNow _
 ·simp only [if_neg c]; rw [show vScheme ss = vS [] ss by simp only [vScheme, decide_eq_true (show ss.length ≤ 32 by omega), Bool.true_and]]; simpa using refValid_loop8 ss hI (by omega) ss.length 0 (by omega) (by simp)
theorem copyS_loop (ss : List Sh) (hI : InS ss) : ∀ (n i : Nat), i + n = ss.length → Ev (fun k => leadtrailref08_Copy.l0 k (i : Int) ss (ss.take i)) ss
 | 0, i, hi => by
  refine evSucc ?_; simp only [leadtrailref08_Copy.l0, if_neg (show ¬ (i : Int) < (ss.length : Int) by omega)]; rw [List.take_of_length_le (by omega)]; exact evNow _
 | n + 1, i, hi => by
  have hil : i < ss.length := by omega
  have h2 := hI.1; have hw := succ_wrap i (by omega); have ih := copyS_loop ss hI n (i + 1) (by omega); rw [List.take_succ_eq_append_getElem hil] at ih; refine evSucc ?_; simp only [leadtrailref08_Copy.l0, if_pos (show (i : Int) < (ss.length : Int) by omega), if_pos (show (0 : Int) ≤ (i : Int) by omega), rdSh_at ss i hil]; refine Ev.bind (Copy_is _ _ (hI.2 _ (List.getElem_mem _))) ?_; simp only [if_pos (show (ss.take i).length < 4398046511104 by rw [List.length_take]; omega), hw.out]; exact ih
theorem CopyS_is (ss : List Sh) (hI : InS ss) : Ev (fun k => leadtrailref08_Copy.f k ss) ss := by
 have := copyS_loop ss hI ss.length 0 (by omega); rw [List.take_zero] at this; exact this
theorem okB_hit {ps : List (List Sp)} {a u : Int} (hv : vShape ps a = true) : okB ps a (u - a) = hitC u (sets ps, a) := by
 unfold okB hitC cntS; rw [if_pos hv, Bool.eq_iff_iff, decide_eq_true_iff, Bool.and_eq_true, decide_eq_true_iff, decide_eq_true_iff]; show 0 ≤ u - a ∧ _ ↔ a ≤ u ∧ _; constructor <;> rintro ⟨h1, h2⟩ <;> exact ⟨by omega, h2⟩
theorem encC_cons (p : Cs) (t : List Cs) (u : Int) : encC (p :: t) u = if hitC u p = true then some (unr p.1 (u - p.2)) else encC t u := rfl
theorem cs_drop (ss : List Sh) (i : Nat) (h : i < ss.length) : cs (ss.drop i) = C ss[i] :: cs (ss.drop (i + 1)) := by rw [List.drop_eq_getElem_cons h]; rfl
theorem wf_range {x : Int} (h : (Lit.int .i64 x).wf = true) : -9223372036854775808 ≤ x ∧ x ≤ 9223372036854775807 := by
 simp [Lit.wf] at h; exact ⟨h.1, h.2⟩
theorem encode_loop (ss : List Sh) (u : Int) (hI : InS ss) (hs : ss.length ≤ 32) (hv : ∀ p ∈ ss, vShape p.f0 p.f1 = true) (hu : (Lit.int .i64 u).wf = true) : ∀ (n i : Nat), i + n = ss.length →
 Ev (fun k => code_encode.l0 k u ss (ss.length : Int) (i : Int)) ((encC (cs (ss.drop i)) u).getD [])
 | 0, i, hi => by
  refine evSucc ?_; simp only [code_encode.l0, if_neg (show ¬ (i : Int) < (ss.length : Int) by omega)]; rw [List.drop_of_length_le (by omega)]; exact evNow _
 | n + 1, i, hi => by
  have hil : i < ss.length := by omega
  have hw := succ_wrap i (by omega); have hur := wf_range hu; have vi := hv _ (List.getElem_mem hil); have vg := vShape_good vi; have ih := encode_loop ss u hI hs hv hu n (i + 1) (by omega); rw [cs_drop ss i hil, encC_cons]; refine evSucc ?_; simp only [code_encode.l0, if_pos (show (i : Int) < (ss.length : Int) by omega), if_pos (show (0 : Int) ≤ (i : Int) by omega), rdSh_at ss i hil, hw.out]; by_cases c : u < ss[i].f1
  ·simp only [if_pos c, if_neg (show ¬ hitC u (C ss[i]) = true by rw [hitC_iff]; show ¬ (ss[i].f1 ≤ u ∧ _); omega)]; exact ih
  ·have w1 : Aside0 (wrap64 (u - ss[i].f1) = u - ss[i].f1) := Aside0.mk (w64 (by omega) (by omega)); simp only [if_neg c, w1.out]; refine Ev.bind (Unrank_is _ _ _ (hI.2 _ (List.getElem_mem _))) ?_; have e := okB_hit (u := u) vi; rw [show (sets ss[i].f0, ss[i].f1) = C ss[i] from rfl] at e; simp only [unS, e]; cases h : hitC u (C ss[i])
   ·simp only [Bool.false_eq_true, if_false]; exact ih
   ·have hlen : ¬ (unr (sets ss[i].f0) (u - ss[i].f1)).length = 0 := by rw [unr_len, sets_len]; have := vg.1; omega
    simp only [if_true, if_neg hlen]; exact evNow _
theorem encode_is (ss : List Sh) (u : Int) (hI : InS ss) (h : vScheme ss = true) (hu : (Lit.int .i64 u).wf = true) : Ev (fun k => code_encode.f k ss u) ((encC (cs ss) u).getD []) := by
 obtain ⟨h1, h2, _⟩ := vScheme_facts h; have := encode_loop ss u hI h1 h2 hu ss.length 0 (by omega); rw [List.drop_zero] at this; exact this
theorem find_loop (ss : List Sh) (u : Int) (hI : InS ss) (hs : ss.length ≤ 32) (hv : ∀ p ∈ ss, vShape p.f0 p.f1 = true) : ∀ (n i : Nat), i + n = ss.length →
 ∃ r, Ev (fun k => leadtrailref10_Find.l0 k u (i : Int) ss) r ∧ ((r = -1 ∧ encC (cs (ss.drop i)) u = none) ∨ ∃ (j : Nat) (hj : j < ss.length), r = (j : Int) ∧ hitC u (C ss[j]) = true ∧ encC (cs (ss.drop i)) u = some (unr (sets ss[j].f0) (u - ss[j].f1)))
 | 0, i, hi => by
  refine ⟨-1, evSucc ?_, .inl ⟨rfl, by rw [List.drop_of_length_le (by omega)]; rfl⟩⟩; simp only [leadtrailref10_Find.l0, if_neg (show ¬ (i : Int) < (ss.length : Int) by omega)]; exact evNow _
 | n + 1, i, hi => by
  have hil : i < ss.length := by omega
  have hw := succ_wrap i (by omega); have vi := hv _ (List.getElem_mem hil); have vg := vShape_good vi; have pi := cnt_pos vg.2.2.2.1; have ci := refCount8_is ss[i].f0 ss[i].f1 (hI.2 _ (List.getElem_mem _)) vg.2.2.1 vg.1.2; rw [show min (cnt (sets ss[i].f0)) 1073741825 = cnt (sets ss[i].f0) by omega] at ci; have wi : Aside0 (wrap64 (wrap64 (ss[i].f1 + cnt (sets ss[i].f0)) - 1) = lastOf ss[i]) := Aside0.mk (by rw [w64 (x := ss[i].f1 + cnt (sets ss[i].f0)) (by omega) (by omega), w64 (by omega) (by omega)]; rfl); obtain ⟨r, ih, ihr⟩ := find_loop ss u hI hs hv n (i + 1) (by omega); have hlo : lastOf ss[i] = ss[i].f1 + cnt (sets ss[i].f0) - 1 := rfl; have e1 : (C ss[i]).2 = ss[i].f1 ∧ (C ss[i]).1 = sets ss[i].f0 := ⟨rfl, rfl⟩; have key : ∀ g : Nat → Option Int, (hitC u (C ss[i]) = true → Ev g (i : Int)) → (hitC u (C ss[i]) = false → Ev g r) →
   ∃ r, Ev g r ∧ ((r = -1 ∧ encC (cs (ss.drop i)) u = none) ∨ ∃ (j : Nat) (hj : j < ss.length), r = (j : Int) ∧ hitC u (C ss[j]) = true ∧ encC (cs (ss.drop i)) u = some (unr (sets ss[j].f0) (u - ss[j].f1))) := fun g ga gb => by
   rw [cs_drop ss i hil, encC_cons]; cases hh : hitC u (C ss[i])
   ·exact ⟨r, gb hh, ihr⟩
   ·exact ⟨_, ga hh, .inr ⟨i, hil, rfl, hh, rfl⟩⟩
  refine key _ (fun hh => evSucc ?_) (fun hh => evSucc ?_)
  ·have h' := hitC_iff.1 hh; rw [e1.1, e1.2] at h'; simp only [leadtrailref10_Find.l0, if_pos (show (i : Int) < (ss.length : Int) by omega), if_pos (show (0 : Int) ≤ (i : Int) by omega), rdSh_at ss i hil, if_pos (show u ≥ ss[i].f1 by omega)]; refine Ev.bind ci ?_; simp only [wi.out, if_pos (show u ≤ lastOf ss[i] by omega)]; exact evNow _
  ·have h' : ¬ (ss[i].f1 ≤ u ∧ u - ss[i].f1 < cnt (sets ss[i].f0)) := fun h => by
    have : hitC u (C ss[i]) = true := hitC_iff.2 h; rw [hh] at this; cases this
   simp only [leadtrailref10_Find.l0, if_pos (show (i : Int) < (ss.length : Int) by omega), if_pos (show (0 : Int) ≤ (i : Int) by omega), rdSh_at ss i hil, hw.out]; by_cases c : u ≥ ss[i].f1
   ·simp only [if_pos c]; refine Ev.bind ci ?_; simp only [wi.out, if_neg (show ¬ u ≤ lastOf ss[i] by omega)]; exact ih
   ·simp only [if_neg c]; exact ih
def ofR : Option (List Int) → List Int × Bool
 | some b => (b, true)
 | none => ([], false)
theorem refOf_is (ss : List Sh) (u : Int) (hI : InS ss) (h : vScheme ss = true) (hu : (Lit.int .i64 u).wf = true) : Ev (fun k => leadtrailref10_Of.f k ss u) (ofR (encC (cs ss) u)) := by
 obtain ⟨h1, h2, _⟩ := vScheme_facts h; obtain ⟨r, g1, g2⟩ := find_loop ss u hI h1 h2 ss.length 0 (by omega); rw [List.drop_zero] at g2; have hur := wf_range hu; simp only [leadtrailref10_Of.f]; refine Ev.bind (show Ev (fun k => leadtrailref10_Find.f k ss u) r from g1) ?_; rcases g2 with ⟨rfl, e⟩ | ⟨j, hj, rfl, hh, e⟩
 ·rw [e]; simp only [if_pos (show (-1 : Int) < 0 by omega)]; exact evNow _
 ·have vj := h2 _ (List.getElem_mem hj); have vg := vShape_good vj; have h' := hitC_iff.1 hh; have w1 : Aside0 (wrap64 (u - ss[j].f1) = u - ss[j].f1) := Aside0.mk (by
   have h3 : ss[j].f1 ≤ u := h'.1; exact w64 (by omega) (by omega))
  have eo := okB_hit (u := u) vj; rw [show (sets ss[j].f0, ss[j].f1) = C ss[j] from rfl, hh] at eo; rw [e]; simp only [if_neg (show ¬ (j : Int) < 0 by omega), if_pos (show (0 : Int) ≤ (j : Int) by omega), if_pos (show (j : Int) < (ss.length : Int) by omega), rdSh_at ss j hj, w1.out]; refine Ev.bind (refUnrank_is _ _ _ (hI.2 _ (List.getElem_mem _))) ?_; simp only [unS, eo, if_true]; exact evNow _
theorem enc_range {ss : List Sh} (h : vScheme ss = true) {u : Int} {x : List Int} (he : encC (cs ss) u = some x) : (0 ≤ u ∧ u ≤ 1073741823) ∧ (∀ b ∈ x, 0 ≤ b ∧ b ≤ 255) ∧ 1 ≤ x.length ∧ x.length ≤ 8 := by
 obtain ⟨h1, h2, _, h4⟩ := vScheme_facts h; obtain ⟨p, hp, hh, rfl⟩ := encC_mem he; obtain ⟨q, hq, rfl⟩ := List.mem_map.1 hp; have vg := vShape_good (h2 q hq); have h' := hitC_iff.1 hh; have e1 : (C q).2 = q.f1 ∧ (C q).1 = sets q.f0 := ⟨rfl, rfl⟩; rw [e1.1, e1.2] at h'; rw [e1.1, e1.2]; refine ⟨by omega, unr_range vg.2.2.2.1 (by omega) h'.2, ?_⟩; rw [unr_len, sets_len]; exact vg.1
end Go.Proofs.Ytkcklnmbeinfkaa.PBS
end
section
namespace Go.Proofs.Ytkcklnmbeinfkaa.PBS
open Go.RowKit Go.Proofs.YtkcklnmbeinfkaaW.PrintWords Go.Proofs.YtkcklnmbeinfkaaW.PrintLast Go.Proofs.YtkcklnmbeinfkaaW.PrintMore Go.Proofs.Ytkcklnmbeinfkaa.B Go.Proofs.LT Go.Proofs.Ytkcklnmbeinfkaa.PB3
set_option linter.unusedVariables false
set_option linter.unusedSimpArgs false
def encR : Option (List Int) → List Int × Int
 | some b => (b, 0)
 | none => ([], 100)
noncomputable def encS (ss : List Sh) (u : Int) : List Int × Int := if vScheme ss = true then encR (encC (cs ss) u) else ([], 84)
theorem Encode_is (ss : List Sh) (u : Int) (hI : InS ss) (hu : (Lit.int .i64 u).wf = true) : Ev (fun k => code_Encode.f k ss u) (encS ss u) := by
 simp only [code_Encode.f]; refine Ev.bind (schemeValid_is ss hI) ?_; unfold encS; cases h : vScheme ss
 ·simp only [Bool.false_eq_true, if_false]; exact evNow _
 ·simp only [if_true]; refine Ev.bind (encode_is ss u hI h hu) ?_; cases he : encC (cs ss) u with
  | none => simp only [Option.getD_none, List.length_nil, encR]; rw [if_pos (by rfl)]; exact evNow _
  | some b =>
   have := (enc_range h he).2.2; simp only [Option.getD_some, encR, if_neg (show ¬ (b.length : Int) = 0 by omega)]; exact evNow _
def one1 (lo hi : Int) : List Sp := [⟨lo, hi⟩]
theorem one_valid {lo hi : Int} (h0 : 0 ≤ lo) (h1 : lo ≤ hi) (h2 : hi ≤ 255) : ValidFrom 255 (-2) (runs (one1 lo hi)) := ⟨h0, h1, h2, by show (-2 : Int) < lo - 1; omega, trivial⟩
theorem one_size (lo hi : Int) : size (runs (one1 lo hi)) = hi - lo + 1 := by
 show size [(lo, hi)] = _; rw [size_cons, size_nil]; omega
theorem one_ok {lo hi : Int} (h0 : 0 ≤ lo) (h1 : lo ≤ hi) (h2 : hi ≤ 255) : okPart (one1 lo hi) = true := by
 simp only [okPart, (validB_iff _ _ _).2 (one_valid h0 h1 h2)]; rfl
def some10 : List Sh := [⟨[one1 194 223, one1 128 191], 128⟩, ⟨[one1 0 127], 0⟩]
theorem c10a : cnt (sets [one1 194 223, one1 128 191]) = 1920 := by
 show cnt [runs (one1 194 223), runs (one1 128 191)] = 1920; rw [cnt_cons, cnt_cons, cnt_nil, one_size, one_size]; rfl
theorem c10b : cnt (sets [one1 0 127]) = 128 := by
 show cnt [runs (one1 0 127)] = 128; rw [cnt_cons, cnt_nil, one_size]; rfl
theorem v10 : vScheme some10 = true := by
 have h1 : vShape [one1 194 223, one1 128 191] 128 = true := by
  unfold vShape; rw [c10a]; simp [one_ok (show (0 : Int) ≤ 194 by decide) (show (194 : Int) ≤ 223 by decide) (by decide), one_ok (show (0 : Int) ≤ 128 by decide) (show (128 : Int) ≤ 191 by decide) (by decide)]
 have h2 : vShape [one1 0 127] 0 = true := by
  unfold vShape; rw [c10b]; simp [one_ok (show (0 : Int) ≤ 0 by decide) (show (0 : Int) ≤ 127 by decide) (by decide)]
 have h3 : meetsB ⟨[one1 0 127], 0⟩ ⟨[one1 194 223, one1 128 191], 128⟩ = false := by
  simp only [meetsB, lastOf, c10a, c10b]; decide
 show (decide (2 ≤ 32) && (vShape [one1 194 223, one1 128 191] 128 && (!([] : List Sh).any (meetsB _) && (vShape [one1 0 127] 0 && (!([⟨[one1 194 223, one1 128 191], 128⟩] : List Sh).any (meetsB ⟨[one1 0 127], 0⟩) && true))))) = true; rw [h1, h2]; simp [h3]
end Go.Proofs.Ytkcklnmbeinfkaa.PBS
end
section
namespace Go.Proofs.Ytkcklnmbeinfkaa.PBS
open Go.RowKit Go.Proofs.YtkcklnmbeinfkaaW.PrintWords Go.Proofs.YtkcklnmbeinfkaaW.PrintLast Go.Proofs.YtkcklnmbeinfkaaW.PrintMore Go.Proofs.Ytkcklnmbeinfkaa.B Go.Proofs.LT Go.Proofs.Ytkcklnmbeinfkaa.PB3
set_option linter.unusedVariables false
set_option linter.unusedSimpArgs false
def InB (x : List Int) : Prop := ∀ b ∈ x, 0 ≤ b ∧ b ≤ 255
def cmpR (x y : List Int) : Int := if lexB x y = true then -1 else if lexB y x = true then 1 else 0
theorem cmp_is : ∀ (x y : List Int), InB x → InB y → Lib.compareBytes (Lib.bytesOf x) (Lib.bytesOf y) = cmpR x y
 | [], [], _, _ => rfl
 | [], b :: t, _, _ => rfl
 | a :: s, [], _, _ => rfl
 | a :: s, b :: t, hx, hy => by
  have h1 := hx a List.mem_cons_self; have h2 := hy b List.mem_cons_self; have ih := cmp_is s t (fun z hz => hx z (List.mem_cons_of_mem _ hz)) (fun z hz => hy z (List.mem_cons_of_mem _ hz)); show (if UInt8.ofNat a.toNat < UInt8.ofNat b.toNat then (-1 : Int) else if UInt8.ofNat b.toNat < UInt8.ofNat a.toNat then 1 else Lib.compareBytes (Lib.bytesOf s) (Lib.bytesOf t)) = _; rw [ih]; unfold cmpR; have p1 := byte_lt h1 h2; have p2 := byte_lt h2 h1; rcases (by omega : a < b ∨ a = b ∨ b < a) with h | h | h
  ·rw [if_pos (p1.2 h), if_pos (lexB_cons_iff.2 (.inl h))]
  ·subst h; rw [if_neg (fun q => by have := p1.1 q; omega), if_neg (fun q => by have := p1.1 q; omega), lexB_cons, lexB_cons, decide_eq_false (Int.lt_irrefl a), decide_eq_true rfl]; rfl
  ·rw [if_neg (fun q => by have := p1.1 q; omega), if_pos (p2.2 h), if_neg (fun q => by rcases lexB_cons_iff.1 q with q | q <;> omega), if_pos (lexB_cons_iff.2 (.inl h))]
theorem cmp_swap (x y : List Int) : cmpR y x = - cmpR x y := by
 unfold cmpR; cases h : lexB x y
 ·cases h2 : lexB y x <;> simp
 ·rw [lexB_asymm h]; simp
theorem rdx (x : List Int) (i : Nat) (h : i < x.length) : rd x (i : Int) = x[i] := rd_get x i h
theorem Less_loop (x y : List Int) (hx : x.length ≤ 4611686018427387900) : ∀ (n i : Nat), i + n = x.length → Ev (fun k => leadtrailref12_Less.l0 k x y (i : Int)) (lexB (x.drop i) (y.drop i))
 | 0, i, hi => by
  refine evSucc ?_; simp only [leadtrailref12_Less.l0, if_neg (show ¬ (i : Int) < (x.length : Int) by omega)]; refine evSucc ?_; simp only [leadtrailref12_Less.j1, Bool.false_eq_true, if_false]; rw [List.drop_of_length_le (show x.length ≤ i by omega)]; by_cases c : i < y.length
  ·rw [List.drop_eq_getElem_cons c, lexB_less, decide_eq_true (show (x.length : Int) < (y.length : Int) by omega)]; exact evNow _
  ·rw [List.drop_of_length_le (show y.length ≤ i by omega), lexB_nil, decide_eq_false (show ¬ (x.length : Int) < (y.length : Int) by omega)]; exact evNow _
 | n + 1, i, hi => by
  have hil : i < x.length := by omega
  have hw := succ_wrap i (by omega); have ih := Less_loop x y hx n (i + 1) (by omega); refine evSucc ?_; simp only [leadtrailref12_Less.l0, if_pos (show (i : Int) < (x.length : Int) by omega)]; refine evSucc ?_; by_cases c : i < y.length
  ·simp only [leadtrailref12_Less.j1, decide_eq_true (show (i : Int) < (y.length : Int) by omega), if_true, if_pos (show (0 : Int) ≤ (i : Int) by omega), if_pos (show (i : Int) < (x.length : Int) by omega), if_pos (show (i : Int) < (y.length : Int) by omega), rdx x i hil, rdx y i c, hw.out]; rw [List.drop_eq_getElem_cons c, List.drop_eq_getElem_cons hil, lexB_cons]; by_cases e : x[i] = y[i]
   ·simp only [if_pos e, decide_eq_false (show ¬ x[i] < y[i] by omega), decide_eq_true e, Bool.false_or, Bool.true_and]; exact ih
   ·simp only [if_neg e, decide_eq_false e, Bool.false_and, Bool.or_false]; exact evNow _
  ·simp only [leadtrailref12_Less.j1, decide_eq_false (show ¬ (i : Int) < (y.length : Int) by omega), Bool.false_eq_true, if_false]; rw [List.drop_of_length_le (show y.length ≤ i by omega), lexB_nil, decide_eq_false (show ¬ (x.length : Int) < (y.length : Int) by omega)]; exact evNow _
theorem Less_is (x y : List Int) (hx : x.length ≤ 4611686018427387900) : Ev (fun k => leadtrailref12_Less.f k x y) (lexB x y) := by
 have := Less_loop x y hx x.length 0 (by omega); rw [List.drop_zero, List.drop_zero] at this; exact this
theorem sort_of {l r : List Sh} (hl : l.length < 8796093022208) (hp : r.Perm l) (hs : r.Pairwise fun x y => x.f1 < y.f1) : sortShape.f l = some r := by
 have hne : r.Pairwise fun x y => x.f1 ≠ y.f1 := hs.imp (fun h => by omega)
 have hne2 : l.Pairwise fun x y => x.f1 ≠ y.f1 := (hp.pairwise_iff (fun h => Ne.symm h)).1 hne
 have h1 : sortShape.f l = some (l.mergeSort fun x y => decide (x.f1 ≤ y.f1)) := by
  unfold sortShape.f; rw [if_pos (show sortShape.ok l = true by simp only [sortShape.ok, Bool.and_eq_true, decide_eq_true_eq]; exact ⟨hl, hne2⟩)]
 obtain ⟨_, m1, m2, _⟩ := sortShape.merge h1; rw [h1, sortShape.uniq (m1.trans hp.symm) m2 hs]
def o12a : List Sh := [⟨[one1 80 81], 10⟩, ⟨[one1 65 66], 0⟩]
def o12a' : List Sh := [⟨[one1 65 66], 0⟩, ⟨[one1 80 81], 10⟩]
def o12b : List Sh := [⟨[one1 65 65], 10⟩, ⟨[one1 66 66], 0⟩]
def o12b' : List Sh := [⟨[one1 66 66], 0⟩, ⟨[one1 65 65], 10⟩]
theorem check_at (l l' : List Sh) (v : Bool × Int × Int × Int) (hl : l.length ≤ 4) (h1 : Ev (fun k => scheme_Valid.f k l) true) (h2 : sortShape.f l = some l') (h3 : Ev (fun k => order_Check.l0 k l' 1) v) : Ev (fun k => order_Check.f k l) v := by
 simp only [order_Check.f]; refine Ev.bind h1 ?_; simp only [if_true, show cloneShape.f l = some l by unfold cloneShape.f; rw [if_pos (by omega)], h2, Option.bind_some]; exact h3
theorem check12a : Ev (fun k => order_Check.f k o12a) (true, 0, 0, 0) :=
 check_at o12a o12a' _ (by decide) (Ev.of (k := 40) (scheme_Valid.mono _) (by kernel_rfl)) (sort_of (by decide) (List.Perm.swap _ _ _) (by
  refine List.pairwise_cons.2 ⟨fun q hq => ?_, List.pairwise_singleton _ _⟩; rw [List.mem_singleton.1 hq]; decide)) (Ev.of (k := 40) (fun k => order_Check.mono_l k _ _) (by kernel_rfl))
theorem check12b : Ev (fun k => order_Check.f k o12b) (false, 0, 10, 0) :=
 check_at o12b o12b' _ (by decide) (Ev.of (k := 40) (scheme_Valid.mono _) (by kernel_rfl)) (sort_of (by decide) (List.Perm.swap _ _ _) (by
  refine List.pairwise_cons.2 ⟨fun q hq => ?_, List.pairwise_singleton _ _⟩; rw [List.mem_singleton.1 hq]; decide)) (Ev.of (k := 40) (fun k => order_Check.mono_l k _ _) (by kernel_rfl))
theorem fixed12 : Ev (fun k => leadtraillaw12_fixed.f k) true := by
 simp only [leadtraillaw12_fixed.f, leadtraillaw12_one.f, Option.bind_some]; refine Ev.bind check12a (Ev.bind check12b ?_); exact evNow _
def cmpE : Option (List Int) → Option (List Int) → Int × Int
 | some x, some y => (cmpR x y, 0)
 | _, _ => (0, 100)
noncomputable def cmpO (ss : List Sh) (u v : Int) : Int × Int := if vScheme ss = true then cmpE (encC (cs ss) u) (encC (cs ss) v) else (0, 84)
theorem cmpE_none (o : Option (List Int)) : cmpE o none = (0, 100) := by cases o <;> rfl
theorem cmpE_none1 (o : Option (List Int)) : cmpE none o = (0, 100) := rfl
theorem orderCompare_is (ss : List Sh) (u v : Int) (hI : InS ss) (hu : (Lit.int .i64 u).wf = true) (hv : (Lit.int .i64 v).wf = true) : Ev (fun k => order_Compare.f k ss u v) (cmpO ss u v) := by
 simp only [order_Compare.f]; refine Ev.bind (Encode_is ss u hI hu) ?_; unfold cmpO; cases h : vScheme ss
 ·rw [show encS ss u = ([], 84) by unfold encS; rw [h]; rfl]; simp only [if_neg (show ¬ (84 : Int) = 0 by omega), Bool.false_eq_true, if_false]; exact evNow _
 ·simp only [if_true]; cases hx : encC (cs ss) u with
  | none =>
   rw [show encS ss u = ([], 100) by unfold encS; rw [if_pos h, hx]; rfl, cmpE_none1]; simp only [if_neg (show ¬ (100 : Int) = 0 by omega)]; exact evNow _
  | some x =>
   rw [show encS ss u = (x, 0) by unfold encS; rw [if_pos h, hx]; rfl]; simp only [if_true]; refine Ev.bind (Encode_is ss v hI hv) ?_; cases hy : encC (cs ss) v with
   | none =>
    rw [show encS ss v = ([], 100) by unfold encS; rw [if_pos h, hy]; rfl, cmpE_none]; simp only [if_neg (show ¬ (100 : Int) = 0 by omega)]; exact evNow _
   | some y =>
    rw [show encS ss v = (y, 0) by unfold encS; rw [if_pos h, hy]; rfl]; simp only [if_true, bytes_Compare.f, Option.bind_some, cmp_is x y (enc_range h hx).2.1 (enc_range h hy).2.1]; exact evNow _
theorem refCompare_j (x y : List Int) (hx : x.length ≤ 8) (hy : y.length ≤ 8) : Ev (fun k => leadtrailref12_Compare.j0 k x y false) (cmpR x y, 0) := by
 refine evSucc ?_; simp only [leadtrailref12_Compare.j0, Bool.false_eq_true, if_false]; refine Ev.bind (Less_is x y (by omega)) ?_; unfold cmpR; cases h : lexB x y
 ·simp only [Bool.false_eq_true, if_false]; refine Ev.bind (Less_is y x (by omega)) ?_; cases h2 : lexB y x
  ·simp only [Bool.false_eq_true, if_false]; exact evNow _
  ·simp only [if_true]; exact evNow _
 ·simp only [if_true]; exact evNow _
theorem refCompare_no (x y : List Int) : Ev (fun k => leadtrailref12_Compare.j0 k x y true) (0, 100) := by
 refine evSucc ?_; simp only [leadtrailref12_Compare.j0, if_true]; exact evNow _
theorem refCompare_is (ss : List Sh) (u v : Int) (hI : InS ss) (hu : (Lit.int .i64 u).wf = true) (hv : (Lit.int .i64 v).wf = true) : Ev (fun k => leadtrailref12_Compare.f k ss u v) (cmpO ss u v) := by
 simp only [leadtrailref12_Compare.f]; refine Ev.bind (refValid8_is ss hI) ?_; unfold cmpO; cases h : vScheme ss
 ·simp only [Bool.false_eq_true, if_false]; exact evNow _
 ·simp only [if_true]; refine Ev.bind (refOf_is ss u hI h hu) (Ev.bind (refOf_is ss v hI h hv) ?_); cases hx : encC (cs ss) u with
  | none =>
   rw [cmpE_none1]; simp only [ofR, Bool.false_eq_true, if_false]; exact refCompare_no _ _
  | some x =>
   cases hy : encC (cs ss) v with
   | none =>
    rw [cmpE_none]; simp only [ofR, if_true, Bool.not_false]; exact refCompare_no _ _
   | some y =>
    simp only [ofR, if_true, Bool.not_true]; exact refCompare_j x y (enc_range h hx).2.2.2 (enc_range h hy).2.2.2
theorem cmpO_swap (ss : List Sh) (u v : Int) : cmpO ss v u = (-(cmpO ss u v).1, (cmpO ss u v).2) ∧ (-1 ≤ (cmpO ss u v).1 ∧ (cmpO ss u v).1 ≤ 1) := by
 unfold cmpO; by_cases h : vScheme ss = true
 ·rw [if_pos h, if_pos h]; cases hx : encC (cs ss) u with
  | none => rw [cmpE_none, cmpE_none1]; decide
  | some x =>
   cases hy : encC (cs ss) v with
   | none => rw [cmpE_none, cmpE_none1]; decide
   | some y =>
    show (cmpR y x, (0 : Int)) = (-(cmpR x y), 0) ∧ (-1 ≤ cmpR x y ∧ cmpR x y ≤ 1); refine ⟨by rw [cmp_swap], ?_⟩; unfold cmpR; split
    ·omega
    ·split <;> omega
 ·rw [if_neg h, if_neg h]; decide
end Go.Proofs.Ytkcklnmbeinfkaa.PBS
end
section
namespace Go.Proofs.Ytkcklnmbeinfkaa.PBS
open Go.RowKit Go.Proofs.YtkcklnmbeinfkaaW.PrintWords Go.Proofs.YtkcklnmbeinfkaaW.PrintLast Go.Proofs.YtkcklnmbeinfkaaW.PrintMore Go.Proofs.Ytkcklnmbeinfkaa.B Go.Proofs.LT Go.Proofs.Ytkcklnmbeinfkaa.PB3
set_option linter.unusedVariables false
set_option linter.unusedSimpArgs false
theorem leadtraillaw12_OrderCompare_ev (ss : List Sh) (u v : Int) (hI : InS ss) (hu : (Lit.int .i64 u).wf = true) (hv : (Lit.int .i64 v).wf = true) : Ev (fun k => leadtraillaw12_OrderCompare.f k ss u v) true := by
 simp only [leadtraillaw12_OrderCompare.f]; refine Ev.bind fixed12 ?_; simp only [if_true]; refine Ev.bind (CopyS_is ss hI) (Ev.bind (orderCompare_is ss u v hI hu hv) (Ev.bind (refCompare_is ss u v hI hu hv) (Ev.bind (CopyS_is ss hI) (Ev.bind (orderCompare_is ss v u hI hv hu) ?_)))); obtain ⟨h1, h2, h3⟩ := cmpO_swap ss u v; rw [h1]; have w1 : Aside0 (wrap64 (-(cmpO ss u v).1) = -(cmpO ss u v).1) := Aside0.mk (w64 (by omega) (by omega)); simp only [w1.out, if_true, beq_self_eq_true]; exact evNow _
end Go.Proofs.Ytkcklnmbeinfkaa.PBS
namespace Go.Proofs.Ytkcklnmbeinfkaa.Pure
open Go.Proofs.Ytkcklnmbeinfkaa.B Go.Proofs.YtkcklnmbeinfkaaW.PrintWords
theorem OrderCompare : ∀ (l0_0 : List S50) (a1 : Int) (a2 : Int), (l0_0.length * 32 ≤ 140737488351232 ∧ ∀ x ∈ l0_0, ((x.f0.length * 24 ≤ 140737488351232 ∧ ∀ y ∈ x.f0, (y.length * 16 ≤ 140737488351232 ∧ ∀ x ∈ y, ((Lit.int .i64 x.f0).wf = true ∧ (Lit.int .i64 x.f1).wf = true))) ∧ (Lit.int .i64 x.f1).wf = true)) → (Lit.int .i64 a1).wf = true → (Lit.int .i64 a2).wf = true → ∃ k, leadtraillaw12_OrderCompare.f k l0_0 a1 a2 = some true :=
 fun l0 u v h hu hv => Ev.rounds (PBS.leadtraillaw12_OrderCompare_ev l0 u v ⟨h.1, fun p hp => ⟨(h.2 p hp).1.1, fun x hx => ((h.2 p hp).1.2 x hx).1⟩⟩ hu hv)
end Go.Proofs.Ytkcklnmbeinfkaa.Pure
end
