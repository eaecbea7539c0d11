/- Words and laws of this claim, of 9 texts. -/
import Derived.Test.YtkcklnmbeinfkaaKhBx11
import Derived.Test.YtkcklnmbeinfkaaKhBx12
import Derived.Test.YtkcklnmbeinfkaaKhBx13
import Derived.Test.YtkcklnmbeinfkaaKhBx14
import Derived.Test.YtkcklnmbeinfkaaKhBx10
import Derived.Lib.Bytes
import Derived.Test.YtkcklnmbeinfkaaKhQP0
import Derived.Test.YtkcklnmbeinfkaaKhBx0
import Derived.Test.YtkcklnmbeinfkaaKhBx9
import Derived.Test.YtkcklnmbeinfkaaKhBx15
import Derived.Test.YtkcklnmbeinfkaaKhBx16
import Derived.Test.YtkcklnmbeinfkaaKhBx17
import Derived.Test.YtkcklnmbeinfkaaKhBx22
import Derived.Test.YtkcklnmbeinfkaaKhBx23
import Derived.Test.YtkcklnmbeinfkaaKhBx24
import Derived.Test.YtkcklnmbeinfkaaKhBx25
import Derived.Test.YtkcklnmbeinfkaaKhBx27
import Derived.Test.YtkcklnmbeinfkaaKhBx28
import Derived.Test.YtkcklnmbeinfkaaKhBx8
import Derived.Test.YtkcklnmbeinfkaaKhQW1
import Derived.Test.YtkcklnmbeinfkaaKhBx20
import Derived.Test.YtkcklnmbeinfkaaKhBx21
import Derived.Test.YtkcklnmbeinfkaaKhBx30
import Derived.Test.YtkcklnmbeinfkaaKhBx31
import Derived.Test.YtkcklnmbeinfkaaKhBx34
import Derived.Test.YtkcklnmbeinfkaaKhBx35
import Derived.Test.YtkcklnmbeinfkaaKhBx32
import Derived.Test.YtkcklnmbeinfkaaKhBx36
section
namespace Go.Proofs.Ytkcklnmbeinfkaa.PBS
open Go.RowKit Go.Proofs.YtkcklnmbeinfkaaW.PrintWords Go.Proofs.YtkcklnmbeinfkaaW.PrintLast Go.Proofs.YtkcklnmbeinfkaaW.PrintMore Go.Proofs.Ytkcklnmbeinfkaa.B Go.Proofs.LT Go.Proofs.Ytkcklnmbeinfkaa.PB3
set_option linter.unusedVariables false
set_option linter.unusedSimpArgs false
theorem copy_loop (ps : List (List Sp)) (a : Int) (hI : In2 ps) : ∀ (n i : Nat), i + n = ps.length → Ev (fun k => leadtrailref08_CopyShape.l0 k (i : Int) ps a (ps.take i) a) (ps, a)
 | 0, i, hi => by
  refine evSucc ?_; simp only [leadtrailref08_CopyShape.l0, if_neg (show ¬ (i : Int) < (ps.length : Int) by omega)]; rw [List.take_of_length_le (by omega)]; exact evNow _
 | n + 1, i, hi => by
  have hil : i < ps.length := by omega
  have ih := copy_loop ps a hI n (i + 1) (by omega); have h1 := hI.2 _ (List.getElem_mem hil); have h2 := hI.1; unfold In1 at h1; have hw : Aside0 (wrap64 ((i : Int) + 1) = ((i + 1 : Nat) : Int)) := Aside0.mk (by rw [w64 (by omega) (by omega)]; rfl); have e : ps.take i ++ [([] : List Sp) ++ ps[i]] = ps.take (i + 1) := by rw [List.nil_append, List.take_succ_eq_append_getElem hil]
  refine evSucc ?_; simp only [leadtrailref08_CopyShape.l0, if_pos (show (i : Int) < (ps.length : Int) by omega), Option.bind_some, if_pos (show (0 : Int) ≤ (i : Int) by omega), rdL_at ps i hil, List.length_nil, if_pos (show 0 + (ps[i]).length < 8796093022208 by omega), if_pos (show (ps.take i).length < 5864062014805 by rw [List.length_take]; omega), hw.out, e]; exact ih
theorem Copy_is (ps : List (List Sp)) (a : Int) (hI : In2 ps) : Ev (fun k => leadtrailref08_CopyShape.f k ps a) (ps, a) := by
 have := copy_loop ps a hI ps.length 0 (by omega); rw [List.take_zero] at this; exact this
theorem refSize_at (p : List Sp) (hp : In1 p) (h : okPart p = true) : Ev (fun k => leadtrailref03_Size.f k p) (size (runs p)) := by
 have := refSize_is p hp; rwa [show p.map L113 = runs p from rfl, setL_of (okPart_good h).1] at this
theorem refCount_loop (ps : List (List Sp)) (a : Int) (hI : In2 ps) (hk : ps.all okPart = true) (hl : ps.length ≤ 8) : ∀ (n i : Nat) (m : Int), i + n = ps.length → 1 ≤ m → m ≤ 1073741825 →
 Ev (fun k => leadtrailref08_Count.l0 k m (i : Int) ps a) (capd m (ps.drop i))
 | 0, i, m, hi, _, _ => by
  refine evSucc ?_; simp only [leadtrailref08_Count.l0, if_neg (show ¬ (i : Int) < (ps.length : Int) by omega)]; rw [List.drop_of_length_le (by omega)]; exact evNow _
 | n + 1, i, m, hi, h0, h1 => by
  have hil : i < ps.length := by omega
  have hp := good_part hk hil; have hs := okPart_good hp; have hz := size_256 hs.1; have hb : 1 ≤ m * size (runs ps[i]) := by have := Int.mul_le_mul h0 hs.2 (by omega) (by omega); omega
  have hc : m * size (runs ps[i]) ≤ 1073741825 * 256 := Int.mul_le_mul h1 hz (by omega) (by omega); have hw : Aside0 (wrap64 (m * size (runs ps[i])) = m * size (runs ps[i])) := Aside0.mk (w64 (by omega) (by omega)); have hw2 : Aside0 (wrap64 ((i : Int) + 1) = ((i + 1 : Nat) : Int)) := Aside0.mk (by rw [w64 (by omega) (by omega)]; rfl); have e : capd m (ps.drop i) = capd (min (m * size (runs ps[i])) 1073741825) (ps.drop (i + 1)) := by rw [List.drop_eq_getElem_cons hil]; rfl
  refine evSucc ?_; simp only [leadtrailref08_Count.l0, if_pos (show (i : Int) < (ps.length : Int) by omega), if_pos (show (0 : Int) ≤ (i : Int) by omega), rdL_at ps i hil]; refine Ev.bind (refSize_at _ (hI.2 _ (List.getElem_mem _)) hp) ?_; simp only [hw.out, hw2.out]; rw [e]; by_cases c : m * size (runs ps[i]) > 1073741824
  ·simp only [if_pos c]; rw [show min (m * size (runs ps[i])) 1073741825 = 1073741825 by omega]; exact refCount_loop ps a hI hk hl n (i + 1) _ (by omega) (by omega) (by omega)
  ·simp only [if_neg c]; rw [show min (m * size (runs ps[i])) 1073741825 = m * size (runs ps[i]) by omega]; exact refCount_loop ps a hI hk hl n (i + 1) _ (by omega) (by omega) (by omega)
theorem refCount8_is (ps : List (List Sp)) (a : Int) (hI : In2 ps) (hk : ps.all okPart = true) (hl : ps.length ≤ 8) : Ev (fun k => leadtrailref08_Count.f k ps a) (min (cnt (sets ps)) 1073741825) := by
 have := refCount_loop ps a hI hk hl ps.length 0 1 (by omega) (by omega) (by omega); rw [List.drop_zero, capd_is ps 1 hk (by omega) (by omega), Int.one_mul] at this; exact this
theorem refVShape_loop (ps : List (List Sp)) (a : Int) (hI : In2 ps) (hl : ps.length ≤ 8) (a0 : 0 ≤ a) (a1 : a ≤ 1073741823) : ∀ (n i : Nat), i + n = ps.length → (ps.take i).all okPart = true →
 Ev (fun k => leadtrailref08_ValidShape.l0 k (i : Int) ps a) (ps.all okPart && decide (a + cnt (sets ps) - 1 ≤ 1073741823))
 | 0, i, hi, hk => by
  rw [List.take_of_length_le (by omega)] at hk; have hc := cnt_pos (good_of hk); refine evSucc ?_; simp only [leadtrailref08_ValidShape.l0, if_neg (show ¬ (i : Int) < (ps.length : Int) by omega)]; refine Ev.bind (refCount8_is ps a hI hk hl) ?_; rw [hk, Bool.true_and, w64 (x := a + min (cnt (sets ps)) 1073741825) (by omega) (by omega), w64 (by omega) (by omega), show decide (a + min (cnt (sets ps)) 1073741825 - 1 ≤ 1073741823) = decide (a + cnt (sets ps) - 1 ≤ 1073741823) from decide_eq_decide.2 (by omega)]; exact evNow _
 | n + 1, i, hi, hk => by
  have hil : i < ps.length := by omega
  have hw2 : Aside0 (wrap64 ((i : Int) + 1) = ((i + 1 : Nat) : Int)) := Aside0.mk (by rw [w64 (by omega) (by omega)]; rfl); have hbad : okPart ps[i] = false → ps.all okPart = false := fun h => by
   cases q : ps.all okPart
   ·rfl
   ·rw [good_part q hil] at h; cases h
  refine evSucc ?_; simp only [leadtrailref08_ValidShape.l0, if_pos (show (i : Int) < (ps.length : Int) by omega), if_pos (show (0 : Int) ≤ (i : Int) by omega), rdL_at ps i hil]; by_cases c : ((ps[i]).length : Int) = 0
  ·simp only [if_pos c]; rw [hbad (by simp only [okPart, decide_eq_true (show (ps[i]).length = 0 by omega)]; rfl), Bool.false_and]; exact evNow _
  ·simp only [if_neg c]; have e : okPart ps[i] = validB 255 (-2) (runs ps[i]) := by simp only [okPart, decide_eq_false (show ¬ (ps[i]).length = 0 by omega)]; rfl
   refine Ev.bind (refValid_is ps[i] (hI.2 _ (List.getElem_mem _))) ?_; rw [show (ps[i]).map L113 = runs ps[i] from rfl, ← e]; cases q : okPart ps[i]
   ·simp only [Bool.false_eq_true, if_false]; rw [hbad q, Bool.false_and]; exact evNow _
   ·simp only [if_true, hw2.out]; refine refVShape_loop ps a hI hl a0 a1 n (i + 1) (by omega) ?_; rw [List.take_succ_eq_append_getElem hil, List.all_append, hk]; simp [q]
theorem refVShape_is (ps : List (List Sp)) (a : Int) (hI : In2 ps) : Ev (fun k => leadtrailref08_ValidShape.f k ps a) (vShape ps a) := by
 have jT : Ev (fun k => leadtrailref08_ValidShape.j0 k true ps a) false := by
  refine evSucc ?_; simp only [leadtrailref08_ValidShape.j0, if_true]; exact evNow _
 simp only [leadtrailref08_ValidShape.f]; by_cases c1 : (ps.length : Int) < 1
 ·simp only [if_pos c1, vShape, decide_eq_false (show ¬ (1 ≤ ps.length ∧ ps.length ≤ 8) by omega), Bool.false_and]; exact jT
 by_cases c2 : (ps.length : Int) > 8
 ·simp only [if_neg c1, if_pos c2, vShape, decide_eq_false (show ¬ (1 ≤ ps.length ∧ ps.length ≤ 8) by omega), Bool.false_and]; exact jT
 simp only [if_neg c1, if_neg c2, vShape, decide_eq_true (show 1 ≤ ps.length ∧ ps.length ≤ 8 by omega), Bool.true_and]; by_cases c3 : a < 0
 ·simp only [if_pos c3, decide_eq_false (show ¬ (0 ≤ a ∧ a ≤ 1073741823) by omega), Bool.false_and]; exact jT
 by_cases c4 : a > 1073741823
 ·simp only [if_neg c3, decide_eq_true c4, decide_eq_false (show ¬ (0 ≤ a ∧ a ≤ 1073741823) by omega), Bool.false_and]; exact jT
 simp only [if_neg c3, decide_eq_false c4, decide_eq_true (show 0 ≤ a ∧ a ≤ 1073741823 by omega), Bool.true_and]; refine evSucc ?_; simp only [leadtrailref08_ValidShape.j0, Bool.false_eq_true, if_false]; exact refVShape_loop ps a hI (by omega) (by omega) (by omega) ps.length 0 (by omega) rfl
theorem refCount_is (ps : List (List Sp)) (a : Int) (hI : In2 ps) : Ev (fun k => leadtrailref09_Count.f k ps a) (if vShape ps a = true then cnt (sets ps) else 0) := by
 simp only [leadtrailref09_Count.f]; refine Ev.bind (refVShape_is ps a hI) ?_; cases hv : vShape ps a
 ·simp only [Bool.false_eq_true, if_false]; exact evNow _
 ·simp only [if_true]; obtain ⟨⟨l1, l2⟩, ⟨a1, a2⟩, hk, hg, hc⟩ := vShape_good hv; have := refCount8_is ps a hI hk l2; rw [show min (cnt (sets ps)) 1073741825 = cnt (sets ps) by omega] at this; exact Ev.bind this (evNow _)
end Go.Proofs.Ytkcklnmbeinfkaa.PBS
end
section
namespace Go.Proofs.Ytkcklnmbeinfkaa.PBS
open Go.RowKit Go.Proofs.YtkcklnmbeinfkaaW.PrintWords Go.Proofs.YtkcklnmbeinfkaaW.PrintLast Go.Proofs.YtkcklnmbeinfkaaW.PrintMore Go.Proofs.Ytkcklnmbeinfkaa.B Go.Proofs.LT Go.Proofs.Ytkcklnmbeinfkaa.PB3
set_option linter.unusedVariables false
set_option linter.unusedSimpArgs false
noncomputable def cntS (ps : List (List Sp)) (a : Int) : Int := if vShape ps a = true then cnt (sets ps) else 0
noncomputable def okB (ps : List (List Sp)) (a k : Int) : Bool := decide (0 ≤ k ∧ k < cntS ps a)
noncomputable def unS (ps : List (List Sp)) (a k : Int) : List Int := if okB ps a k = true then unr (sets ps) k else []
theorem okB_of {ps : List (List Sp)} {a k : Int} (h : okB ps a k = true) : vShape ps a = true ∧ 0 ≤ k ∧ k < cnt (sets ps) := by
 have h := of_decide_eq_true h; by_cases hv : vShape ps a = true
 ·have e : cntS ps a = cnt (sets ps) := if_pos hv; exact ⟨hv, h.1, by omega⟩
 ·have e : cntS ps a = 0 := if_neg hv; omega
end Go.Proofs.Ytkcklnmbeinfkaa.PBS
namespace Go.Proofs.Ytkcklnmbeinfkaa.Pure
open Go.Proofs.Ytkcklnmbeinfkaa.B Go.Proofs.YtkcklnmbeinfkaaW.PrintWords
end Go.Proofs.Ytkcklnmbeinfkaa.Pure
end
section
namespace Go.Proofs.Ytkcklnmbeinfkaa.PBS
open Go.RowKit Go.Proofs.YtkcklnmbeinfkaaW.PrintWords Go.Proofs.YtkcklnmbeinfkaaW.PrintLast Go.Proofs.YtkcklnmbeinfkaaW.PrintMore Go.Proofs.Ytkcklnmbeinfkaa.B Go.Proofs.LT Go.Proofs.Ytkcklnmbeinfkaa.PB3
set_option linter.unusedVariables false
set_option linter.unusedSimpArgs false
theorem div_mod_mul {k n c : Int} (hc : 0 < c) (hn : 0 < n) : k / (n * c) = k / c / n ∧ k % (n * c) = (k / c % n) * c + k % c := by
 have h1 := Int.emod_nonneg k (show c ≠ 0 by omega); have h2 := Int.emod_lt_of_pos k hc; have h3 := Int.emod_nonneg (k / c) (show n ≠ 0 by omega); have h4 := Int.emod_lt_of_pos (k / c) hn; have e1 := Int.ediv_mul_add_emod k c; have e2 := Int.ediv_mul_add_emod (k / c) n; have m0 := Int.mul_nonneg h3 (show 0 ≤ c by omega); have m1 := Int.mul_le_mul_of_nonneg_right (show k / c % n + 1 ≤ n by omega) (show 0 ≤ c by omega); rw [Int.add_mul, Int.one_mul] at m1; refine (Int.ediv_emod_unique (Int.mul_pos hn hc)).2 ⟨?_, by omega, by omega⟩; have e3 : n * c * (k / c / n) = k / c / n * n * c := by rw [Int.mul_comm, Int.mul_assoc]
 rw [e3]; have e4 : k / c * c = (k / c / n * n + k / c % n) * c := by rw [e2]
 rw [Int.add_mul] at e4; omega
theorem refSelect_at (p : List Sp) (d : Int) (hi : In1 p) (hk : okPart p = true) (h0 : 0 ≤ d) (h1 : d < size (runs p)) : Ev (fun k => leadtrailref03_Select.f k p d) (selV (runs p) d, true) := by
 have hs := okPart_good hk; obtain ⟨r, r1, r2⟩ := refSelect_is p d hi; rw [show p.map L113 = runs p from rfl, setL_of hs.1] at r2; have hS := selV_spec hs.1 h0 h1; obtain rfl := Sel.uniq hs.1 r2 (.inl ⟨_, hS.1, hS.2, rfl⟩); exact r1
theorem refUnrank_loop (ps : List (List Sp)) (a K : Int) (hI : In2 ps) (hk : ps.all okPart = true) (hl : ps.length ≤ 8) (hc : cnt (sets ps) ≤ 1073741824) (k0 : 0 ≤ K) (k1 : K < cnt (sets ps)) : ∀ (i : Nat), i ≤ ps.length →
 Ev (fun k => leadtrailref09_Unrank.l0 k (K / cnt (sets (ps.drop i))) ((i : Int) - 1) (List.replicate i 0 ++ unr (sets (ps.drop i)) (K % cnt (sets (ps.drop i)))) ps a) (unr (sets ps) K, true)
 | 0, _ => by
  refine evSucc ?_; rw [List.drop_zero, Int.emod_eq_of_lt k0 k1]; simp only [leadtrailref09_Unrank.l0, if_neg (show ¬ (((0 : Nat) : Int) - 1 ≥ 0) by omega)]; simpa using evNow (unr (sets ps) K, true)
 | i + 1, hi => by
  have hil : i < ps.length := by omega
  have ih := refUnrank_loop ps a K hI hk hl hc k0 k1 i (by omega); have hg := good_of hk; have hp := good_part hk hil; have hs := okPart_good hp; have hz := size_256 hs.1; have hpos : 1 ≤ cnt (sets (ps.drop (i + 1))) := by have := cnt_pos (hg.drop (i + 1)); rwa [sets_drop] at this
  have hcs := cnt_step ps i hil; obtain ⟨e1, e2⟩ := div_mod_mul (k := K) (show 0 < cnt (sets (ps.drop (i + 1))) by omega) (show 0 < size (runs ps[i]) by omega); rw [← hcs] at e1 e2; have q0 : 0 ≤ K / cnt (sets (ps.drop (i + 1))) := Int.ediv_nonneg k0 (by omega); have q1 : K / cnt (sets (ps.drop (i + 1))) ≤ K := Int.ediv_le_self _ k0; have d0 := Int.emod_nonneg (K / cnt (sets (ps.drop (i + 1)))) (show size (runs ps[i]) ≠ 0 by omega); have d1 := Int.emod_lt_of_pos (K / cnt (sets (ps.drop (i + 1)))) (show 0 < size (runs ps[i]) by omega); have r0 := Int.emod_nonneg K (show cnt (sets (ps.drop (i + 1))) ≠ 0 by omega); have r1 := Int.emod_lt_of_pos K (show 0 < cnt (sets (ps.drop (i + 1))) by omega); have hr := hs.1.range (selV_spec hs.1 d0 d1).1; have t1 : Int.tdiv (K / cnt (sets (ps.drop (i + 1)))) (size (runs ps[i])) = K / cnt (sets (ps.drop i)) := by rw [Int.tdiv_eq_ediv_of_nonneg q0, e1]
  have t2 : Int.tmod (K / cnt (sets (ps.drop (i + 1)))) (size (runs ps[i])) = K / cnt (sets (ps.drop (i + 1))) % size (runs ps[i]) := Int.tmod_eq_emod_of_nonneg q0; have q3 : 0 ≤ K / cnt (sets (ps.drop i)) := by rw [e1]; exact Int.ediv_nonneg q0 (by omega)
  have q4 : K / cnt (sets (ps.drop i)) ≤ K := by rw [e1]; exact Int.le_trans (Int.ediv_le_self _ q0) q1
  have hw : Aside0 (wrap64 (K / cnt (sets (ps.drop i))) = K / cnt (sets (ps.drop i))) := Aside0.mk (w64 (by omega) (by omega)); have hw2 : Aside0 (wrap64 ((i : Int) - 1) = (i : Int) - 1) := Aside0.mk (w64 (by omega) (by omega)); have hm : selV (runs ps[i]) (K / cnt (sets (ps.drop (i + 1))) % size (runs ps[i])) % 256 = selV (runs ps[i]) (K / cnt (sets (ps.drop (i + 1))) % size (runs ps[i])) := Int.emod_eq_of_lt hr.1 (by omega); have hlen : ((List.replicate (i + 1) (0 : Int) ++ unr (sets (ps.drop (i + 1))) (K % cnt (sets (ps.drop (i + 1))))).length : Nat) = ps.length := by
   rw [List.length_append, List.length_replicate, unr_len, sets_len, List.length_drop]; omega
  have eu : unr (sets (ps.drop i)) (K % cnt (sets (ps.drop i))) = selV (runs ps[i]) (K / cnt (sets (ps.drop (i + 1))) % size (runs ps[i])) :: unr (sets (ps.drop (i + 1))) (K % cnt (sets (ps.drop (i + 1)))) := by
   have e3 : (K % cnt (sets (ps.drop i))) / cnt (sets (ps.drop (i + 1))) = K / cnt (sets (ps.drop (i + 1))) % size (runs ps[i]) := by
    rw [e2, Int.add_comm, Int.add_mul_ediv_right _ _ (by omega), Int.ediv_eq_zero_of_lt r0 r1]; omega
   have e4 : (K % cnt (sets (ps.drop i))) % cnt (sets (ps.drop (i + 1))) = K % cnt (sets (ps.drop (i + 1))) := by
    rw [e2, Int.add_comm, Int.add_mul_emod_self_right, Int.emod_eq_of_lt r0 r1]
   rw [← e3, ← e4]; rw [List.drop_eq_getElem_cons hil]; exact unr_cons _ _ _
  refine evSucc ?_; rw [show (((i + 1 : Nat) : Int) - 1) = (i : Int) by omega]; simp only [leadtrailref09_Unrank.l0, if_pos (show (i : Int) ≥ 0 by omega), if_pos (show (0 : Int) ≤ (i : Int) by omega), if_pos (show (i : Int) < ((ps.length : Nat) : Int) by omega), rdL_at ps i hil]; refine Ev.bind (refSize_at _ (hI.2 _ (List.getElem_mem _)) hp) ?_; simp only [if_neg (show ¬ size (runs ps[i]) = 0 by omega)]; simp only [t1, t2]; refine Ev.bind (refSelect_at _ _ (hI.2 _ (List.getElem_mem _)) hp d0 d1) ?_; simp only [hlen, if_pos (show (i : Int) < ((ps.length : Nat) : Int) by omega), hw.out, hw2.out, hm, Int.toNat_natCast, set_mid]; rw [← eu]; exact ih
theorem refUnrank_is (ps : List (List Sp)) (a k : Int) (hI : In2 ps) : Ev (fun n => leadtrailref09_Unrank.f n ps a k) (unS ps a k, okB ps a k) := by
 have jT : Ev (fun n => leadtrailref09_Unrank.j0 n k true ps a) ([], false) := by
  refine evSucc ?_; simp only [leadtrailref09_Unrank.j0, if_true]; exact evNow _
 have no : okB ps a k = false → (unS ps a k, okB ps a k) = ([], false) := fun h => by rw [h]; unfold unS; rw [h]; rfl
 simp only [leadtrailref09_Unrank.f]; by_cases c : k < 0
 ·simp only [if_pos c]; rw [no (decide_eq_false (by omega))]; exact jT
 ·simp only [if_neg c]; refine Ev.bind (show Ev _ (cntS ps a) from refCount_is ps a hI) ?_; cases h : okB ps a k
  ·have := of_decide_eq_false h; rw [decide_eq_true (show k ≥ cntS ps a by omega)]; have e := no h; rw [h] at e; rw [e]; exact jT
  ·obtain ⟨hv, h0, h1⟩ := okB_of h; have h2 : 0 ≤ k ∧ k < cntS ps a := of_decide_eq_true h; obtain ⟨⟨l1, l2⟩, ⟨a1, a2⟩, hk, hg, hc⟩ := vShape_good hv; rw [decide_eq_false (show ¬ k ≥ cntS ps a by omega)]; refine evSucc ?_; have := refUnrank_loop ps a k hI hk l2 (by omega) h0 h1 ps.length (Nat.le_refl _); rw [List.drop_length, show cnt (sets []) = 1 from cnt_nil, Int.ediv_one, show unr (sets []) (k % 1) = [] from unr_nil _, List.append_nil] at this; have hw2 : Aside0 (wrap64 ((ps.length : Int) - 1) = (ps.length : Int) - 1) := Aside0.mk (w64 (by omega) (by omega)); simp only [leadtrailref09_Unrank.j0, Bool.false_eq_true, if_false, if_pos (show (0 : Int) ≤ ((ps.length : Nat) : Int) by omega), Int.toNat_natCast, if_pos (show ps.length ≤ 281474976710656 by omega), Option.bind_some, List.length_replicate, hw2.out]; unfold unS; simp only [h, if_true]; exact this
theorem same_loop (ps : List (List Sp)) (a : Int) (hI : In2 ps) : ∀ (n i : Nat), i + n = ps.length → Ev (fun k => leadtrailref08_SameShape.l0 k (i : Int) ps a ps a) true
 | 0, i, hi => by
  refine evSucc ?_; simp only [leadtrailref08_SameShape.l0, if_neg (show ¬ (i : Int) < (ps.length : Int) by omega)]; exact evNow _
 | n + 1, i, hi => by
  have hil : i < ps.length := by omega
  have h2 := hI.1; have ih := same_loop ps a hI n (i + 1) (by omega); have hw2 : Aside0 (wrap64 ((i : Int) + 1) = ((i + 1 : Nat) : Int)) := Aside0.mk (by rw [w64 (by omega) (by omega)]; simp); refine evSucc ?_; simp only [leadtrailref08_SameShape.l0, if_pos (show (i : Int) < ((ps.length : Nat) : Int) by omega), if_pos (show (0 : Int) ≤ (i : Int) by omega), rdL_at ps i hil]; refine Ev.bind (leadtrailref03_Same_self _ (hI.2 _ (List.getElem_mem _))) ?_; simp only [if_true, hw2.out]; exact ih
theorem SameShape_self (ps : List (List Sp)) (a : Int) (hI : In2 ps) : Ev (fun k => leadtrailref08_SameShape.f k ps a ps a) true := by
 simp only [leadtrailref08_SameShape.f, if_true, bne_self_eq_false]; refine evSucc ?_; simp only [leadtrailref08_SameShape.j0, Bool.false_eq_true, if_false]; exact same_loop ps a hI ps.length 0 (by omega)
end Go.Proofs.Ytkcklnmbeinfkaa.PBS
end
section
namespace Go.Proofs.Ytkcklnmbeinfkaa.PBS
open Go.RowKit Go.Proofs.YtkcklnmbeinfkaaW.PrintWords Go.Proofs.YtkcklnmbeinfkaaW.PrintLast Go.Proofs.YtkcklnmbeinfkaaW.PrintMore Go.Proofs.Ytkcklnmbeinfkaa.B Go.Proofs.LT Go.Proofs.Ytkcklnmbeinfkaa.PB3
set_option linter.unusedVariables false
set_option linter.unusedSimpArgs false
def C (p : Sh) : Cs := (sets p.f0, p.f1)
def cs (ss : List Sh) : List Cs := ss.map C
theorem last_C (p : Sh) : lastC (C p) = lastOf p := rfl
theorem vS_facts : ∀ (t pre : List Sh), vS pre t = true → (∀ p ∈ t, vShape p.f0 p.f1 = true) ∧ (∀ q ∈ pre, ∀ p ∈ t, meetsB p q = false) ∧ Apart (cs t)
 | [], _, _ => ⟨fun _ h => (by cases h), fun _ _ _ h => (by cases h), trivial⟩
 | p :: t, pre, h => by
  have h' : (vShape p.f0 p.f1 && (!(pre.any (meetsB p)) && vS (pre ++ [p]) t)) = true := h; simp only [Bool.and_eq_true, Bool.not_eq_true'] at h'; obtain ⟨h1, h2, h3⟩ := h'; obtain ⟨k1, k2, k3⟩ := vS_facts t (pre ++ [p]) h3; refine ⟨fun q hq => ?_, fun q hq r hr => ?_, fun r hr => ?_, k3⟩
  ·rcases List.mem_cons.1 hq with rfl | hq
   ·exact h1
   ·exact k1 q hq
  ·rcases List.mem_cons.1 hr with rfl | hr
   ·cases e : meetsB r q
    ·rfl
    ·rw [List.any_eq_true.2 ⟨q, hq, e⟩] at h2; cases h2
   ·exact k2 q (List.mem_append_left _ hq) r hr
  ·obtain ⟨q, hq, rfl⟩ := List.mem_map.1 hr; have e := k2 p (List.mem_append_right _ (List.mem_singleton.2 rfl)) q hq; simp only [meetsB, Bool.and_eq_false_iff, decide_eq_false_iff_not] at e; rw [last_C, last_C]; show lastOf p < q.f1 ∨ lastOf q < p.f1; omega
theorem vScheme_facts {ss : List Sh} (h : vScheme ss = true) : ss.length ≤ 32 ∧ (∀ p ∈ ss, vShape p.f0 p.f1 = true) ∧ Apart (cs ss) ∧ AllGood (cs ss) := by
 simp only [vScheme, Bool.and_eq_true, decide_eq_true_eq] at h; obtain ⟨k1, k2, k3⟩ := vS_facts ss [] h.2; refine ⟨h.1, k1, k3, fun p hp => ?_⟩; obtain ⟨q, hq, rfl⟩ := List.mem_map.1 hp; exact (vShape_good (k1 q hq)).2.2.2.1
theorem rdSh_at (ss : List Sh) (i : Nat) (h : i < ss.length) : rd_T50 ss (i : Int) = ss[i] := by simp [rd_T50, List.getD, h]
theorem succ_wrap (i : Nat) (h : i ≤ 4611686018427387904) : Aside0 (wrap64 ((i : Int) + 1) = ((i + 1 : Nat) : Int)) := Aside0.mk (by rw [w64 (by omega) (by omega)]; simp)
theorem refMeet_loop (ss : List Sh) (hI : InS ss) (i : Nat) (hi : i < ss.length) (hs : ss.length ≤ 32) (hv : ∀ p ∈ ss.take (i + 1), vShape p.f0 p.f1 = true) : ∀ (n j : Nat), j + n = i → ((ss.take j).any (meetsB ss[i]) = false) →
 Ev (fun k => leadtrailref08_meet.l0 k ss (i : Int) (j : Int)) ((ss.take i).any (meetsB ss[i]))
 | 0, j, hj, hno => by
  refine evSucc ?_; obtain rfl : j = i := by omega
  simp only [leadtrailref08_meet.l0, if_neg (show ¬ (j : Int) < (j : Int) by omega)]; rw [hno]; exact evNow _
 | n + 1, j, hj, hno => by
  have hjl : j < ss.length := by omega
  have vi := vShape_good (hv ss[i] (by rw [List.take_succ_eq_append_getElem hi]; exact List.mem_append_right _ (List.mem_singleton.2 rfl))); have vj := vShape_good (hv ss[j] (by
   have : (ss.take (i + 1))[j]'(by simp; omega) = ss[j] := List.getElem_take ..; rw [← this]; exact List.getElem_mem _))
  have pi := cnt_pos vi.2.2.2.1; have pj := cnt_pos vj.2.2.2.1; have ci := refCount8_is ss[i].f0 ss[i].f1 (hI.2 _ (List.getElem_mem _)) vi.2.2.1 vi.1.2; have cj := refCount8_is ss[j].f0 ss[j].f1 (hI.2 _ (List.getElem_mem _)) vj.2.2.1 vj.1.2; rw [show min (cnt (sets ss[i].f0)) 1073741825 = cnt (sets ss[i].f0) by omega] at ci; rw [show min (cnt (sets ss[j].f0)) 1073741825 = cnt (sets ss[j].f0) by omega] at cj; have hw := succ_wrap j (by omega); have wi : Aside0 (wrap64 (wrap64 (ss[i].f1 + cnt (sets ss[i].f0)) - 1) = lastOf ss[i]) := Aside0.mk (by rw [w64 (x := ss[i].f1 + cnt (sets ss[i].f0)) (by omega) (by omega), w64 (by omega) (by omega)]; rfl); have wj : Aside0 (wrap64 (wrap64 (ss[j].f1 + cnt (sets ss[j].f0)) - 1) = lastOf ss[j]) := Aside0.mk (by rw [w64 (x := ss[j].f1 + cnt (sets ss[j].f0)) (by omega) (by omega), w64 (by omega) (by omega)]; rfl); have yes : meetsB ss[i] ss[j] = true → (ss.take i).any (meetsB ss[i]) = true := fun h => by
   refine List.any_eq_true.2 ⟨ss[j], ?_, h⟩; have : (ss.take i)[j]'(by simp; omega) = ss[j] := List.getElem_take ..; rw [← this]; exact List.getElem_mem _
  have next : meetsB ss[i] ss[j] = false → Ev (fun k => leadtrailref08_meet.l0 k ss (i : Int) (wrap64 ((j : Int) + 1))) ((ss.take i).any (meetsB ss[i])) := fun h => by
   rw [hw.out]; refine refMeet_loop ss hI i hi hs hv n (j + 1) (by omega) ?_; rw [List.take_succ_eq_append_getElem hjl, List.any_append, hno]; simp [h]
  refine evSucc ?_; simp only [leadtrailref08_meet.l0, if_pos (show (j : Int) < (i : Int) by omega), if_pos (show (0 : Int) ≤ (i : Int) by omega), if_pos (show (i : Int) < (ss.length : Int) by omega), if_pos (show (0 : Int) ≤ (j : Int) by omega), if_pos (show (j : Int) < (ss.length : Int) by omega), rdSh_at ss i hi, rdSh_at ss j hjl]; refine Ev.bind cj ?_; simp only [wj.out]; by_cases c1 : ss[i].f1 ≤ lastOf ss[j]
  ·simp only [if_pos c1]; refine Ev.bind ci ?_; simp only [wi.out]; by_cases c2 : ss[j].f1 ≤ lastOf ss[i]
   ·simp only [if_pos c2]; rw [yes (by simp only [meetsB, decide_eq_true c1, decide_eq_true c2]; rfl)]; exact evNow _
   ·simp only [if_neg c2]; exact next (by simp only [meetsB, decide_eq_false c2, Bool.and_false])
  ·simp only [if_neg c1]; exact next (by simp only [meetsB, decide_eq_false c1, Bool.false_and])
theorem refValid_loop8 (ss : List Sh) (hI : InS ss) (hs : ss.length ≤ 32) : ∀ (n i : Nat), i + n = ss.length → (∀ p ∈ ss.take i, vShape p.f0 p.f1 = true) →
 Ev (fun k => leadtrailref08_Valid.l0 k (i : Int) ss) (vS (ss.take i) (ss.drop i))
 | 0, i, hi, hv => by
  refine evSucc ?_; simp only [leadtrailref08_Valid.l0, if_neg (show ¬ (i : Int) < (ss.length : Int) by omega)]; rw [List.drop_of_length_le (by omega)]; exact evNow _
 | n + 1, i, hi, hv => by
  have hil : i < ss.length := by omega
  have hw := succ_wrap i (by omega); have e : vS (ss.take i) (ss.drop i) = (vShape ss[i].f0 ss[i].f1 && (!((ss.take i).any (meetsB ss[i])) && vS (ss.take (i + 1)) (ss.drop (i + 1)))) := by
   rw [List.drop_eq_getElem_cons hil, List.take_succ_eq_append_getElem hil]; rfl
  rw [e]; refine evSucc ?_; simp only [leadtrailref08_Valid.l0, if_pos (show (i : Int) < (ss.length : Int) by omega), if_pos (show (0 : Int) ≤ (i : Int) by omega), rdSh_at ss i hil]; refine Ev.bind (refVShape_is _ _ (hI.2 _ (List.getElem_mem _))) ?_; cases hp : vShape ss[i].f0 ss[i].f1
  ·simp only [Bool.false_eq_true, if_false, Bool.false_and]; exact evNow _
  ·simp only [if_true, Bool.true_and]; have hv' : ∀ p ∈ ss.take (i + 1), vShape p.f0 p.f1 = true := fun p hq => by
    rw [List.take_succ_eq_append_getElem hil] at hq; rcases List.mem_append.1 hq with h | h
    ·exact hv p h
    ·rw [List.mem_singleton.1 h]; exact hp
   have hm := refMeet_loop ss hI i hil hs hv' i 0 (by omega) (by simp); refine Ev.bind (show Ev (fun k => leadtrailref08_meet.f k ss (i : Int)) _ from hm) ?_; cases hq : (ss.take i).any (meetsB ss[i])
   ·simp only [Bool.false_eq_true, if_false, Bool.not_false, Bool.true_and, hw.out]; exact refValid_loop8 ss hI hs n (i + 1) (by omega) hv'
   ·simp only [if_true, Bool.not_true, Bool.false_and]; exact evNow _
theorem refValid8_is (ss : List Sh) (hI : InS ss) : Ev (fun k => leadtrailref08_Valid.f k ss) (vScheme ss) := by
 simp only [leadtrailref08_Valid.f]; by_cases c : (ss.length : Int) > 32
 ·simp only [if_pos c]; rw [show vScheme ss = false by simp only [vScheme, decide_eq_false (show ¬ ss.length ≤ 32 by omega), Bool.false_and]]; exact evNow _
 ·simp only [if_neg c]; rw [show vScheme ss = vS [] ss by simp only [vScheme, decide_eq_true (show ss.length ≤ 32 by omega), Bool.true_and]]; simpa using refValid_loop8 ss hI (by omega) ss.length 0 (by omega) (by simp)
theorem copyS_loop (ss : List Sh) (hI : InS ss) : ∀ (n i : Nat), i + n = ss.length → Ev (fun k => leadtrailref08_Copy.l0 k (i : Int) ss (ss.take i)) ss
 | 0, i, hi => by
  refine evSucc ?_; simp only [leadtrailref08_Copy.l0, if_neg (show ¬ (i : Int) < (ss.length : Int) by omega)]; rw [List.take_of_length_le (by omega)]; exact evNow _
 | n + 1, i, hi => by
  have hil : i < ss.length := by omega
  have h2 := hI.1; have hw := succ_wrap i (by omega); have ih := copyS_loop ss hI n (i + 1) (by omega); rw [List.take_succ_eq_append_getElem hil] at ih; refine evSucc ?_; simp only [leadtrailref08_Copy.l0, if_pos (show (i : Int) < (ss.length : Int) by omega), if_pos (show (0 : Int) ≤ (i : Int) by omega), rdSh_at ss i hil]; refine Ev.bind (Copy_is _ _ (hI.2 _ (List.getElem_mem _))) ?_; simp only [if_pos (show (ss.take i).length < 4398046511104 by rw [List.length_take]; omega), hw.out]; exact ih
theorem CopyS_is (ss : List Sh) (hI : InS ss) : Ev (fun k => leadtrailref08_Copy.f k ss) ss := by
 have := copyS_loop ss hI ss.length 0 (by omega); rw [List.take_zero] at this; exact this
theorem sameS_loop (ss : List Sh) (hI : InS ss) : ∀ (n i : Nat), i + n = ss.length → Ev (fun k => leadtrailref08_Same.l0 k (i : Int) ss ss) true
 | 0, i, hi => by
  refine evSucc ?_; simp only [leadtrailref08_Same.l0, if_neg (show ¬ (i : Int) < (ss.length : Int) by omega)]; exact evNow _
 | n + 1, i, hi => by
  have hil : i < ss.length := by omega
  have h2 := hI.1; have hw := succ_wrap i (by omega); refine evSucc ?_; simp only [leadtrailref08_Same.l0, if_pos (show (i : Int) < (ss.length : Int) by omega), if_pos (show (0 : Int) ≤ (i : Int) by omega), rdSh_at ss i hil]; refine Ev.bind (SameShape_self _ _ (hI.2 _ (List.getElem_mem _))) ?_; simp only [if_true, hw.out]; exact sameS_loop ss hI n (i + 1) (by omega)
theorem SameS_self (ss : List Sh) (hI : InS ss) : Ev (fun k => leadtrailref08_Same.f k ss ss) true := by
 simp only [leadtrailref08_Same.f, if_true]; exact sameS_loop ss hI ss.length 0 (by omega)
theorem okB_hit {ps : List (List Sp)} {a u : Int} (hv : vShape ps a = true) : okB ps a (u - a) = hitC u (sets ps, a) := by
 unfold okB hitC cntS; rw [if_pos hv, Bool.eq_iff_iff, decide_eq_true_iff, Bool.and_eq_true, decide_eq_true_iff, decide_eq_true_iff]; show 0 ≤ u - a ∧ _ ↔ a ≤ u ∧ _; constructor <;> rintro ⟨h1, h2⟩ <;> exact ⟨by omega, h2⟩
theorem encC_cons (p : Cs) (t : List Cs) (u : Int) : encC (p :: t) u = if hitC u p = true then some (unr p.1 (u - p.2)) else encC t u := rfl
theorem cs_drop (ss : List Sh) (i : Nat) (h : i < ss.length) : cs (ss.drop i) = C ss[i] :: cs (ss.drop (i + 1)) := by rw [List.drop_eq_getElem_cons h]; rfl
theorem wf_range {x : Int} (h : (Lit.int .i64 x).wf = true) : -9223372036854775808 ≤ x ∧ x ≤ 9223372036854775807 := by
 simp [Lit.wf] at h; exact ⟨h.1, h.2⟩
theorem find_loop (ss : List Sh) (u : Int) (hI : InS ss) (hs : ss.length ≤ 32) (hv : ∀ p ∈ ss, vShape p.f0 p.f1 = true) : ∀ (n i : Nat), i + n = ss.length →
 ∃ r, Ev (fun k => leadtrailref10_Find.l0 k u (i : Int) ss) r ∧ ((r = -1 ∧ encC (cs (ss.drop i)) u = none) ∨ ∃ (j : Nat) (hj : j < ss.length), r = (j : Int) ∧ hitC u (C ss[j]) = true ∧ encC (cs (ss.drop i)) u = some (unr (sets ss[j].f0) (u - ss[j].f1)))
 | 0, i, hi => by
  refine ⟨-1, evSucc ?_, .inl ⟨rfl, by rw [List.drop_of_length_le (by omega)]; rfl⟩⟩; simp only [leadtrailref10_Find.l0, if_neg (show ¬ (i : Int) < (ss.length : Int) by omega)]; exact evNow _
 | n + 1, i, hi => by
  have hil : i < ss.length := by omega
  have hw := succ_wrap i (by omega); have vi := hv _ (List.getElem_mem hil); have vg := vShape_good vi; have pi := cnt_pos vg.2.2.2.1; have ci := refCount8_is ss[i].f0 ss[i].f1 (hI.2 _ (List.getElem_mem _)) vg.2.2.1 vg.1.2; rw [show min (cnt (sets ss[i].f0)) 1073741825 = cnt (sets ss[i].f0) by omega] at ci; have wi : Aside0 (wrap64 (wrap64 (ss[i].f1 + cnt (sets ss[i].f0)) - 1) = lastOf ss[i]) := Aside0.mk (by rw [w64 (x := ss[i].f1 + cnt (sets ss[i].f0)) (by omega) (by omega), w64 (by omega) (by omega)]; rfl); obtain ⟨r, ih, ihr⟩ := find_loop ss u hI hs hv n (i + 1) (by omega); have hlo : lastOf ss[i] = ss[i].f1 + cnt (sets ss[i].f0) - 1 := rfl; have e1 : (C ss[i]).2 = ss[i].f1 ∧ (C ss[i]).1 = sets ss[i].f0 := ⟨rfl, rfl⟩; have key : ∀ g : Nat → Option Int, (hitC u (C ss[i]) = true → Ev g (i : Int)) → (hitC u (C ss[i]) = false → Ev g r) →
   ∃ r, Ev g r ∧ ((r = -1 ∧ encC (cs (ss.drop i)) u = none) ∨ ∃ (j : Nat) (hj : j < ss.length), r = (j : Int) ∧ hitC u (C ss[j]) = true ∧ encC (cs (ss.drop i)) u = some (unr (sets ss[j].f0) (u - ss[j].f1))) := fun g ga gb => by
   rw [cs_drop ss i hil, encC_cons]; cases hh : hitC u (C ss[i])
   ·exact ⟨r, gb hh, ihr⟩
   ·exact ⟨_, ga hh, .inr ⟨i, hil, rfl, hh, rfl⟩⟩
  refine key _ (fun hh => evSucc ?_) (fun hh => evSucc ?_)
  ·have h' := hitC_iff.1 hh; rw [e1.1, e1.2] at h'; simp only [leadtrailref10_Find.l0, if_pos (show (i : Int) < (ss.length : Int) by omega), if_pos (show (0 : Int) ≤ (i : Int) by omega), rdSh_at ss i hil, if_pos (show u ≥ ss[i].f1 by omega)]; refine Ev.bind ci ?_; simp only [wi.out, if_pos (show u ≤ lastOf ss[i] by omega)]; exact evNow _
  ·have h' : ¬ (ss[i].f1 ≤ u ∧ u - ss[i].f1 < cnt (sets ss[i].f0)) := fun h => by
    have : hitC u (C ss[i]) = true := hitC_iff.2 h; rw [hh] at this; cases this
   simp only [leadtrailref10_Find.l0, if_pos (show (i : Int) < (ss.length : Int) by omega), if_pos (show (0 : Int) ≤ (i : Int) by omega), rdSh_at ss i hil, hw.out]; by_cases c : u ≥ ss[i].f1
   ·simp only [if_pos c]; refine Ev.bind ci ?_; simp only [wi.out, if_neg (show ¬ u ≤ lastOf ss[i] by omega)]; exact ih
   ·simp only [if_neg c]; exact ih
def ofR : Option (List Int) → List Int × Bool
 | some b => (b, true)
 | none => ([], false)
theorem refOf_is (ss : List Sh) (u : Int) (hI : InS ss) (h : vScheme ss = true) (hu : (Lit.int .i64 u).wf = true) : Ev (fun k => leadtrailref10_Of.f k ss u) (ofR (encC (cs ss) u)) := by
 obtain ⟨h1, h2, _⟩ := vScheme_facts h; obtain ⟨r, g1, g2⟩ := find_loop ss u hI h1 h2 ss.length 0 (by omega); rw [List.drop_zero] at g2; have hur := wf_range hu; simp only [leadtrailref10_Of.f]; refine Ev.bind (show Ev (fun k => leadtrailref10_Find.f k ss u) r from g1) ?_; rcases g2 with ⟨rfl, e⟩ | ⟨j, hj, rfl, hh, e⟩
 ·rw [e]; simp only [if_pos (show (-1 : Int) < 0 by omega)]; exact evNow _
 ·have vj := h2 _ (List.getElem_mem hj); have vg := vShape_good vj; have h' := hitC_iff.1 hh; have w1 : Aside0 (wrap64 (u - ss[j].f1) = u - ss[j].f1) := Aside0.mk (by
   have h3 : ss[j].f1 ≤ u := h'.1; exact w64 (by omega) (by omega))
  have eo := okB_hit (u := u) vj; rw [show (sets ss[j].f0, ss[j].f1) = C ss[j] from rfl, hh] at eo; rw [e]; simp only [if_neg (show ¬ (j : Int) < 0 by omega), if_pos (show (0 : Int) ≤ (j : Int) by omega), if_pos (show (j : Int) < (ss.length : Int) by omega), rdSh_at ss j hj, w1.out]; refine Ev.bind (refUnrank_is _ _ _ (hI.2 _ (List.getElem_mem _))) ?_; simp only [unS, eo, if_true]; exact evNow _
theorem enc_range {ss : List Sh} (h : vScheme ss = true) {u : Int} {x : List Int} (he : encC (cs ss) u = some x) : (0 ≤ u ∧ u ≤ 1073741823) ∧ (∀ b ∈ x, 0 ≤ b ∧ b ≤ 255) ∧ 1 ≤ x.length ∧ x.length ≤ 8 := by
 obtain ⟨h1, h2, _, h4⟩ := vScheme_facts h; obtain ⟨p, hp, hh, rfl⟩ := encC_mem he; obtain ⟨q, hq, rfl⟩ := List.mem_map.1 hp; have vg := vShape_good (h2 q hq); have h' := hitC_iff.1 hh; have e1 : (C q).2 = q.f1 ∧ (C q).1 = sets q.f0 := ⟨rfl, rfl⟩; rw [e1.1, e1.2] at h'; rw [e1.1, e1.2]; refine ⟨by omega, unr_range vg.2.2.2.1 (by omega) h'.2, ?_⟩; rw [unr_len, sets_len]; exact vg.1
end Go.Proofs.Ytkcklnmbeinfkaa.PBS
end
section
namespace Go.Proofs.Ytkcklnmbeinfkaa.PBS
open Go.RowKit Go.Proofs.YtkcklnmbeinfkaaW.PrintWords Go.Proofs.YtkcklnmbeinfkaaW.PrintLast Go.Proofs.YtkcklnmbeinfkaaW.PrintMore Go.Proofs.Ytkcklnmbeinfkaa.B Go.Proofs.LT Go.Proofs.Ytkcklnmbeinfkaa.PB3
set_option linter.unusedVariables false
set_option linter.unusedSimpArgs false
def one1 (lo hi : Int) : List Sp := [⟨lo, hi⟩]
theorem one_valid {lo hi : Int} (h0 : 0 ≤ lo) (h1 : lo ≤ hi) (h2 : hi ≤ 255) : ValidFrom 255 (-2) (runs (one1 lo hi)) := ⟨h0, h1, h2, by show (-2 : Int) < lo - 1; omega, trivial⟩
theorem one_size (lo hi : Int) : size (runs (one1 lo hi)) = hi - lo + 1 := by
 show size [(lo, hi)] = _; rw [size_cons, size_nil]; omega
theorem one_ok {lo hi : Int} (h0 : 0 ≤ lo) (h1 : lo ≤ hi) (h2 : hi ≤ 255) : okPart (one1 lo hi) = true := by
 simp only [okPart, (validB_iff _ _ _).2 (one_valid h0 h1 h2)]; rfl
theorem one_in (lo hi : Int) : In1 (one1 lo hi) := by show 1 * 16 ≤ 140737488351232; omega
theorem one_memB {lo hi x : Int} (h1 : lo ≤ x) (h2 : x ≤ hi) : memB (runs (one1 lo hi)) x = true := memB_iff.2 ⟨(lo, hi), List.mem_cons_self, h1, h2⟩
theorem one_cd {lo hi x : Int} (h0 : 0 ≤ lo) (h1 : lo ≤ x) (h2 : x ≤ hi) (h3 : hi ≤ 255) : (cd (memB (runs (one1 lo hi))) x.toNat : Int) = x - lo :=
 cd_in_first (r := (lo, hi)) (t := []) (one_valid h0 (by omega) h3) h1 (by show x ≤ hi + 1; omega)
def some10 : List Sh := [⟨[one1 194 223, one1 128 191], 128⟩, ⟨[one1 0 127], 0⟩]
theorem c10a : cnt (sets [one1 194 223, one1 128 191]) = 1920 := by
 show cnt [runs (one1 194 223), runs (one1 128 191)] = 1920; rw [cnt_cons, cnt_cons, cnt_nil, one_size, one_size]; rfl
theorem c10b : cnt (sets [one1 0 127]) = 128 := by
 show cnt [runs (one1 0 127)] = 128; rw [cnt_cons, cnt_nil, one_size]; rfl
theorem v10 : vScheme some10 = true := by
 have h1 : vShape [one1 194 223, one1 128 191] 128 = true := by
  unfold vShape; rw [c10a]; simp [one_ok (show (0 : Int) ≤ 194 by decide) (show (194 : Int) ≤ 223 by decide) (by decide), one_ok (show (0 : Int) ≤ 128 by decide) (show (128 : Int) ≤ 191 by decide) (by decide)]
 have h2 : vShape [one1 0 127] 0 = true := by
  unfold vShape; rw [c10b]; simp [one_ok (show (0 : Int) ≤ 0 by decide) (show (0 : Int) ≤ 127 by decide) (by decide)]
 have h3 : meetsB ⟨[one1 0 127], 0⟩ ⟨[one1 194 223, one1 128 191], 128⟩ = false := by
  simp only [meetsB, lastOf, c10a, c10b]; decide
 show (decide (2 ≤ 32) && (vShape [one1 194 223, one1 128 191] 128 && (!([] : List Sh).any (meetsB _) && (vShape [one1 0 127] 0 && (!([⟨[one1 194 223, one1 128 191], 128⟩] : List Sh).any (meetsB ⟨[one1 0 127], 0⟩) && true))))) = true; rw [h1, h2]; simp [h3]
theorem i64_small {x : Int} (h0 : 0 ≤ x) (h1 : x ≤ 1073741823) : (Lit.int .i64 x).wf = true := wf64 (by omega) (by omega)
end Go.Proofs.Ytkcklnmbeinfkaa.PBS
end
section
namespace Go.Proofs.Ytkcklnmbeinfkaa.PBS
open Go.RowKit Go.Proofs.YtkcklnmbeinfkaaW.PrintWords Go.Proofs.YtkcklnmbeinfkaaW.PrintLast Go.Proofs.YtkcklnmbeinfkaaW.PrintMore Go.Proofs.Ytkcklnmbeinfkaa.B Go.Proofs.LT Go.Proofs.Ytkcklnmbeinfkaa.PB3
set_option linter.unusedVariables false
set_option linter.unusedSimpArgs false
open Classical in
noncomputable def comO (n : Nat) (p q : List (List Run)) : Option (List Int) := if h : ∃ b, Com n p q b then some (Classical.choose h) else none
theorem comO_of {n : Nat} {p q : List (List Run)} {b : List Int} (h : Com n p q b) : comO n p q = some b := by
 have h' : ∃ b, Com n p q b := ⟨b, h⟩
 unfold comO; rw [dif_pos h', Com.uniq (Classical.choose_spec h') h]
theorem comO_some {n : Nat} {p q : List (List Run)} {b : List Int} (h : comO n p q = some b) : Com n p q b := by
 unfold comO at h; split at h
 ·rename_i h'
  obtain rfl := Option.some.inj h; exact Classical.choose_spec h'
 ·cases h
theorem comO_none {n : Nat} {p q : List (List Run)} (h : comO n p q = none) (b : List Int) : ¬ Com n p q b := fun hb => by rw [comO_of hb] at h; cases h
theorem comO_no {n : Nat} {p q : List (List Run)} (h : ∀ b, ¬ Com n p q b) : comO n p q = none := by
 cases e : comO n p q with
 | none => rfl
 | some b => exact (h b (comO_some e)).elim
theorem comO_zero (p q : List (List Run)) : comO 0 p q = some [] := comO_of (show Com 0 p q [] from rfl)
theorem comO_yes {n : Nat} {s t : List Run} {p q : List (List Run)} {x : Int} (h1 : Mem s x) (h2 : Mem t x) (h3 : ∀ y, Mem s y → Mem t y → x ≤ y) : comO (n + 1) (s :: p) (t :: q) = (comO n p q).map (x :: ·) := by
 cases e : comO n p q with
 | none =>
  refine comO_no fun b hb => ?_
  cases b with
  | nil => exact hb.elim
  | cons y b => exact comO_none e b hb.2.2.2
 | some b => exact comO_of ⟨h1, h2, h3, comO_some e⟩
theorem comO_bar {n : Nat} {s t : List Run} {p q : List (List Run)} (h : ∀ y, Mem s y → ¬ Mem t y) : comO (n + 1) (s :: p) (t :: q) = none :=
 comO_no fun b hb => by
  cases b with
  | nil => exact hb.elim
  | cons y b => exact h y hb.1 hb.2.1
def cmR (out : List Int) : Option (List Int) → List Int × Bool
 | some b => (out ++ b, true)
 | none => ([], false)
theorem cmR_cons (out : List Int) (x : Int) (r : Option (List Int)) : cmR (out ++ [x]) r = cmR out (r.map (x :: ·)) := by
 cases r with
 | none => rfl
 | some b => simp [cmR]
theorem common_loop (ps qs : List (List Sp)) (a c : Int) (hI : In2 ps) (hJ : In2 qs) (hk : ps.all okPart = true) (hk2 : qs.all okPart = true) (m : Nat) (hm : m ≤ ps.length) (hm2 : m ≤ qs.length) (hl : m ≤ 8) : ∀ (n i : Nat) (out : List Int), i + n = m → out.length = i →
 Ev (fun k => shape_Common.l0 k out (m : Int) (i : Int) ps a qs c) (cmR out (comO n (sets (ps.drop i)) (sets (qs.drop i))))
 | 0, i, out, hi, ho => by
  refine evSucc ?_; simp only [shape_Common.l0, if_neg (show ¬ (i : Int) < (m : Int) by omega)]; rw [comO_zero]; simpa [cmR] using evNow (out, true)
 | n + 1, i, out, hi, ho => by
  have hil : i < ps.length := by omega
  have hjl : i < qs.length := by omega
  have hp := okPart_good (good_part hk hil); have hq := okPart_good (good_part hk2 hjl); obtain ⟨t, t1, t2⟩ := spans_Meet_is ps[i] qs[i] (hI.2 _ (List.getElem_mem _)) (hJ.2 _ (List.getElem_mem _)); rw [show ps[i].map L113 = runs ps[i] from rfl, show qs[i].map L113 = runs qs[i] from rfl, setL_of hp.1, setL_of hq.1] at t2; have hw2 : Aside0 (wrap64 ((i : Int) + 1) = ((i + 1 : Nat) : Int)) := Aside0.mk (by rw [w64 (by omega) (by omega)]; simp); rw [show sets (ps.drop i) = runs ps[i] :: sets (ps.drop (i + 1)) by rw [List.drop_eq_getElem_cons hil]; rfl, show sets (qs.drop i) = runs qs[i] :: sets (qs.drop (i + 1)) by rw [List.drop_eq_getElem_cons hjl]; rfl]; refine evSucc ?_; simp only [shape_Common.l0, if_pos (show (i : Int) < (m : Int) by omega), if_pos (show (0 : Int) ≤ (i : Int) by omega), if_pos (show (i : Int) < ((ps.length : Nat) : Int) by omega), if_pos (show (i : Int) < ((qs.length : Nat) : Int) by omega), rdL_at ps i hil, rdL_at qs i hjl]; refine Ev.bind t1 ?_; cases t with
  | nil =>
   simp only [List.length_nil, if_pos (show ((0 : Nat) : Int) = 0 by omega)]; rw [comO_bar (fun y h1 h2 => Mem.nil ((t2.2.2 y).2 ⟨h1, h2⟩))]; exact evNow _
  | cons r u =>
   have hr := t2.1; have hmem : Mem ((r :: u).map L113) r.f0 := ⟨L113 r, List.mem_cons_self, Int.le_refl _, hr.2.1⟩; have hb := (t2.2.2 r.f0).1 hmem; have hrg := hr.range hmem; have hlow : ∀ y, Mem (runs ps[i]) y → Mem (runs qs[i]) y → r.f0 ≤ y := fun y h1 h2 => by
    rcases mem_cons.1 ((t2.2.2 y).2 ⟨h1, h2⟩) with h | h
    ·exact h.1
    ·have h3 : (L113 r).2 + 1 < y := ValidFrom.gt hr.2.2.2.2 h; have h4 : (L113 r).1 ≤ (L113 r).2 := hr.2.1; have h5 : (L113 r).1 = r.f0 := rfl; omega
   have hrd : (rd_T113 (r :: u) 0).f0 = r.f0 := rfl; have hmod : r.f0 % 256 = r.f0 := Int.emod_eq_of_lt hrg.1 (by omega); have ih := common_loop ps qs a c hI hJ hk hk2 m hm hm2 hl n (i + 1) (out ++ [r.f0]) (by omega) (by simp [ho]); rw [comO_yes hb.1 hb.2 hlow, ← cmR_cons]; simp only [List.length_cons, if_neg (show ¬ ((u.length + 1 : Nat) : Int) = 0 by omega), if_pos (show (0 : Int) < ((u.length + 1 : Nat) : Int) by omega), if_pos (show out.length < 140737488355328 by omega), hrd, hmod, hw2.out]; exact ih
theorem refCommon_loop (ps qs : List (List Sp)) (a c : Int) (hI : In2 ps) (hJ : In2 qs) (hk : ps.all okPart = true) (hk2 : qs.all okPart = true) (m : Nat) (hm : m ≤ ps.length) (hm2 : m ≤ qs.length) (hl : m ≤ 8) : ∀ (n i : Nat) (out : List Int), i + n = m → out.length = i →
 Ev (fun k => leadtrailref09_Common.l0 k (m : Int) out (i : Int) ps a qs c) (cmR out (comO n (sets (ps.drop i)) (sets (qs.drop i))))
 | 0, i, out, hi, ho => by
  refine evSucc ?_; simp only [leadtrailref09_Common.l0, if_neg (show ¬ (i : Int) < (m : Int) by omega)]; rw [comO_zero]; simpa [cmR] using evNow (out, true)
 | n + 1, i, out, hi, ho => by
  have hil : i < ps.length := by omega
  have hjl : i < qs.length := by omega
  have hp := okPart_good (good_part hk hil); have hq := okPart_good (good_part hk2 hjl); have hw2 : Aside0 (wrap64 ((i : Int) + 1) = ((i + 1 : Nat) : Int)) := Aside0.mk (by rw [w64 (by omega) (by omega)]; simp); have es : sets (ps.drop i) = runs ps[i] :: sets (ps.drop (i + 1)) := by rw [List.drop_eq_getElem_cons hil]; rfl
  have et : sets (qs.drop i) = runs qs[i] :: sets (qs.drop (i + 1)) := by rw [List.drop_eq_getElem_cons hjl]; rfl
  have inner : ∀ (f x : Nat), x + f = 256 → (∀ y : Int, y < x → Mem (runs ps[i]) y → ¬ Mem (runs qs[i]) y) →
   Ev (fun k => leadtrailref09_Common.l1 k (m : Int) out (i : Int) (x : Int) ps a qs c) (cmR out (comO (n + 1) (sets (ps.drop i)) (sets (qs.drop i)))) := fun f => by
   induction f with
   | zero =>
    intro x hx hno; refine evSucc ?_; have e : comO (n + 1) (sets (ps.drop i)) (sets (qs.drop i)) = none := by
     rw [es, et]; exact comO_bar fun y h1 h2 => hno y (by have := hp.1.range h1; omega) h1 h2
    rw [e]; simp only [leadtrailref09_Common.l1, if_neg (show ¬ (x : Int) < 256 by omega), if_pos (show (x : Int) = 256 by omega)]; exact evNow _
   | succ f ihf =>
    intro x hx hno; have h1 := refHas_is ps[i] (x : Int) (hI.2 _ (List.getElem_mem _)); rw [show ps[i].map L113 = runs ps[i] from rfl, setL_of hp.1] at h1; have h2 := refHas_is qs[i] (x : Int) (hJ.2 _ (List.getElem_mem _)); rw [show qs[i].map L113 = runs qs[i] from rfl, setL_of hq.1] at h2; have hw : Aside0 (wrap64 ((x : Int) + 1) = ((x + 1 : Nat) : Int)) := Aside0.mk (by rw [w64 (by omega) (by omega)]; simp); refine evSucc ?_; simp only [leadtrailref09_Common.l1, if_pos (show (x : Int) < 256 by omega), if_pos (show (0 : Int) ≤ (i : Int) by omega), if_pos (show (i : Int) < ((ps.length : Nat) : Int) by omega), rdL_at ps i hil]; refine Ev.bind h1 ?_; have next : ¬ (Mem (runs ps[i]) x ∧ Mem (runs qs[i]) x) → Ev (fun k => leadtrailref09_Common.l1 k (m : Int) out (i : Int) (wrap64 ((x : Int) + 1)) ps a qs c) (cmR out (comO (n + 1) (sets (ps.drop i)) (sets (qs.drop i)))) := fun hne => by
     rw [hw.out]; refine ihf (x + 1) (by omega) fun y hy h3 h4 => ?_
     rcases (by omega : y < x ∨ y = x) with h5 | h5
     ·exact hno y h5 h3 h4
     ·subst h5; exact hne ⟨h3, h4⟩
    cases c1 : memB (runs ps[i]) x
    ·simp only [Bool.false_eq_true, if_false]; exact next fun h => by rw [memB_iff.2 h.1] at c1; cases c1
    ·simp only [if_true, if_pos (show (i : Int) < ((qs.length : Nat) : Int) by omega), rdL_at qs i hjl]; refine Ev.bind h2 ?_; cases c2 : memB (runs qs[i]) x
     ·simp only [Bool.false_eq_true, if_false]; exact next fun h => by rw [memB_iff.2 h.2] at c2; cases c2
     ·have hmod : (x : Int) % 256 = x := Int.emod_eq_of_lt (by omega) (by omega); have ih := refCommon_loop ps qs a c hI hJ hk hk2 m hm hm2 hl n (i + 1) (out ++ [(x : Int)]) (by omega) (by simp [ho]); rw [es, et, comO_yes (memB_iff.1 c1) (memB_iff.1 c2) (fun y h3 h4 => by
       rcases (by omega : y < x ∨ (x : Int) ≤ y) with h5 | h5
       ·exact (hno y h5 h3 h4).elim
       ·exact h5), ← cmR_cons]
      simp only [if_true, if_neg (show ¬ (x : Int) = 256 by omega), if_pos (show out.length < 140737488355328 by omega), hmod, hw2.out]; exact ih
  refine evSucc ?_; simp only [leadtrailref09_Common.l0, if_pos (show (i : Int) < (m : Int) by omega)]; exact inner 256 0 (by omega) fun y hy h1 _ => by have := hp.1.range h1; omega
open Classical in
noncomputable def cmS (ps : List (List Sp)) (a : Int) (qs : List (List Sp)) (c n : Int) : List Int × Bool :=
 if vShape ps a = true ∧ vShape qs c = true ∧ 0 ≤ n ∧ n ≤ ps.length ∧ n ≤ qs.length then cmR [] (comO n.toNat (sets ps) (sets qs)) else ([], false)
theorem Common_is (ps : List (List Sp)) (a : Int) (qs : List (List Sp)) (c n : Int) (hI : In2 ps) (hJ : In2 qs) : Ev (fun k => shape_Common.f k ps a qs c n) (cmS ps a qs c n) := by
 have jT : Ev (fun k => shape_Common.j0 k n true ps a qs c) ([], false) := by
  refine evSucc ?_; simp only [shape_Common.j0, if_true]; exact evNow _
 simp only [shape_Common.f]; refine Ev.bind (shapeValid_is ps a hI) ?_; cases hv : vShape ps a
 ·simp only [Bool.false_eq_true, if_false, cmS, hv, false_and]; exact jT
 simp only [if_true]; refine Ev.bind (shapeValid_is qs c hJ) ?_; cases hv2 : vShape qs c
 ·simp only [Bool.false_eq_true, if_false, cmS, hv2, false_and, and_false]; exact jT
 simp only [if_true, cmS, hv, hv2, true_and, mn_eq]; by_cases c0 : n < 0
 ·simp only [if_pos c0, if_neg (show ¬ (0 ≤ n ∧ n ≤ (ps.length : Int) ∧ n ≤ (qs.length : Int)) by omega)]; exact jT
 simp only [if_neg c0]; by_cases c1 : n ≤ ps.length ∧ n ≤ qs.length
 ·obtain ⟨⟨l1, l2⟩, _, hk, hg, hc⟩ := vShape_good hv; obtain ⟨⟨l3, l4⟩, _, hk2, hg2, hc2⟩ := vShape_good hv2; rw [decide_eq_false (show ¬ n > min (ps.length : Int) (qs.length : Int) by omega), if_pos ⟨by omega, c1⟩]; refine evSucc ?_; simp only [shape_Common.j0, Bool.false_eq_true, if_false]; obtain ⟨m, rfl⟩ := Int.eq_ofNat_of_zero_le (show 0 ≤ n by omega); simpa using common_loop ps qs a c hI hJ hk hk2 m (by omega) (by omega) (by omega) m 0 [] (by omega) rfl
 ·rw [decide_eq_true (show n > min (ps.length : Int) (qs.length : Int) by omega), if_neg (by omega)]; exact jT
theorem refCommon_is (ps : List (List Sp)) (a : Int) (qs : List (List Sp)) (c n : Int) (hI : In2 ps) (hJ : In2 qs) : Ev (fun k => leadtrailref09_Common.f k ps a qs c n) (cmS ps a qs c n) := by
 have jT : Ev (fun k => leadtrailref09_Common.j0 k n true ps a qs c) ([], false) := by
  refine evSucc ?_; simp only [leadtrailref09_Common.j0, if_true]; exact evNow _
 simp only [leadtrailref09_Common.f]; refine Ev.bind (refCount_is ps a hI) ?_; cases hv : vShape ps a
 ·simp only [Bool.false_eq_true, if_false, if_true, cmS, hv, false_and]; exact jT
 obtain ⟨⟨l1, l2⟩, _, hk, hg, hc⟩ := vShape_good hv; have hpos := cnt_pos hg; simp only [if_true, if_neg (show ¬ cnt (sets ps) = 0 by omega)]; refine Ev.bind (refCount_is qs c hJ) ?_; cases hv2 : vShape qs c
 ·simp only [Bool.false_eq_true, if_false, if_true, cmS, hv2, false_and, and_false]; exact jT
 obtain ⟨⟨l3, l4⟩, _, hk2, hg2, hc2⟩ := vShape_good hv2; have hpos2 := cnt_pos hg2; simp only [if_true, if_neg (show ¬ cnt (sets qs) = 0 by omega), cmS, hv, hv2, true_and]; by_cases c0 : n < 0
 ·simp only [if_pos c0, if_neg (show ¬ (0 ≤ n ∧ n ≤ (ps.length : Int) ∧ n ≤ (qs.length : Int)) by omega)]; exact jT
 simp only [if_neg c0]; by_cases c1 : n > ps.length
 ·simp only [if_pos c1, if_neg (show ¬ (0 ≤ n ∧ n ≤ (ps.length : Int) ∧ n ≤ (qs.length : Int)) by omega)]; exact jT
 simp only [if_neg c1]; by_cases c2 : n > qs.length
 ·simp only [decide_eq_true c2, if_neg (show ¬ (0 ≤ n ∧ n ≤ (ps.length : Int) ∧ n ≤ (qs.length : Int)) by omega)]; exact jT
 ·simp only [decide_eq_false c2, if_pos (show (0 ≤ n ∧ n ≤ (ps.length : Int) ∧ n ≤ (qs.length : Int)) by omega)]; refine evSucc ?_; simp only [leadtrailref09_Common.j0, Bool.false_eq_true, if_false]; obtain ⟨m, rfl⟩ := Int.eq_ofNat_of_zero_le (show 0 ≤ n by omega); simpa using refCommon_loop ps qs a c hI hJ hk hk2 m (by omega) (by omega) (by omega) m 0 [] (by omega) rfl
end Go.Proofs.Ytkcklnmbeinfkaa.PBS
end
section
namespace Go.Proofs.Ytkcklnmbeinfkaa.PBS
open Go.RowKit Go.Proofs.YtkcklnmbeinfkaaW.PrintWords Go.Proofs.YtkcklnmbeinfkaaW.PrintLast Go.Proofs.YtkcklnmbeinfkaaW.PrintMore Go.Proofs.Ytkcklnmbeinfkaa.B Go.Proofs.LT Go.Proofs.Ytkcklnmbeinfkaa.PB3
set_option linter.unusedVariables false
set_option linter.unusedSimpArgs false
theorem low_is {p : List Sp} (h : okPart p = true) : 0 < p.length ∧ (rd_T113 p 0).f0 = lowR (runs p) ∧ 0 ≤ lowR (runs p) ∧ lowR (runs p) ≤ 255 := by
 have hs := okPart_good h; have hr := hs.1.range (lowR_mem hs); cases p with
 | nil => have := hs.2; have e : size (runs []) = 0 := size_nil; omega
 | cons r t => exact ⟨by simp, rfl, hr.1, hr.2⟩
theorem first_loop (ps : List (List Sp)) (a : Int) (hI : In2 ps) (hv : vShape ps a = true) (rs : List (List Sp)) (hrs : rs.all okPart = true) (hl : rs.length ≤ 8) (whole : List Int) (kk : Int) (hw : rnk (sets ps) whole = some kk) : ∀ (n i : Nat) (out : List Int), i + n = rs.length → out.length ≤ 16 → out ++ (sets (rs.drop i)).map lowR = whole →
 Ev (fun k => clash_first.l0 k out rs (rs.length : Int) (i : Int) ps a) (a + kk)
 | 0, i, out, hi, ho, he => by
  have vg := vShape_good hv; rw [List.drop_of_length_le (by omega)] at he; have e2 : out = whole := by rw [← he]; simp [sets]
  have hr := unr_rnk vg.2.2.2.1 hw; have hb : ∀ b ∈ whole, 0 ≤ b ∧ b ≤ 255 := by rw [← hr.2.2]; exact unr_range vg.2.2.2.1 hr.1 hr.2.1
  refine evSucc ?_; simp only [clash_first.l0, if_neg (show ¬ (i : Int) < (rs.length : Int) by omega)]; rw [e2]; refine Ev.bind (Rank_is ps a whole hI hb) ?_; unfold rkS; rw [if_pos hv, hw]; simp only [rkR, w64 (show -9223372036854775808 ≤ a + kk by omega) (show a + kk ≤ 9223372036854775807 by omega)]; exact evNow _
 | n + 1, i, out, hi, ho, he => by
  have hil : i < rs.length := by omega
  have hp := low_is (good_part hrs hil); have hsw := succ_wrap i (by omega); have hm : (rd_T113 rs[i] 0).f0 % 256 = lowR (runs rs[i]) := by rw [hp.2.1]; exact Int.emod_eq_of_lt hp.2.2.1 (by omega)
  have hout : out.length ≤ 15 ∨ out.length = 16 := by omega
  refine evSucc ?_; simp only [clash_first.l0, if_pos (show (i : Int) < (rs.length : Int) by omega), if_pos (show (0 : Int) ≤ (i : Int) by omega), rdL_at rs i hil, if_pos (show (0 : Int) < ((rs[i]).length : Int) by omega), if_pos (show out.length < 140737488355328 by omega), hsw.out, hm]; have hlen : (out ++ (sets (rs.drop i)).map lowR).length = ps.length := by
   rw [he]; have := rnk_len hw; rwa [sets_len] at this
  have h8 := (vShape_good hv).1.2; refine first_loop ps a hI hv rs hrs hl whole kk hw n (i + 1) _ (by omega) ?_ ?_
  ·simp [sets] at hlen ⊢; omega
  ·rw [← he, List.append_assoc, List.drop_eq_getElem_cons hil]; rfl
theorem first_is {ps : List (List Sp)} {a : Int} (hI : In2 ps) (hv : vShape ps a = true) {b : List Int} (hb : b.length ≤ ps.length) (hm : ∀ (i : Nat) (s : List Run) (x : Int), (sets ps)[i]? = some s → b[i]? = some x → Mem s x) :
 ∃ kk, rnk (sets ps) (b ++ ((sets ps).drop b.length).map lowR) = some kk ∧ Ev (fun k => clash_first.f k ps a b) (a + kk) := by
 have vg := vShape_good hv; obtain ⟨kk, hk⟩ := rnk_whole vg.2.2.2.1 (by rw [sets_len]; exact hb) hm; refine ⟨kk, hk, ?_⟩; have h8 := vg.1.2; simp only [clash_first.f, Option.bind_some, List.length_nil, Nat.zero_add, List.nil_append, if_pos (show b.length < 140737488355328 by omega), if_pos (show (0 : Int) ≤ (b.length : Int) by omega), if_pos (show (b.length : Int) ≤ (ps.length : Int) by omega), Int.toNat_natCast]; refine first_loop ps a hI hv (ps.drop b.length) (List.all_eq_true.2 fun x hx => List.all_eq_true.1 vg.2.2.1 x (List.mem_of_mem_drop hx)) (by rw [List.length_drop]; omega) _ kk hk (ps.drop b.length).length 0 b (by omega) (by omega) ?_; rw [List.drop_zero, ← sets_drop]
theorem common_self {ps qs : List (List Sp)} {a c : Int} (hv : vShape ps a = true) (hv2 : vShape qs c = true) : cmS ps a qs c (ps.length : Int) = cmR [] (comO ps.length (sets ps) (sets qs)) := by
 unfold cmS; by_cases h : ps.length ≤ qs.length
 ·rw [if_pos ⟨hv, hv2, by omega, by omega, by omega⟩, Int.toNat_natCast]
 ·rw [if_neg (fun h' => h (by have := h'.2.2.2.2; omega))]; cases e : comO ps.length (sets ps) (sets qs) with
  | none => rfl
  | some b => have := (comO_some e).both.2; rw [sets_len] at this; exact (h this).elim
def ComIJ (ss : List Sh) (i j : Nat) (b : List Int) : Prop := Com (rd_T50 ss (i : Int)).f0.length (sets (rd_T50 ss (i : Int)).f0) (sets (rd_T50 ss (j : Int)).f0) b
def Shows (ss : List Sh) (i j : Nat) (U V : Int) : Prop := ∃ (b : List Int) (kk kk' : Int), ComIJ ss i j b ∧ rnk (sets (rd_T50 ss (i : Int)).f0) (b ++ ((sets (rd_T50 ss (i : Int)).f0).drop b.length).map lowR) = some kk ∧ rnk (sets (rd_T50 ss (j : Int)).f0) (b ++ ((sets (rd_T50 ss (j : Int)).f0).drop b.length).map lowR) = some kk' ∧ U = (rd_T50 ss (i : Int)).f1 + kk ∧ V = (rd_T50 ss (j : Int)).f1 + kk'
def askP (ss : List Sh) (i j : Nat) : Bool := decide (((rd_T50 ss (i : Int)).f0.length : Int) < ((rd_T50 ss (j : Int)).f0.length : Int))
def askI (ss : List Sh) (i j : Nat) : Bool := decide ((i : Int) < (j : Int)) && decide (((rd_T50 ss (i : Int)).f0.length : Int) = ((rd_T50 ss (j : Int)).f0.length : Int))
def SpecRP (ss : List Sh) (r : Bool × Int × Int × Int) : Prop := (r = (true, 0, 0, 0) ∧ ∀ i j, i < ss.length → j < ss.length → askP ss i j = true → ∀ b, ¬ ComIJ ss i j b) ∨ ∃ i j U V, i < ss.length ∧ j < ss.length ∧ askP ss i j = true ∧ Shows ss i j U V ∧ r = (false, U, V, 0)
theorem searchP_row (ss : List Sh) (hI : InS ss) (hs : ss.length ≤ 32) (hv : ∀ p ∈ ss, vShape p.f0 p.f1 = true) (i : Nat) (hi : i < ss.length) (hno : ∀ i' j, i' < i → j < ss.length → askP ss i' j = true → ∀ b, ¬ ComIJ ss i' j b)
 (next : (∀ i' j, i' < i + 1 → j < ss.length → askP ss i' j = true → ∀ b, ¬ ComIJ ss i' j b) → ∃ r, Ev (fun k => clash_search.l0 k ss (ss.length : Int) ((i + 1 : Nat) : Int) ss true 0 0) r ∧ SpecRP ss r) : ∀ (n j : Nat), j + n = ss.length → (∀ j', j' < j → askP ss i j' = true → ∀ b, ¬ ComIJ ss i j' b) →
 ∃ r, Ev (fun k => clash_search.l1 k (i : Int) ss (ss.length : Int) (i : Int) ss (ss.length : Int) (j : Int) ss true 0 0 (rd_T50 ss (i : Int)).f0 (rd_T50 ss (i : Int)).f1) r ∧ SpecRP ss r
 | 0, j, hj, hnj => by
  obtain ⟨r, r1, r2⟩ := next fun i' j' h1 h2 => by
   rcases (by omega : i' < i ∨ i' = i) with h | rfl
   ·exact hno i' j' h h2
   ·exact hnj j' (by omega)
  refine ⟨r, evSucc ?_, r2⟩; have hw := succ_wrap i (by omega); simp only [clash_search.l1, if_neg (show ¬ (j : Int) < (ss.length : Int) by omega), hw.out]; exact r1
 | n + 1, j, hj, hnj => by
  have hjl : j < ss.length := by omega
  have hw := succ_wrap j (by omega); have vi := hv _ (List.getElem_mem hi); have vj := hv _ (List.getElem_mem hjl); have hii := rdSh_at ss i hi; have hjj := rdSh_at ss j hjl; have go := searchP_row ss hI hs hv i hi hno next n (j + 1) (by omega); have hask : asked_P.f ss (i : Int) (j : Int) = some (askP ss i j) := by
   unfold asked_P.f; rw [if_pos ⟨by omega, by omega, by omega, by omega⟩]; rfl
  have step : ∀ r, (askP ss i j = false → Ev (fun k => clash_search.l1 k (i : Int) ss (ss.length : Int) (i : Int) ss (ss.length : Int) (wrap64 ((j : Int) + 1)) ss true 0 0 (rd_T50 ss (i : Int)).f0 (rd_T50 ss (i : Int)).f1) r) → (askP ss i j = true → Ev (fun k => (shape_Common.f k (rd_T50 ss (i : Int)).f0 (rd_T50 ss (i : Int)).f1 ((rd_T50 ss (j : Int)).f0) ((rd_T50 ss (j : Int)).f1) ((rd_T50 ss (i : Int)).f0.length : Int)).bind fun bt411 => (if bt411.2 = true then ((clash_first.f k (rd_T50 ss (i : Int)).f0 (rd_T50 ss (i : Int)).f1 bt411.1).bind fun t415 => ((clash_first.f k ((rd_T50 ss (j : Int)).f0) ((rd_T50 ss (j : Int)).f1) bt411.1).bind fun t416 => (some (false, t415, t416, 0)))) else (clash_search.l1 k (i : Int) ss (ss.length : Int) (i : Int) ss (ss.length : Int) (wrap64 ((j : Int) + 1)) ss true 0 0 (rd_T50 ss (i : Int)).f0 (rd_T50 ss (i : Int)).f1))) r) →
   Ev (fun k => clash_search.l1 k (i : Int) ss (ss.length : Int) (i : Int) ss (ss.length : Int) (j : Int) ss true 0 0 (rd_T50 ss (i : Int)).f0 (rd_T50 ss (i : Int)).f1) r := fun r h1 h2 => by
   refine evSucc ?_; simp only [clash_search.l1, if_pos (show (j : Int) < (ss.length : Int) by omega), if_pos (show (0 : Int) ≤ (j : Int) by omega), hask, Option.bind_some]; cases ha : askP ss i j
   ·simp only [Bool.false_eq_true, if_false]; exact h1 ha
   ·simp only [if_true]; exact h2 ha
  cases ha : askP ss i j
  ·obtain ⟨r, r1, r2⟩ := go fun j' h => by
    rcases (by omega : j' < j ∨ j' = j) with h' | rfl
    ·exact hnj j' h'
    ·intro h3; rw [ha] at h3; cases h3
   exact ⟨r, step r (fun _ => by rw [hw.out]; exact r1) (fun h => by rw [ha] at h; cases h), r2⟩
  ·have hC := Common_is ss[i].f0 ss[i].f1 ss[j].f0 ss[j].f1 (ss[i].f0.length : Int) (hI.2 _ (List.getElem_mem _)) (hI.2 _ (List.getElem_mem _)); rw [common_self vi vj] at hC; cases hc : comO ss[i].f0.length (sets ss[i].f0) (sets ss[j].f0) with
   | none =>
    obtain ⟨r, r1, r2⟩ := go fun j' h => by
     rcases (by omega : j' < j ∨ j' = j) with h' | rfl
     ·exact hnj j' h'
     ·intro _ b hb; unfold ComIJ at hb; rw [hii, hjj] at hb; exact comO_none hc b hb
    refine ⟨r, step r (fun h => by rw [ha] at h; cases h) (fun _ => ?_), r2⟩; rw [hii, hjj]; refine Ev.bind hC ?_; rw [hc]; simp only [cmR, Bool.false_eq_true, if_false]; rw [hii] at r1; rw [hw.out]; exact r1
   | some b =>
    have hb := comO_some hc; have hl := hb.len; have hbo := hb.both; rw [sets_len, sets_len] at hbo; obtain ⟨kk, k1, k2⟩ := first_is (hI.2 _ (List.getElem_mem hi)) vi (b := b) (by omega) hb.left; obtain ⟨kk', l1, l2⟩ := first_is (hI.2 _ (List.getElem_mem hjl)) vj (b := b) (by omega) hb.symm.left; refine ⟨(false, ss[i].f1 + kk, ss[j].f1 + kk', 0), step _ (fun h => by rw [ha] at h; cases h) (fun _ => ?_), .inr ⟨i, j, _, _, hi, hjl, ha, ⟨b, kk, kk', ?_⟩, rfl⟩⟩
    ·rw [hii, hjj]; refine Ev.bind hC ?_; rw [hc]; simp only [cmR, if_true, List.nil_append]; exact Ev.bind k2 (Ev.bind l2 (evNow _))
    ·unfold ComIJ; rw [hii, hjj]; exact ⟨hb, k1, l1, rfl, rfl⟩
theorem searchP_loop (ss : List Sh) (hI : InS ss) (hs : ss.length ≤ 32) (hv : ∀ p ∈ ss, vShape p.f0 p.f1 = true) : ∀ (n i : Nat), i + n = ss.length → (∀ i' j, i' < i → j < ss.length → askP ss i' j = true → ∀ b, ¬ ComIJ ss i' j b) →
 ∃ r, Ev (fun k => clash_search.l0 k ss (ss.length : Int) (i : Int) ss true 0 0) r ∧ SpecRP ss r
 | 0, i, hi, hno => by
  refine ⟨(true, 0, 0, 0), evSucc ?_, .inl ⟨rfl, fun i' j h => hno i' j (by omega)⟩⟩; simp only [clash_search.l0, if_neg (show ¬ (i : Int) < (ss.length : Int) by omega)]; exact evNow _
 | n + 1, i, hi, hno => by
  have hil : i < ss.length := by omega
  obtain ⟨r, r1, r2⟩ := searchP_row ss hI hs hv i hil hno (searchP_loop ss hI hs hv n (i + 1) (by omega)) ss.length 0 (by omega) (fun j h => by omega); refine ⟨r, evSucc ?_, r2⟩; simp only [clash_search.l0, if_pos (show (i : Int) < (ss.length : Int) by omega), if_pos (show (0 : Int) ≤ (i : Int) by omega)]; exact r1
theorem clash_Prefix_is (ss : List Sh) (hI : InS ss) : ∃ r, Ev (fun k => clash_Prefix.f k ss) r ∧ ((vScheme ss = false ∧ r = (false, 0, 0, 84)) ∨ (vScheme ss = true ∧ SpecRP ss r)) := by
 cases h : vScheme ss
 ·refine ⟨(false, 0, 0, 84), ?_, .inl ⟨rfl, rfl⟩⟩; simp only [clash_Prefix.f, clash_search.f]; refine Ev.bind (a := ((false, 0, 0, 84) : Bool × Int × Int × Int)) (Ev.bind (schemeValid_is ss hI) ?_) (evNow _); simp only [h, Bool.false_eq_true, if_false]; exact evNow _
 ·obtain ⟨h1, h2, _⟩ := vScheme_facts h; obtain ⟨r, r1, r2⟩ := searchP_loop ss hI h1 h2 ss.length 0 (by omega) (fun i' j h => by omega); refine ⟨r, ?_, .inr ⟨rfl, r2⟩⟩; simp only [clash_Prefix.f, clash_search.f]; refine Ev.bind (Ev.bind (schemeValid_is ss hI) ?_) (evNow _); simp only [h, if_true]; exact r1
def SpecRI (ss : List Sh) (r : Bool × Int × Int × Int) : Prop := (r = (true, 0, 0, 0) ∧ ∀ i j, i < ss.length → j < ss.length → askI ss i j = true → ∀ b, ¬ ComIJ ss i j b) ∨ ∃ i j U V, i < ss.length ∧ j < ss.length ∧ askI ss i j = true ∧ Shows ss i j U V ∧ r = (false, U, V, 0)
theorem searchI_row (ss : List Sh) (hI : InS ss) (hs : ss.length ≤ 32) (hv : ∀ p ∈ ss, vShape p.f0 p.f1 = true) (i : Nat) (hi : i < ss.length) (hno : ∀ i' j, i' < i → j < ss.length → askI ss i' j = true → ∀ b, ¬ ComIJ ss i' j b)
 (next : (∀ i' j, i' < i + 1 → j < ss.length → askI ss i' j = true → ∀ b, ¬ ComIJ ss i' j b) → ∃ r, Ev (fun k => clash_searchI.l0 k ss (ss.length : Int) ((i + 1 : Nat) : Int) ss true 0 0) r ∧ SpecRI ss r) : ∀ (n j : Nat), j + n = ss.length → (∀ j', j' < j → askI ss i j' = true → ∀ b, ¬ ComIJ ss i j' b) →
 ∃ r, Ev (fun k => clash_searchI.l1 k (i : Int) ss (ss.length : Int) (i : Int) ss (ss.length : Int) (j : Int) ss true 0 0 (rd_T50 ss (i : Int)).f0 (rd_T50 ss (i : Int)).f1) r ∧ SpecRI ss r
 | 0, j, hj, hnj => by
  obtain ⟨r, r1, r2⟩ := next fun i' j' h1 h2 => by
   rcases (by omega : i' < i ∨ i' = i) with h | rfl
   ·exact hno i' j' h h2
   ·exact hnj j' (by omega)
  refine ⟨r, evSucc ?_, r2⟩; have hw := succ_wrap i (by omega); simp only [clash_searchI.l1, if_neg (show ¬ (j : Int) < (ss.length : Int) by omega), hw.out]; exact r1
 | n + 1, j, hj, hnj => by
  have hjl : j < ss.length := by omega
  have hw := succ_wrap j (by omega); have vi := hv _ (List.getElem_mem hi); have vj := hv _ (List.getElem_mem hjl); have hii := rdSh_at ss i hi; have hjj := rdSh_at ss j hjl; have go := searchI_row ss hI hs hv i hi hno next n (j + 1) (by omega); have hask : asked_I.f ss (i : Int) (j : Int) = some (askI ss i j) := by
   unfold asked_I.f; rw [if_pos ⟨by omega, by omega, by omega, by omega⟩]; rfl
  have step : ∀ r, (askI ss i j = false → Ev (fun k => clash_searchI.l1 k (i : Int) ss (ss.length : Int) (i : Int) ss (ss.length : Int) (wrap64 ((j : Int) + 1)) ss true 0 0 (rd_T50 ss (i : Int)).f0 (rd_T50 ss (i : Int)).f1) r) → (askI ss i j = true → Ev (fun k => (shape_Common.f k (rd_T50 ss (i : Int)).f0 (rd_T50 ss (i : Int)).f1 ((rd_T50 ss (j : Int)).f0) ((rd_T50 ss (j : Int)).f1) ((rd_T50 ss (i : Int)).f0.length : Int)).bind fun bt411 => (if bt411.2 = true then ((clash_first.f k (rd_T50 ss (i : Int)).f0 (rd_T50 ss (i : Int)).f1 bt411.1).bind fun t415 => ((clash_first.f k ((rd_T50 ss (j : Int)).f0) ((rd_T50 ss (j : Int)).f1) bt411.1).bind fun t416 => (some (false, t415, t416, 0)))) else (clash_searchI.l1 k (i : Int) ss (ss.length : Int) (i : Int) ss (ss.length : Int) (wrap64 ((j : Int) + 1)) ss true 0 0 (rd_T50 ss (i : Int)).f0 (rd_T50 ss (i : Int)).f1))) r) →
   Ev (fun k => clash_searchI.l1 k (i : Int) ss (ss.length : Int) (i : Int) ss (ss.length : Int) (j : Int) ss true 0 0 (rd_T50 ss (i : Int)).f0 (rd_T50 ss (i : Int)).f1) r := fun r h1 h2 => by
   refine evSucc ?_; simp only [clash_searchI.l1, if_pos (show (j : Int) < (ss.length : Int) by omega), if_pos (show (0 : Int) ≤ (j : Int) by omega), hask, Option.bind_some]; cases ha : askI ss i j
   ·simp only [Bool.false_eq_true, if_false]; exact h1 ha
   ·simp only [if_true]; exact h2 ha
  cases ha : askI ss i j
  ·obtain ⟨r, r1, r2⟩ := go fun j' h => by
    rcases (by omega : j' < j ∨ j' = j) with h' | rfl
    ·exact hnj j' h'
    ·intro h3; rw [ha] at h3; cases h3
   exact ⟨r, step r (fun _ => by rw [hw.out]; exact r1) (fun h => by rw [ha] at h; cases h), r2⟩
  ·have hC := Common_is ss[i].f0 ss[i].f1 ss[j].f0 ss[j].f1 (ss[i].f0.length : Int) (hI.2 _ (List.getElem_mem _)) (hI.2 _ (List.getElem_mem _)); rw [common_self vi vj] at hC; cases hc : comO ss[i].f0.length (sets ss[i].f0) (sets ss[j].f0) with
   | none =>
    obtain ⟨r, r1, r2⟩ := go fun j' h => by
     rcases (by omega : j' < j ∨ j' = j) with h' | rfl
     ·exact hnj j' h'
     ·intro _ b hb; unfold ComIJ at hb; rw [hii, hjj] at hb; exact comO_none hc b hb
    refine ⟨r, step r (fun h => by rw [ha] at h; cases h) (fun _ => ?_), r2⟩; rw [hii, hjj]; refine Ev.bind hC ?_; rw [hc]; simp only [cmR, Bool.false_eq_true, if_false]; rw [hii] at r1; rw [hw.out]; exact r1
   | some b =>
    have hb := comO_some hc; have hl := hb.len; have hbo := hb.both; rw [sets_len, sets_len] at hbo; obtain ⟨kk, k1, k2⟩ := first_is (hI.2 _ (List.getElem_mem hi)) vi (b := b) (by omega) hb.left; obtain ⟨kk', l1, l2⟩ := first_is (hI.2 _ (List.getElem_mem hjl)) vj (b := b) (by omega) hb.symm.left; refine ⟨(false, ss[i].f1 + kk, ss[j].f1 + kk', 0), step _ (fun h => by rw [ha] at h; cases h) (fun _ => ?_), .inr ⟨i, j, _, _, hi, hjl, ha, ⟨b, kk, kk', ?_⟩, rfl⟩⟩
    ·rw [hii, hjj]; refine Ev.bind hC ?_; rw [hc]; simp only [cmR, if_true, List.nil_append]; exact Ev.bind k2 (Ev.bind l2 (evNow _))
    ·unfold ComIJ; rw [hii, hjj]; exact ⟨hb, k1, l1, rfl, rfl⟩
theorem searchI_loop (ss : List Sh) (hI : InS ss) (hs : ss.length ≤ 32) (hv : ∀ p ∈ ss, vShape p.f0 p.f1 = true) : ∀ (n i : Nat), i + n = ss.length → (∀ i' j, i' < i → j < ss.length → askI ss i' j = true → ∀ b, ¬ ComIJ ss i' j b) →
 ∃ r, Ev (fun k => clash_searchI.l0 k ss (ss.length : Int) (i : Int) ss true 0 0) r ∧ SpecRI ss r
 | 0, i, hi, hno => by
  refine ⟨(true, 0, 0, 0), evSucc ?_, .inl ⟨rfl, fun i' j h => hno i' j (by omega)⟩⟩; simp only [clash_searchI.l0, if_neg (show ¬ (i : Int) < (ss.length : Int) by omega)]; exact evNow _
 | n + 1, i, hi, hno => by
  have hil : i < ss.length := by omega
  obtain ⟨r, r1, r2⟩ := searchI_row ss hI hs hv i hil hno (searchI_loop ss hI hs hv n (i + 1) (by omega)) ss.length 0 (by omega) (fun j h => by omega); refine ⟨r, evSucc ?_, r2⟩; simp only [clash_searchI.l0, if_pos (show (i : Int) < (ss.length : Int) by omega), if_pos (show (0 : Int) ≤ (i : Int) by omega)]; exact r1
theorem clash_Inject_is (ss : List Sh) (hI : InS ss) : ∃ r, Ev (fun k => clash_Inject.f k ss) r ∧ ((vScheme ss = false ∧ r = (false, 0, 0, 84)) ∨ (vScheme ss = true ∧ SpecRI ss r)) := by
 cases h : vScheme ss
 ·refine ⟨(false, 0, 0, 84), ?_, .inl ⟨rfl, rfl⟩⟩; simp only [clash_Inject.f, clash_searchI.f]; refine Ev.bind (a := ((false, 0, 0, 84) : Bool × Int × Int × Int)) (Ev.bind (schemeValid_is ss hI) ?_) (evNow _); simp only [h, Bool.false_eq_true, if_false]; exact evNow _
 ·obtain ⟨h1, h2, _⟩ := vScheme_facts h; obtain ⟨r, r1, r2⟩ := searchI_loop ss hI h1 h2 ss.length 0 (by omega) (fun i' j h => by omega); refine ⟨r, ?_, .inr ⟨rfl, r2⟩⟩; simp only [clash_Inject.f, clash_searchI.f]; refine Ev.bind (Ev.bind (schemeValid_is ss hI) ?_) (evNow _); simp only [h, if_true]; exact r1
theorem refRow_common {ss : List Sh} (hI : InS ss) (hv : ∀ p ∈ ss, vShape p.f0 p.f1 = true) {i j : Nat} (hi : i < ss.length) (hj : j < ss.length) :
 ∃ r, Ev (fun k => leadtrailref09_Common.f k (rd_T50 ss (i : Int)).f0 (rd_T50 ss (i : Int)).f1 (rd_T50 ss (j : Int)).f0 (rd_T50 ss (j : Int)).f1 ((rd_T50 ss (i : Int)).f0.length : Int)) r ∧ (r.2 = true ↔ ∃ b, ComIJ ss i j b) := by
 have hii := rdSh_at ss i hi; have hjj := rdSh_at ss j hj; have hC := refCommon_is ss[i].f0 ss[i].f1 ss[j].f0 ss[j].f1 (ss[i].f0.length : Int) (hI.2 _ (List.getElem_mem _)) (hI.2 _ (List.getElem_mem _)); rw [common_self (hv _ (List.getElem_mem hi)) (hv _ (List.getElem_mem hj))] at hC; rw [hii, hjj]; refine ⟨_, hC, ?_⟩; unfold ComIJ; rw [hii, hjj]; cases hc : comO ss[i].f0.length (sets ss[i].f0) (sets ss[j].f0) with
 | none => exact ⟨fun h => (by cases h), fun ⟨b, hb⟩ => (comO_none hc b hb).elim⟩
 | some b => exact ⟨fun _ => ⟨b, comO_some hc⟩, fun _ => rfl⟩
def askRI (ss : List Sh) (i j : Nat) : Bool := decide (j < i) && decide (((rd_T50 ss (i : Int)).f0.length : Int) = ((rd_T50 ss (j : Int)).f0.length : Int))
def RefSpec (ask : List Sh → Nat → Nat → Bool) (ss : List Sh) (r : Bool × Int) : Prop := r.2 = 0 ∧ (r.1 = true ↔ ∀ i j, i < ss.length → j < ss.length → ask ss i j = true → ∀ b, ¬ ComIJ ss i j b)
theorem refI_row (ss : List Sh) (hI : InS ss) (hs : ss.length ≤ 32) (hv : ∀ p ∈ ss, vShape p.f0 p.f1 = true) (i : Nat) (hi : i < ss.length) (hno : ∀ i' j, i' < i → j < ss.length → askRI ss i' j = true → ∀ b, ¬ ComIJ ss i' j b)
 (next : (∀ i' j, i' < i + 1 → j < ss.length → askRI ss i' j = true → ∀ b, ¬ ComIJ ss i' j b) → ∃ r, Ev (fun k => leadtrailref11_Inject.l0 k ((i + 1 : Nat) : Int) ss) r ∧ RefSpec askRI ss r) : ∀ (n j : Nat), j + n = i → (∀ j', j' < j → askRI ss i j' = true → ∀ b, ¬ ComIJ ss i j' b) →
 ∃ r, Ev (fun k => leadtrailref11_Inject.l1 k (i : Int) (j : Int) ss) r ∧ RefSpec askRI ss r
 | 0, j, hj, hnj => by
  obtain ⟨r, r1, r2⟩ := next fun i' j' h1 h2 => by
   rcases (by omega : i' < i ∨ i' = i) with h | rfl
   ·exact hno i' j' h h2
   ·intro h3; have h4 : j' < i' := by simp [askRI] at h3; exact h3.1
    exact hnj j' (by omega) h3
  refine ⟨r, evSucc ?_, r2⟩; have hw := succ_wrap i (by omega); simp only [leadtrailref11_Inject.l1, if_neg (show ¬ (j : Int) < (i : Int) by omega), hw.out]; exact r1
 | n + 1, j, hj, hnj => by
  have hjl : j < ss.length := by omega
  have hw := succ_wrap j (by omega); have go := refI_row ss hI hs hv i hi hno next n (j + 1) (by omega); obtain ⟨c, c1, c2⟩ := refRow_common hI hv hi hjl; by_cases ha : ((rd_T50 ss (i : Int)).f0.length : Int) = ((rd_T50 ss (j : Int)).f0.length : Int)
  ·cases hc : c.2
   ·obtain ⟨r, r1, r2⟩ := go fun j' h => by
     rcases (by omega : j' < j ∨ j' = j) with h' | rfl
     ·exact hnj j' h'
     ·intro _ b hb; have := c2.2 ⟨b, hb⟩; rw [hc] at this; cases this
    refine ⟨r, evSucc ?_, r2⟩; simp only [leadtrailref11_Inject.l1, if_pos (show (j : Int) < (i : Int) by omega), if_pos (show (j : Int) < (ss.length : Int) by omega), if_pos (show (0 : Int) ≤ (i : Int) by omega), if_pos (show (i : Int) < (ss.length : Int) by omega), if_pos (show (0 : Int) ≤ (j : Int) by omega), if_pos ha]; refine Ev.bind c1 ?_; simp only [hc, Bool.false_eq_true, if_false, hw.out]; exact r1
   ·refine ⟨(false, 0), evSucc ?_, rfl, fun h => (by cases h), fun h => ?_⟩
    ·simp only [leadtrailref11_Inject.l1, if_pos (show (j : Int) < (i : Int) by omega), if_pos (show (j : Int) < (ss.length : Int) by omega), if_pos (show (0 : Int) ≤ (i : Int) by omega), if_pos (show (i : Int) < (ss.length : Int) by omega), if_pos (show (0 : Int) ≤ (j : Int) by omega), if_pos ha]; refine Ev.bind c1 ?_; simp only [hc, if_true]; exact evNow _
    ·obtain ⟨b, hb⟩ := c2.1 hc; exact (h i j hi hjl (by simp only [askRI, decide_eq_true (show j < i by omega), decide_eq_true ha]; rfl) b hb).elim
  ·obtain ⟨r, r1, r2⟩ := go fun j' h => by
    rcases (by omega : j' < j ∨ j' = j) with h' | rfl
    ·exact hnj j' h'
    ·intro h3; simp only [askRI, decide_eq_false ha, Bool.and_false] at h3; cases h3
   refine ⟨r, evSucc ?_, r2⟩; simp only [leadtrailref11_Inject.l1, if_pos (show (j : Int) < (i : Int) by omega), if_pos (show (j : Int) < (ss.length : Int) by omega), if_pos (show (0 : Int) ≤ (i : Int) by omega), if_pos (show (i : Int) < (ss.length : Int) by omega), if_pos (show (0 : Int) ≤ (j : Int) by omega), if_neg ha, hw.out]; exact r1
theorem refI_loop (ss : List Sh) (hI : InS ss) (hs : ss.length ≤ 32) (hv : ∀ p ∈ ss, vShape p.f0 p.f1 = true) : ∀ (n i : Nat), i + n = ss.length → (∀ i' j, i' < i → j < ss.length → askRI ss i' j = true → ∀ b, ¬ ComIJ ss i' j b) →
 ∃ r, Ev (fun k => leadtrailref11_Inject.l0 k (i : Int) ss) r ∧ RefSpec askRI ss r
 | 0, i, hi, hno => by
  refine ⟨(true, 0), evSucc ?_, rfl, fun _ i' j h => hno i' j (by omega), fun _ => rfl⟩; simp only [leadtrailref11_Inject.l0, if_neg (show ¬ (i : Int) < (ss.length : Int) by omega)]; exact evNow _
 | n + 1, i, hi, hno => by
  have hil : i < ss.length := by omega
  obtain ⟨r, r1, r2⟩ := refI_row ss hI hs hv i hil hno (refI_loop ss hI hs hv n (i + 1) (by omega)) i 0 (by omega) (fun j h => by omega); refine ⟨r, evSucc ?_, r2⟩; simp only [leadtrailref11_Inject.l0, if_pos (show (i : Int) < (ss.length : Int) by omega)]; exact r1
theorem leadtrailref11_Inject_is (ss : List Sh) (hI : InS ss) : ∃ r, Ev (fun k => leadtrailref11_Inject.f k ss) r ∧ ((vScheme ss = false ∧ r = (false, 84)) ∨ (vScheme ss = true ∧ RefSpec askRI ss r)) := by
 cases h : vScheme ss
 ·refine ⟨(false, 84), ?_, .inl ⟨rfl, rfl⟩⟩; simp only [leadtrailref11_Inject.f]; refine Ev.bind (refValid8_is ss hI) ?_; simp only [h, Bool.false_eq_true, if_false]; exact evNow _
 ·obtain ⟨h1, h2, _⟩ := vScheme_facts h; obtain ⟨r, r1, r2⟩ := refI_loop ss hI h1 h2 ss.length 0 (by omega) (fun i' j h => by omega); refine ⟨r, ?_, .inr ⟨rfl, r2⟩⟩; simp only [leadtrailref11_Inject.f]; refine Ev.bind (refValid8_is ss hI) ?_; simp only [h, if_true]; exact r1
end Go.Proofs.Ytkcklnmbeinfkaa.PBS
end
section
namespace Go.Proofs.Ytkcklnmbeinfkaa.PBS
open Go.RowKit Go.Proofs.YtkcklnmbeinfkaaW.PrintWords Go.Proofs.YtkcklnmbeinfkaaW.PrintLast Go.Proofs.YtkcklnmbeinfkaaW.PrintMore Go.Proofs.Ytkcklnmbeinfkaa.B Go.Proofs.LT Go.Proofs.Ytkcklnmbeinfkaa.PB3
set_option linter.unusedVariables false
set_option linter.unusedSimpArgs false
def ComPQ (p q : Sh) (b : List Int) : Prop := Com p.f0.length (sets p.f0) (sets q.f0) b
def noP (ss : List Sh) : Prop := ∀ p ∈ ss, ∀ q ∈ ss, p.f0.length < q.f0.length → ∀ b, ¬ ComPQ p q b
def noI (ss : List Sh) : Prop := ss.Pairwise fun p q => p.f0.length = q.f0.length → ∀ b, ¬ ComPQ p q b
theorem comIJ_at {ss : List Sh} {i j : Nat} (hi : i < ss.length) (hj : j < ss.length) {b : List Int} : ComIJ ss i j b ↔ ComPQ ss[i] ss[j] b := by
 unfold ComIJ ComPQ; rw [rdSh_at ss i hi, rdSh_at ss j hj]
theorem askP_at {ss : List Sh} {i j : Nat} (hi : i < ss.length) (hj : j < ss.length) : askP ss i j = true ↔ ss[i].f0.length < ss[j].f0.length := by
 unfold askP; rw [rdSh_at ss i hi, rdSh_at ss j hj, decide_eq_true_iff]; omega
theorem askI_at {ss : List Sh} {i j : Nat} (hi : i < ss.length) (hj : j < ss.length) : askI ss i j = true ↔ i < j ∧ ss[i].f0.length = ss[j].f0.length := by
 unfold askI; rw [rdSh_at ss i hi, rdSh_at ss j hj, Bool.and_eq_true, decide_eq_true_iff, decide_eq_true_iff]; omega
theorem askRI_at {ss : List Sh} {i j : Nat} (hi : i < ss.length) (hj : j < ss.length) : askRI ss i j = true ↔ j < i ∧ ss[i].f0.length = ss[j].f0.length := by
 unfold askRI; rw [rdSh_at ss i hi, rdSh_at ss j hj, Bool.and_eq_true, decide_eq_true_iff, decide_eq_true_iff]; omega
theorem noP_iff (ss : List Sh) : (∀ i j, i < ss.length → j < ss.length → askP ss i j = true → ∀ b, ¬ ComIJ ss i j b) ↔ noP ss := by
 constructor
 ·intro h p hp q hq hl b hb; obtain ⟨i, hi, rfl⟩ := List.getElem_of_mem hp; obtain ⟨j, hj, rfl⟩ := List.getElem_of_mem hq; exact h i j hi hj ((askP_at hi hj).2 hl) b ((comIJ_at hi hj).2 hb)
 ·intro h i j hi hj ha b hb; exact h _ (List.getElem_mem hi) _ (List.getElem_mem hj) ((askP_at hi hj).1 ha) b ((comIJ_at hi hj).1 hb)
theorem noI_iff (ss : List Sh) : (∀ i j, i < ss.length → j < ss.length → askI ss i j = true → ∀ b, ¬ ComIJ ss i j b) ↔ noI ss := by
 unfold noI; rw [List.pairwise_iff_getElem]; constructor
 ·intro h i j hi hj hij hl b hb; exact h i j hi hj ((askI_at hi hj).2 ⟨hij, hl⟩) b ((comIJ_at hi hj).2 hb)
 ·intro h i j hi hj ha b hb; have := (askI_at hi hj).1 ha; exact h i j hi hj this.1 this.2 b ((comIJ_at hi hj).1 hb)
theorem noRI_iff (ss : List Sh) : (∀ i j, i < ss.length → j < ss.length → askRI ss i j = true → ∀ b, ¬ ComIJ ss i j b) ↔ noI ss := by
 unfold noI; rw [List.pairwise_iff_getElem]; constructor
 ·intro h i j hi hj hij hl b hb; refine h j i hj hi ((askRI_at hj hi).2 ⟨hij, hl.symm⟩) b ((comIJ_at hj hi).2 ?_); have hb' := Com.symm hb; unfold ComPQ; rw [← hl]; exact hb'
 ·intro h i j hi hj ha b hb; have h2 := (askRI_at hi hj).1 ha; refine h j i hj hi h2.1 h2.2.symm b ?_; have hb' := Com.symm ((comIJ_at hi hj).1 hb); unfold ComPQ; rw [← h2.2]; exact hb'
theorem shows_com {ss : List Sh} {i j : Nat} {U V : Int} (h : Shows ss i j U V) : ∃ b, ComIJ ss i j b := by obtain ⟨b, kk, kk', h, _⟩ := h; exact ⟨b, h⟩
theorem specP_yes {ss : List Sh} {r : Bool × Int × Int × Int} (h : SpecRP ss r) : (noP ss ∧ r = (true, 0, 0, 0)) ∨ (¬ noP ss ∧ ∃ i j U V, i < ss.length ∧ j < ss.length ∧ askP ss i j = true ∧ Shows ss i j U V ∧ r = (false, U, V, 0)) := by
 rcases h with ⟨h1, h2⟩ | ⟨i, j, U, V, hi, hj, ha, hs, hr⟩
 ·exact .inl ⟨(noP_iff ss).1 h2, h1⟩
 ·refine .inr ⟨fun hn => ?_, i, j, U, V, hi, hj, ha, hs, hr⟩; obtain ⟨b, hb⟩ := shows_com hs; exact (noP_iff ss).2 hn i j hi hj ha b hb
theorem specI_yes {ss : List Sh} {r : Bool × Int × Int × Int} (h : SpecRI ss r) : (noI ss ∧ r = (true, 0, 0, 0)) ∨ (¬ noI ss ∧ ∃ i j U V, i < ss.length ∧ j < ss.length ∧ askI ss i j = true ∧ Shows ss i j U V ∧ r = (false, U, V, 0)) := by
 rcases h with ⟨h1, h2⟩ | ⟨i, j, U, V, hi, hj, ha, hs, hr⟩
 ·exact .inl ⟨(noI_iff ss).1 h2, h1⟩
 ·refine .inr ⟨fun hn => ?_, i, j, U, V, hi, hj, ha, hs, hr⟩; obtain ⟨b, hb⟩ := shows_com hs; exact (noI_iff ss).2 hn i j hi hj ha b hb
theorem shows_enc {ss : List Sh} (h : vScheme ss = true) {i j : Nat} {U V : Int} (hi : i < ss.length) (hj : j < ss.length) (hs : Shows ss i j U V) :
 ∃ b, ComPQ ss[i] ss[j] b ∧ b.length = ss[i].f0.length ∧ encC (cs ss) U = some b ∧ (∃ t, encC (cs ss) V = some (b ++ t) ∧ (b ++ t).length = ss[j].f0.length) ∧ hitC U (C ss[i]) = true ∧ hitC V (C ss[j]) = true := by
 obtain ⟨_, _, ha, hg⟩ := vScheme_facts h; obtain ⟨b, kk, kk', hb, h1, h2, hU, hV⟩ := hs; rw [rdSh_at ss i hi] at h1 hU; rw [rdSh_at ss j hj] at h2 hV; have hb' := (comIJ_at hi hj).1 hb; have hl := Com.len hb'; have mi : C ss[i] ∈ cs ss := List.mem_map.2 ⟨_, List.getElem_mem hi, rfl⟩; have mj : C ss[j] ∈ cs ss := List.mem_map.2 ⟨_, List.getElem_mem hj, rfl⟩; have r1 := rnk_hit (p := C ss[i]) (hg _ mi) h1; have r2 := rnk_hit (p := C ss[j]) (hg _ mj) h2; have e1 : (C ss[i]).2 + kk = U := hU.symm; have e2 : (C ss[j]).2 + kk' = V := hV.symm; rw [e1] at r1; rw [e2] at r2; have hw : b ++ ((sets ss[i].f0).drop b.length).map lowR = b := by rw [hl, List.drop_of_length_le (by rw [sets_len]; omega)]; simp
 refine ⟨b, hb', hl, ?_, ⟨((sets ss[j].f0).drop b.length).map lowR, ?_, ?_⟩, r1.1, r2.1⟩
 ·have := encC_of ha mi r1.1; rw [this, ← r1.2, hw]
 ·have := encC_of ha mj r2.1; rw [this, ← r2.2]
 ·have := rnk_len h2; rwa [sets_len] at this
theorem shapeOf2 (a lo hi : Int) : Ev (fun k => leadtraillaw11_shapeOf.f k a [lo, hi]) ([one1 lo hi], a) := by
 simp only [leadtraillaw11_shapeOf.f]; refine evSucc ?_; have w1 : wrap64 ((0 : Int) + 1) = 1 := w64 (by omega) (by omega); have w2 : wrap64 ((0 : Int) + 2) = 2 := w64 (by omega) (by omega); have w3 : wrap64 ((2 : Int) + 1) = 3 := w64 (by omega) (by omega); have l2 : (([lo, hi] : List Int).length : Int) = 2 := rfl; simp only [leadtraillaw11_shapeOf.l0, w1, w2, l2]; rw [show (fun k => (if (1 : Int) < 2 then (if (0 : Int) ≤ 0 then (if (0 : Int) < 2 then (if (0 : Int) ≤ 1 then (if ([] : List (List Sp)).length < 5864062014805 then (leadtraillaw11_shapeOf.l0 k [lo, hi] 2 ([] ++ [[(⟨rd [lo, hi] 0, rd [lo, hi] 1⟩ : Sp)]]) a) else (none)) else (none)) else (none)) else (none)) else (some ([], a)))) = (fun k => leadtraillaw11_shapeOf.l0 k [lo, hi] 2 [one1 lo hi] a) from rfl]; refine evSucc ?_; simp only [leadtraillaw11_shapeOf.l0, w3, l2]; exact evNow _
theorem shapeOf4 (a lo hi l2 h2 : Int) : Ev (fun k => leadtraillaw11_shapeOf.f k a [lo, hi, l2, h2]) ([one1 lo hi, one1 l2 h2], a) := by
 simp only [leadtraillaw11_shapeOf.f]; refine evSucc ?_; have w1 : wrap64 ((0 : Int) + 1) = 1 := w64 (by omega) (by omega); have w2 : wrap64 ((0 : Int) + 2) = 2 := w64 (by omega) (by omega); have w3 : wrap64 ((2 : Int) + 1) = 3 := w64 (by omega) (by omega); have w4 : wrap64 ((2 : Int) + 2) = 4 := w64 (by omega) (by omega); have w5 : wrap64 ((4 : Int) + 1) = 5 := w64 (by omega) (by omega); have l4 : (([lo, hi, l2, h2] : List Int).length : Int) = 4 := rfl; simp only [leadtraillaw11_shapeOf.l0, w1, w2, l4]; rw [show (fun k => (if (1 : Int) < 4 then (if (0 : Int) ≤ 0 then (if (0 : Int) < 4 then (if (0 : Int) ≤ 1 then (if ([] : List (List Sp)).length < 5864062014805 then (leadtraillaw11_shapeOf.l0 k [lo, hi, l2, h2] 2 ([] ++ [[(⟨rd [lo, hi, l2, h2] 0, rd [lo, hi, l2, h2] 1⟩ : Sp)]]) a) else (none)) else (none)) else (none)) else (none)) else (some ([], a)))) = (fun k => leadtraillaw11_shapeOf.l0 k [lo, hi, l2, h2] 2 [one1 lo hi] a) from rfl]; refine evSucc ?_; simp only [leadtraillaw11_shapeOf.l0, w3, w4, l4]; rw [show (fun k => (if (3 : Int) < 4 then (if (0 : Int) ≤ 2 then (if (2 : Int) < 4 then (if (0 : Int) ≤ 3 then (if ([one1 lo hi] : List (List Sp)).length < 5864062014805 then (leadtraillaw11_shapeOf.l0 k [lo, hi, l2, h2] 4 ([one1 lo hi] ++ [[(⟨rd [lo, hi, l2, h2] 2, rd [lo, hi, l2, h2] 3⟩ : Sp)]]) a) else (none)) else (none)) else (none)) else (none)) else (some ([one1 lo hi], a)))) = (fun k => leadtraillaw11_shapeOf.l0 k [lo, hi, l2, h2] 4 [one1 lo hi, one1 l2 h2] a) from rfl]; refine evSucc ?_; simp only [leadtraillaw11_shapeOf.l0, w5, l4]; exact evNow _
def pA : Sh := ⟨[one1 48 57], 0⟩
def pB : Sh := ⟨[one1 64 65, one1 48 57], 10⟩
def pD : Sh := ⟨[one1 57 57, one1 48 48], 10⟩
theorem cntA : cnt (sets [one1 48 57]) = 10 := by show cnt [runs (one1 48 57)] = 10; rw [cnt_cons, cnt_nil, one_size]; rfl
theorem cntB : cnt (sets [one1 64 65, one1 48 57]) = 20 := by show cnt [runs (one1 64 65), runs (one1 48 57)] = 20; rw [cnt_cons, cnt_cons, cnt_nil, one_size, one_size]; rfl
theorem cntD : cnt (sets [one1 57 57, one1 48 48]) = 1 := by show cnt [runs (one1 57 57), runs (one1 48 48)] = 1; rw [cnt_cons, cnt_cons, cnt_nil, one_size, one_size]; rfl
theorem ok4857 : okPart (one1 48 57) = true := one_ok (by decide) (by decide) (by decide)
theorem vA : vShape pA.f0 pA.f1 = true := by show vShape [one1 48 57] 0 = true; unfold vShape; rw [cntA]; simp [ok4857]
theorem vB : vShape pB.f0 pB.f1 = true := by
 show vShape [one1 64 65, one1 48 57] 10 = true; unfold vShape; rw [cntB]; simp [ok4857, one_ok (show (0 : Int) ≤ 64 by decide) (show (64 : Int) ≤ 65 by decide) (by decide)]
theorem vD : vShape pD.f0 pD.f1 = true := by
 show vShape [one1 57 57, one1 48 48] 10 = true; unfold vShape; rw [cntD]; simp [one_ok (show (0 : Int) ≤ 57 by decide) (show (57 : Int) ≤ 57 by decide) (by decide), one_ok (show (0 : Int) ≤ 48 by decide) (show (48 : Int) ≤ 48 by decide) (by decide)]
theorem vAB : vScheme [pA, pB] = true := by
 have h3 : meetsB pB pA = false := by show (decide ((10 : Int) ≤ 0 + cnt (sets [one1 48 57]) - 1) && _) = false; rw [cntA]; rfl
 show (decide (2 ≤ 32) && (vShape pA.f0 pA.f1 && (!([] : List Sh).any (meetsB _) && (vShape pB.f0 pB.f1 && (!([pA] : List Sh).any (meetsB pB) && true))))) = true; rw [vA, vB]; simp [h3]
theorem vAD : vScheme [pA, pD] = true := by
 have h3 : meetsB pD pA = false := by show (decide ((10 : Int) ≤ 0 + cnt (sets [one1 48 57]) - 1) && _) = false; rw [cntA]; rfl
 show (decide (2 ≤ 32) && (vShape pA.f0 pA.f1 && (!([] : List Sh).any (meetsB _) && (vShape pD.f0 pD.f1 && (!([pA] : List Sh).any (meetsB pD) && true))))) = true; rw [vA, vD]; simp [h3]
theorem inAB (q : Sh) (h : In2 q.f0) : InS [pA, q] := ⟨by show 2 * 32 ≤ 140737488351232; omega, fun p hp => by
 rcases List.mem_cons.1 hp with rfl | hp
 ·exact ⟨by show 1 * 24 ≤ 140737488351232; omega, fun x hx => by rw [List.mem_singleton.1 hx]; exact one_in _ _⟩
 ·rw [List.mem_singleton.1 hp]; exact h⟩
theorem in2two (a b c d : Int) : In2 [one1 a b, one1 c d] := ⟨by show 2 * 24 ≤ 140737488351232; omega, fun x hx => by
 rcases List.mem_cons.1 hx with rfl | hx
 ·exact one_in _ _
 ·rw [List.mem_singleton.1 hx]; exact one_in _ _⟩
theorem one_mem2 {lo hi x : Int} (h : Mem (runs (one1 lo hi)) x) : lo ≤ x ∧ x ≤ hi := by
 obtain ⟨r, hr, h1, h2⟩ := h; rw [List.mem_singleton.1 hr] at h1 h2; exact ⟨h1, h2⟩
theorem fixedA : Ev (fun k => clash_Prefix.f k [pA, pB]) (true, 0, 0, 0) := by
 obtain ⟨r, r1, r2⟩ := clash_Prefix_is [pA, pB] (inAB pB (in2two _ _ _ _)); rcases r2 with ⟨h, _⟩ | ⟨_, h⟩
 ·rw [vAB] at h; cases h
 ·rcases specP_yes h with ⟨_, rfl⟩ | ⟨hn, _⟩
  ·exact r1
  ·refine (hn fun p hp q hq hl b hb => ?_).elim; rcases List.mem_cons.1 hp with rfl | hp
   ·rcases List.mem_cons.1 hq with rfl | hq
    ·omega
    ·rw [List.mem_singleton.1 hq] at hb; cases b with
     | nil => exact hb.elim
     | cons x b =>
      have h1 := one_mem2 hb.1; have h2 := one_mem2 hb.2.1; omega
   ·rw [List.mem_singleton.1 hp] at hl; have : q.f0.length ≤ 2 := by
     rcases List.mem_cons.1 hq with rfl | hq
     ·decide
     ·rw [List.mem_singleton.1 hq]; decide
    have e : pB.f0.length = 2 := rfl; omega
theorem comD : ComPQ pA pD [57] := ⟨⟨(48, 57), List.mem_cons_self, by decide, by decide⟩, ⟨(57, 57), List.mem_cons_self, by decide, by decide⟩, fun y _ h => (one_mem2 h).1, rfl⟩
theorem fixedD : Ev (fun k => clash_Prefix.f k [pA, pD]) (false, 9, 10, 0) := by
 obtain ⟨r, r1, r2⟩ := clash_Prefix_is [pA, pD] (inAB pD (in2two _ _ _ _)); rcases r2 with ⟨h, _⟩ | ⟨_, h⟩
 ·rw [vAD] at h; cases h
 ·rcases specP_yes h with ⟨hn, _⟩ | ⟨_, i, j, U, V, hi, hj, ha, hs, rfl⟩
  ·exact (hn pA List.mem_cons_self pD (List.mem_cons_of_mem _ List.mem_cons_self) (by decide) [57] comD).elim
  ·have hij : i = 0 ∧ j = 1 := by
    have hi' : i < 2 := hi; have hj' : j < 2 := hj; have ha' := (askP_at hi hj).1 ha; rcases (by omega : i = 0 ∨ i = 1) with rfl | rfl <;> rcases (by omega : j = 0 ∨ j = 1) with rfl | rfl
    ·exact absurd ha' (by show ¬ 1 < 1; omega)
    ·exact ⟨rfl, rfl⟩
    ·exact absurd ha' (by show ¬ 2 < 1; omega)
    ·exact absurd ha' (by show ¬ 2 < 2; omega)
   obtain ⟨rfl, rfl⟩ := hij; obtain ⟨b, kk, kk', hb, h1, h2, hU, hV⟩ := hs; have hb' := (comIJ_at hi hj).1 hb; obtain rfl := Com.uniq hb' comD; have k1 : rnk [runs (one1 48 57)] [57] = some 9 := by
    rw [rnk_cons, if_pos (one_memB (by decide) (by decide)), rnk_nil]; simp only [Option.map_some, cnt_nil, one_cd (show (0 : Int) ≤ 48 by decide) (show (48 : Int) ≤ 57 by decide) (show (57 : Int) ≤ 57 by decide) (by decide)]; rfl
   have k2 : rnk [runs (one1 57 57), runs (one1 48 48)] [57, 48] = some 0 := by
    rw [rnk_cons, if_pos (one_memB (by decide) (by decide)), rnk_cons, if_pos (one_memB (by decide) (by decide)), rnk_nil]; simp only [Option.map_some, cnt_cons, cnt_nil, one_size, one_cd (show (0 : Int) ≤ 57 by decide) (show (57 : Int) ≤ 57 by decide) (show (57 : Int) ≤ 57 by decide) (by decide), one_cd (show (0 : Int) ≤ 48 by decide) (show (48 : Int) ≤ 48 by decide) (show (48 : Int) ≤ 48 by decide) (by decide)]; rfl
   have q1 : rnk [runs (one1 48 57)] [57] = some kk := h1; have q2 : rnk [runs (one1 57 57), runs (one1 48 48)] [57, 48] = some kk' := h2; rw [k1] at q1; rw [k2] at q2; obtain rfl := Option.some.inj q1; obtain rfl := Option.some.inj q2; have eU : U = 9 := hU; have eV : V = 10 := hV; rw [← eU, ← eV]; exact r1
theorem fixed11 : Ev (fun k => leadtraillaw11_fixed.f k) true := by
 simp only [leadtraillaw11_fixed.f]; refine Ev.bind (shapeOf2 0 48 57) (Ev.bind (shapeOf4 10 64 65 48 57) (Ev.bind fixedA (Ev.bind (shapeOf2 0 48 57) (Ev.bind (shapeOf4 10 57 57 48 48) (Ev.bind fixedD ?_))))); exact evNow _
end Go.Proofs.Ytkcklnmbeinfkaa.PBS
end
section
namespace Go.Proofs.Ytkcklnmbeinfkaa.PBS
open Go.RowKit Go.Proofs.YtkcklnmbeinfkaaW.PrintWords Go.Proofs.YtkcklnmbeinfkaaW.PrintLast Go.Proofs.YtkcklnmbeinfkaaW.PrintMore Go.Proofs.Ytkcklnmbeinfkaa.B Go.Proofs.LT Go.Proofs.Ytkcklnmbeinfkaa.PB3
set_option linter.unusedVariables false
set_option linter.unusedSimpArgs false
theorem apart_get : ∀ {l : List Cs}, Apart l → ∀ {i j : Nat} (hi : i < l.length) (hj : j < l.length), i < j → lastC l[i] < l[j].2 ∨ lastC l[j] < l[i].2
 | [], _, i, _, hi, _, _ => absurd hi (by simp)
 | p :: t, h, 0, j + 1, hi, hj, _ => h.1 _ (List.getElem_mem (show j < t.length by simpa using hj))
 | p :: t, h, i + 1, j + 1, hi, hj, hij => apart_get h.2 (i := i) (j := j) (by simpa using hi) (by simpa using hj) (by omega)
 | p :: t, h, i, 0, _, _, hij => by omega
theorem hits_apart {ss : List Sh} (ha : Apart (cs ss)) {i j : Nat} (hi : i < ss.length) (hj : j < ss.length) (hij : i < j) {U V : Int} (h1 : hitC U (C ss[i]) = true) (h2 : hitC V (C ss[j]) = true) : U ≠ V := by
 have a := hitC_iff.1 h1; have b := hitC_iff.1 h2; have hl : (cs ss).length = ss.length := List.length_map ..; have := apart_get ha (i := i) (j := j) (by omega) (by omega) hij; simp only [cs, List.getElem_map] at this; unfold lastC at this; omega
theorem leadtraillaw11_ClashInject_ev (ss : List Sh) (hI : InS ss) : Ev (fun k => leadtraillaw11_ClashInject.f k ss) true := by
 obtain ⟨r, r1, r2⟩ := clash_Inject_is ss hI; obtain ⟨q, q1, q2⟩ := leadtrailref11_Inject_is ss hI; simp only [leadtraillaw11_ClashInject.f]; refine Ev.bind fixed11 ?_; simp only [if_true]; refine Ev.bind (CopyS_is ss hI) (Ev.bind r1 (Ev.bind q1 ?_)); rcases r2 with ⟨h, rfl⟩ | ⟨h, hs⟩
 ·rcases q2 with ⟨_, rfl⟩ | ⟨h', _⟩
  ·simp only [if_true, bne_self_eq_false, Bool.false_eq_true, if_false]; refine Ev.bind (SameS_self ss hI) (evSucc (evSucc ?_)); simp only [leadtraillaw11_ClashInject.j0, leadtraillaw11_ClashInject.j1, Bool.not_true, Bool.false_eq_true, if_false, show ((84 : Int) != 0) = true from rfl, if_true]; exact evNow _
  ·rw [h] at h'; cases h'
 ·rcases q2 with ⟨h', _⟩ | ⟨_, hq1, hq2⟩
  ·rw [h] at h'; cases h'
  ·rw [noRI_iff] at hq2; rcases specI_yes hs with ⟨hn, rfl⟩ | ⟨hn, i, j, U, V, hi, hj, ha, hsh, rfl⟩
   ·have e : q.1 = true := hq2.2 hn; simp only [hq1, e, if_true, bne_self_eq_false, Bool.false_eq_true, if_false]; refine Ev.bind (SameS_self ss hI) (evSucc (evSucc ?_)); simp only [leadtraillaw11_ClashInject.j0, leadtraillaw11_ClashInject.j1, Bool.not_true, Bool.false_eq_true, if_false, if_true]; exact evNow _
   ·have e : q.1 = false := by
     cases h3 : q.1
     ·rfl
     ·exact (hn (hq2.1 h3)).elim
    obtain ⟨b, hb, hl, he1, ⟨t, he2, hl2⟩, hh1, hh2⟩ := shows_enc h hi hj hsh; have hu := enc_range h he1; have hv := enc_range h he2; have hlt := (askI_at hi hj).1 ha; have hne := hits_apart (vScheme_facts h).2.2.1 hi hj hlt.1 hh1 hh2; have ht : t = [] := by rw [List.length_append] at hl2; exact List.eq_nil_of_length_eq_zero (by omega)
    subst ht; rw [List.append_nil] at he2; simp only [hq1, e, if_true, bne_self_eq_false, Bool.false_eq_true, if_false]; refine Ev.bind (SameS_self ss hI) (evSucc (evSucc ?_)); simp only [leadtraillaw11_ClashInject.j0, leadtraillaw11_ClashInject.j1, Bool.not_true, Bool.false_eq_true, if_false, if_true, bne_self_eq_false]; have o1 := refOf_is ss U hI h (i64_small hu.1.1 hu.1.2); have o2 := refOf_is ss V hI h (i64_small hv.1.1 hv.1.2); rw [he1] at o1; rw [he2] at o2; refine Ev.bind o1 (Ev.bind o2 ?_); simp only [ofR, if_true, if_neg hne, beq_self_eq_true]; exact evNow _
end Go.Proofs.Ytkcklnmbeinfkaa.PBS
namespace Go.Proofs.Ytkcklnmbeinfkaa.Pure
open Go.Proofs.Ytkcklnmbeinfkaa.B Go.Proofs.YtkcklnmbeinfkaaW.PrintWords
theorem ClashInject : ∀ (l0_0 : List S50), (l0_0.length * 32 ≤ 140737488351232 ∧ ∀ x ∈ l0_0, ((x.f0.length * 24 ≤ 140737488351232 ∧ ∀ y ∈ x.f0, (y.length * 16 ≤ 140737488351232 ∧ ∀ x ∈ y, ((Lit.int .i64 x.f0).wf = true ∧ (Lit.int .i64 x.f1).wf = true))) ∧ (Lit.int .i64 x.f1).wf = true)) → ∃ k, leadtraillaw11_ClashInject.f k l0_0 = some true :=
 fun l0 h => Ev.rounds (PBS.leadtraillaw11_ClashInject_ev l0 ⟨h.1, fun p hp => ⟨(h.2 p hp).1.1, fun x hx => ((h.2 p hp).1.2 x hx).1⟩⟩)
end Go.Proofs.Ytkcklnmbeinfkaa.Pure
end
