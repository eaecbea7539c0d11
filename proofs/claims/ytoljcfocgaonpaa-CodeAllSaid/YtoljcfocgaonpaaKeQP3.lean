/- Words and laws of this claim, of 11 texts. -/
import Derived.Test.YtoljcfocgaonpaaKeIx0
import Derived.Test.YtoljcfocgaonpaaKeIx7
import Derived.Test.YtoljcfocgaonpaaKeIx8
import Derived.Test.YtoljcfocgaonpaaKeQP0
import Derived.Test.YtoljcfocgaonpaaKeQP1
import Derived.Test.YtoljcfocgaonpaaKeQP2
import Derived.Test.YtoljcfocgaonpaaKeIx17
import Derived.Test.YtoljcfocgaonpaaKeIx18
import Derived.Test.YtoljcfocgaonpaaKeIx16
import Derived.Lib.Bytes
import Derived.Test.YtoljcfocgaonpaaKeIx1
import Derived.Test.YtoljcfocgaonpaaKeIx15
import Derived.Test.YtoljcfocgaonpaaKeIx6
import Derived.Test.YtoljcfocgaonpaaKeQW1
import Derived.Test.YtoljcfocgaonpaaKeIx23
import Derived.Test.YtoljcfocgaonpaaKeIx26
import Derived.Test.YtoljcfocgaonpaaKeIx27
import Derived.Test.YtoljcfocgaonpaaKeIx28
import Derived.Test.YtoljcfocgaonpaaKeIx29
import Derived.Test.YtoljcfocgaonpaaKeIx31
import Derived.Test.YtoljcfocgaonpaaKeIx32
import Derived.Test.YtoljcfocgaonpaaKeIx14
import Derived.Test.YtoljcfocgaonpaaKeIx25
import Derived.Test.YtoljcfocgaonpaaKeIx3
import Derived.KernelRfl
import Derived.Test.YtoljcfocgaonpaaKeIx30
section
namespace Go.Proofs.Ytoljcfocgaonpaa.PB3
open Go.RowKit Go.Proofs.YtoljcfocgaonpaaW.PrintWords Go.Proofs.YtoljcfocgaonpaaW.PrintLast Go.Proofs.YtoljcfocgaonpaaW.PrintMore Go.Proofs.Ytoljcfocgaonpaa.I Go.Proofs.LT
set_option linter.unusedVariables false
set_option linter.unusedSimpArgs false
theorem refValid_loop (N : Nat) (hN : N ≤ 8796093022206) : ∀ (t q : List S34) (p : S34), (q ++ p :: t).length ≤ N → p.f1 ≤ 255 → 0 ≤ p.f1 → Ev (fun k => leadtrailref03_Valid.l0 k (q ++ p :: t) ((q.length : Int) + 1)) (validB 255 p.f1 (t.map L34))
 | [], q, p, _, _, _ => by
  refine evSucc ?_; have hlc := len_cons q p []; have c1 : ¬ (q.length : Int) + 1 < ((q ++ [p]).length : Nat) := by rw [hlc]; simp
  simp only [leadtrailref03_Valid.l0, if_neg c1]; rw [show validB 255 p.f1 (([] : List S34).map L34) = true from validB_nil _ _]; exact evNow _
 | r :: t, q, p, hl, hp, hp0 => by
  have hlc := len_cons q p (r :: t); have e1 : q ++ p :: r :: t = (q ++ [p]) ++ r :: t := by simp
  have e2 : ((q.length : Int) + 1) = ((q ++ [p]).length : Nat) := by simp
  have rr : rd_T34 (q ++ p :: r :: t) ((q.length : Int) + 1) = r := by rw [e1, e2]; exact rd34 _ _ _
  have rp : rd_T34 (q ++ p :: r :: t) (q.length : Int) = p := rd34 _ _ _; have hq : q.length ≤ N := by simp at hl; omega
  have c1 : (q.length : Int) + 1 < ((q ++ p :: r :: t).length : Nat) := by rw [hlc]; simp; omega
  have c2 : (0 : Int) ≤ (q.length : Int) + 1 := by omega
  have c3 : (q.length : Int) + 1 > 0 := by omega
  have c4 : (0 : Int) ≤ (q.length : Int) := by omega
  have c5 : (q.length : Int) < ((q ++ p :: r :: t).length : Nat) := by omega
  have hw1 : Aside0 (wrap64 ((q.length : Int) + 1 - 1) = (q.length : Int)) := Aside0.mk (by rw [w64 (by omega) (by omega)]; omega); have hw2 : Aside0 (wrap64 ((q.length : Int) + 1 + 1) = (q.length : Int) + 1 + 1) := Aside0.mk (w64 (by omega) (by omega)); have hw3 : Aside0 (wrap64 (p.f1 + 1) = p.f1 + 1) := Aside0.mk (w64 (by omega) (by omega)); refine evSucc ?_; simp only [leadtrailref03_Valid.l0, if_pos c1, if_pos c2, if_pos c3, rr, hw1.out, hw2.out, hw3.out, if_pos c4, if_pos c5, rp, List.map_cons, validB_cons]; show Ev _ (if r.f0 < 0 then false else if r.f0 > r.f1 then false else if r.f1 > 255 then false else if r.f0 - 1 ≤ p.f1 then false else validB 255 r.f1 (t.map L34)); by_cases d1 : r.f0 < 0
  ·simp only [if_pos d1]; exact evNow _
  by_cases d2 : r.f0 > r.f1
  ·simp only [if_neg d1, if_pos d2]; exact evNow _
  by_cases d3 : r.f1 > 255
  ·simp only [if_neg d1, if_neg d2, if_pos d3]; exact evNow _
  by_cases d4 : r.f0 ≤ p.f1 + 1
  ·simp only [if_neg d1, if_neg d2, if_neg d3, if_pos d4, if_pos (show r.f0 - 1 ≤ p.f1 by omega)]; exact evNow _
  ·have ih := refValid_loop N hN t (q ++ [p]) r (by rw [← e1]; exact hl) (by omega) (by omega); rw [← e1, ← e2] at ih; simp only [if_neg d1, if_neg d2, if_neg d3, if_neg d4, if_neg (show ¬ r.f0 - 1 ≤ p.f1 by omega)]; exact ih
theorem refValid_is (l : List S34) (hl : l.length * 16 ≤ 140737488351232) : Ev (fun k => leadtrailref03_Valid.f k l) (validB 255 (-2) (l.map L34)) := by
 simp only [leadtrailref03_Valid.f]; cases l with
 | nil =>
  refine evSucc ?_; simp only [leadtrailref03_Valid.l0, List.length_nil, if_neg (show ¬ (0 : Int) < ((0 : Nat) : Int) by omega), List.map_nil, validB_nil]; exact evNow _
 | cons r t =>
  have c1 : (0 : Int) < (((r :: t).length : Nat) : Int) := by rw [List.length_cons]; omega
  have r1 : rd_T34 (r :: t) 0 = r := rfl; have hw : Aside0 (wrap64 ((0 : Int) + 1) = 1) := Aside0.mk (by rw [w64 (by omega) (by omega)]; rfl); refine evSucc ?_; simp only [leadtrailref03_Valid.l0, if_pos c1, if_pos (show (0 : Int) ≤ 0 by omega), r1, if_neg (show ¬ (0 : Int) > 0 by omega), hw.out, List.map_cons, validB_cons]; show Ev _ (if r.f0 < 0 then false else if r.f0 > r.f1 then false else if r.f1 > 255 then false else if r.f0 - 1 ≤ -2 then false else validB 255 r.f1 (t.map L34)); by_cases d1 : r.f0 < 0
  ·simp only [if_pos d1]; exact evNow _
  by_cases d2 : r.f0 > r.f1
  ·simp only [if_neg d1, if_pos d2]; exact evNow _
  by_cases d3 : r.f1 > 255
  ·simp only [if_neg d1, if_neg d2, if_pos d3]; exact evNow _
  simp only [if_neg d1, if_neg d2, if_neg d3, if_neg (show ¬ r.f0 - 1 ≤ -2 by omega)]; exact refValid_loop (r :: t).length (by omega) t [] r (by simp) (by omega) (by omega)
theorem memb_is (l : List S34) (hl : l.length * 16 ≤ 140737488351232) : ∃ p, Ev (fun k => leadtrailref03_memb k l) p ∧ ∀ i : Nat, p i = memB (setL 255 (l.map L34)) i := by
 have h := refValid_is l hl; by_cases d : validB 255 (-2) (l.map L34) = true
 ·have hv := (validB_iff _ _ _).1 d; have hall : l.all okPiece = true := List.all_eq_true.2 fun r hr => by
   have := hv.each (L34 r) (List.mem_map.2 ⟨r, hr, rfl⟩); have e : (L34 r).1 = r.f0 ∧ (L34 r).2 = r.f1 := ⟨rfl, rfl⟩; rw [e.1, e.2] at this; simp [okPiece]; omega
  refine ⟨membersB true l, Ev.bind h ?_, fun i => ?_⟩
  ·simp only [if_pos (show l.length ≤ 8796093022207 by omega), if_pos d, if_pos hall]; exact evNow _
  ·rw [setL_of hv, Bool.eq_iff_iff, memB_iff]; simp only [membersB, hasAny, pieceHas, Bool.true_and, List.any_eq_true, Bool.and_eq_true, decide_eq_true_iff]; exact ⟨fun ⟨r, hr, h1, h2⟩ => ⟨L34 r, List.mem_map.2 ⟨r, hr, rfl⟩, h1, h2⟩, fun ⟨q, hq, h1, h2⟩ => by
    obtain ⟨r, hr, rfl⟩ := List.mem_map.1 hq; exact ⟨r, hr, h1, h2⟩⟩
 ·refine ⟨membersB false l, Ev.bind h ?_, fun i => ?_⟩
  ·simp only [if_pos (show l.length ≤ 8796093022207 by omega), if_neg d]; exact evNow _
  ·have e : setL 255 (l.map L34) = [] := by unfold setL; rw [if_neg d]
   rw [e]; have : memB [] (i : Int) = false := by
    cases hm : memB [] (i : Int)
    ·rfl
    ·exact (Mem.nil (memB_iff.1 hm)).elim
   rw [this]; simp [membersB]
theorem cnt_cd {p : Nat → Bool} {s : List Run} (h : ∀ i : Nat, p i = memB s i) : ∀ n, cntB p n = cd (memB s) n
 | 0 => (cd_zero _).symm
 | n + 1 => by rw [cd_succ, ← cnt_cd h n, ← h n]; rfl
theorem refSize_is (l : List S34) (hl : l.length * 16 ≤ 140737488351232) : Ev (fun k => leadtrailref03_Size.f k l) (size (setL 255 (l.map L34))) := by
 obtain ⟨p, h1, h2⟩ := memb_is l hl; refine Ev.bind h1 ?_; rw [cnt_cd h2 256, cd_size (n := 256) (setL_valid 255 (l.map L34)) (by omega)]; exact evNow _
theorem sel_is {p : Nat → Bool} {s : List Run} (hv : ValidFrom 255 (-2) s) (h : ∀ i : Nat, p i = memB s i) (k : Int) : ∀ f x : Nat, f + x = 256 → (∀ y, y < x → ¬ (p y = true ∧ (cntB p y : Int) = k)) → Sel s k (selB p k f x)
 | 0, x, hx, hn => by
  refine .inr ⟨?_, rfl⟩; by_cases c : k < 0
  ·exact .inl c
  ·refine .inr (Int.not_lt.1 fun hlt => ?_); have hz := cd_size (n := 256) hv (by omega); obtain ⟨m, m1, m2, m3⟩ := cd_exists (memB s) (n := 256) (k := k.toNat) (by omega); exact hn m (by omega) ⟨by rw [h m]; exact m2, by rw [cnt_cd h, m3]; omega⟩
 | f + 1, x, hx, hn => by
  unfold selB; by_cases d : p x = true ∧ (cntB p x : Int) = k
  ·rw [if_pos d]; refine .inl ⟨(x : Int), memB_iff.1 (by rw [← h x]; exact d.1), ?_, rfl⟩; rw [Int.toNat_natCast, ← cnt_cd h]; exact d.2
  ·rw [if_neg d]; refine sel_is hv h k f (x + 1) (by omega) fun y hy => ?_
   by_cases e : y = x
   ·rw [e]; exact d
   ·exact hn y (by omega)
theorem refSelect_is (l : List S34) (kk : Int) (hl : l.length * 16 ≤ 140737488351232) : ∃ r, Ev (fun k => leadtrailref03_Select.f k l kk) r ∧ Sel (setL 255 (l.map L34)) kk r := by
 obtain ⟨p, h1, h2⟩ := memb_is l hl; exact ⟨_, Ev.bind h1 (evNow _), sel_is (setL_valid _ _) h2 kk 256 0 rfl fun y hy => by omega⟩
end Go.Proofs.Ytoljcfocgaonpaa.PB3
end
section
namespace Go.Proofs.Ytoljcfocgaonpaa.PBS
open Go.RowKit Go.Proofs.YtoljcfocgaonpaaW.PrintWords Go.Proofs.YtoljcfocgaonpaaW.PrintLast Go.Proofs.YtoljcfocgaonpaaW.PrintMore Go.Proofs.Ytoljcfocgaonpaa.I Go.Proofs.LT Go.Proofs.Ytoljcfocgaonpaa.PB3
set_option linter.unusedVariables false
set_option linter.unusedSimpArgs false
theorem copy_loop (ps : List (List Sp)) (a : Int) (hI : In2 ps) : ∀ (n i : Nat), i + n = ps.length → Ev (fun k => leadtrailref08_CopyShape.l0 k (i : Int) ps a (ps.take i) a) (ps, a)
 | 0, i, hi => by
  refine evSucc ?_; simp only [leadtrailref08_CopyShape.l0, if_neg (show ¬ (i : Int) < (ps.length : Int) by omega)]; rw [List.take_of_length_le (by omega)]; exact evNow _
 | n + 1, i, hi => by
  have hil : i < ps.length := by omega
  have ih := copy_loop ps a hI n (i + 1) (by omega); have h1 := hI.2 _ (List.getElem_mem hil); have h2 := hI.1; unfold In1 at h1; have hw : Aside0 (wrap64 ((i : Int) + 1) = ((i + 1 : Nat) : Int)) := Aside0.mk (by rw [w64 (by omega) (by omega)]; rfl); have e : ps.take i ++ [([] : List Sp) ++ ps[i]] = ps.take (i + 1) := by rw [List.nil_append, List.take_succ_eq_append_getElem hil]
  refine evSucc ?_; simp only [leadtrailref08_CopyShape.l0, if_pos (show (i : Int) < (ps.length : Int) by omega), Option.bind_some, if_pos (show (0 : Int) ≤ (i : Int) by omega), rdL_at ps i hil, List.length_nil, if_pos (show 0 + (ps[i]).length < 8796093022208 by omega), if_pos (show (ps.take i).length < 5864062014805 by rw [List.length_take]; omega), hw.out, e]; exact ih
theorem Copy_is (ps : List (List Sp)) (a : Int) (hI : In2 ps) : Ev (fun k => leadtrailref08_CopyShape.f k ps a) (ps, a) := by
 have := copy_loop ps a hI ps.length 0 (by omega); rw [List.take_zero] at this; exact this
theorem refSize_at (p : List Sp) (hp : In1 p) (h : okPart p = true) : Ev (fun k => leadtrailref03_Size.f k p) (size (runs p)) := by
 have := refSize_is p hp; rwa [show p.map L34 = runs p from rfl, setL_of (okPart_good h).1] at this
theorem refCount_loop (ps : List (List Sp)) (a : Int) (hI : In2 ps) (hk : ps.all okPart = true) (hl : ps.length ≤ 8) : ∀ (n i : Nat) (m : Int), i + n = ps.length → 1 ≤ m → m ≤ 1073741825 →
 Ev (fun k => leadtrailref08_Count.l0 k m (i : Int) ps a) (capd m (ps.drop i))
 | 0, i, m, hi, _, _ => by
  refine evSucc ?_; simp only [leadtrailref08_Count.l0, if_neg (show ¬ (i : Int) < (ps.length : Int) by omega)]; rw [List.drop_of_length_le (by omega)]; exact evNow _
 | n + 1, i, m, hi, h0, h1 => by
  have hil : i < ps.length := by omega
  have hp := good_part hk hil; have hs := okPart_good hp; have hz := size_256 hs.1; have hb : 1 ≤ m * size (runs ps[i]) := by have := Int.mul_le_mul h0 hs.2 (by omega) (by omega); omega
  have hc : m * size (runs ps[i]) ≤ 1073741825 * 256 := Int.mul_le_mul h1 hz (by omega) (by omega); have hw : Aside0 (wrap64 (m * size (runs ps[i])) = m * size (runs ps[i])) := Aside0.mk (w64 (by omega) (by omega)); have hw2 : Aside0 (wrap64 ((i : Int) + 1) = ((i + 1 : Nat) : Int)) := Aside0.mk (by rw [w64 (by omega) (by omega)]; rfl); have e : capd m (ps.drop i) = capd (min (m * size (runs ps[i])) 1073741825) (ps.drop (i + 1)) := by rw [List.drop_eq_getElem_cons hil]; rfl
  refine evSucc ?_; simp only [leadtrailref08_Count.l0, if_pos (show (i : Int) < (ps.length : Int) by omega), if_pos (show (0 : Int) ≤ (i : Int) by omega), rdL_at ps i hil]; refine Ev.bind (refSize_at _ (hI.2 _ (List.getElem_mem _)) hp) ?_; simp only [hw.out, hw2.out]; rw [e]; by_cases c : m * size (runs ps[i]) > 1073741824
  ·simp only [if_pos c]; rw [show min (m * size (runs ps[i])) 1073741825 = 1073741825 by omega]; exact refCount_loop ps a hI hk hl n (i + 1) _ (by omega) (by omega) (by omega)
  ·simp only [if_neg c]; rw [show min (m * size (runs ps[i])) 1073741825 = m * size (runs ps[i]) by omega]; exact refCount_loop ps a hI hk hl n (i + 1) _ (by omega) (by omega) (by omega)
theorem refCount8_is (ps : List (List Sp)) (a : Int) (hI : In2 ps) (hk : ps.all okPart = true) (hl : ps.length ≤ 8) : Ev (fun k => leadtrailref08_Count.f k ps a) (min (cnt (sets ps)) 1073741825) := by
 have := refCount_loop ps a hI hk hl ps.length 0 1 (by omega) (by omega) (by omega); rw [List.drop_zero, capd_is ps 1 hk (by omega) (by omega), Int.one_mul] at this; exact this
theorem refVShape_loop (ps : List (List Sp)) (a : Int) (hI : In2 ps) (hl : ps.length ≤ 8) (a0 : 0 ≤ a) (a1 : a ≤ 1073741823) : ∀ (n i : Nat), i + n = ps.length → (ps.take i).all okPart = true →
 Ev (fun k => leadtrailref08_ValidShape.l0 k (i : Int) ps a) (ps.all okPart && decide (a + cnt (sets ps) - 1 ≤ 1073741823))
 | 0, i, hi, hk => by
  rw [List.take_of_length_le (by omega)] at hk; have hc := cnt_pos (good_of hk); refine evSucc ?_; simp only [leadtrailref08_ValidShape.l0, if_neg (show ¬ (i : Int) < (ps.length : Int) by omega)]; refine Ev.bind (refCount8_is ps a hI hk hl) ?_; rw [hk, Bool.true_and, w64 (x := a + min (cnt (sets ps)) 1073741825) (by omega) (by omega), w64 (by omega) (by omega), show decide (a + min (cnt (sets ps)) 1073741825 - 1 ≤ 1073741823) = decide (a + cnt (sets ps) - 1 ≤ 1073741823) from decide_eq_decide.2 (by omega)]; exact evNow _
 | n + 1, i, hi, hk => by
  have hil : i < ps.length := by omega
  have hw2 : Aside0 (wrap64 ((i : Int) + 1) = ((i + 1 : Nat) : Int)) := Aside0.mk (by rw [w64 (by omega) (by omega)]; rfl); have hbad : okPart ps[i] = false → ps.all okPart = false := fun h => by
   cases q : ps.all okPart
   ·rfl
   ·rw [good_part q hil] at h; cases h
  refine evSucc ?_; simp only [leadtrailref08_ValidShape.l0, if_pos (show (i : Int) < (ps.length : Int) by omega), if_pos (show (0 : Int) ≤ (i : Int) by omega), rdL_at ps i hil]; by_cases c : ((ps[i]).length : Int) = 0
  ·simp only [if_pos c]; rw [hbad (by simp only [okPart, decide_eq_true (show (ps[i]).length = 0 by omega)]; rfl), Bool.false_and]; exact evNow _
  ·simp only [if_neg c]; have e : okPart ps[i] = validB 255 (-2) (runs ps[i]) := by simp only [okPart, decide_eq_false (show ¬ (ps[i]).length = 0 by omega)]; rfl
   refine Ev.bind (refValid_is ps[i] (hI.2 _ (List.getElem_mem _))) ?_; rw [show (ps[i]).map L34 = runs ps[i] from rfl, ← e]; cases q : okPart ps[i]
   ·simp only [Bool.false_eq_true, if_false]; rw [hbad q, Bool.false_and]; exact evNow _
   ·simp only [if_true, hw2.out]; refine refVShape_loop ps a hI hl a0 a1 n (i + 1) (by omega) ?_; rw [List.take_succ_eq_append_getElem hil, List.all_append, hk]; simp [q]
theorem refVShape_is (ps : List (List Sp)) (a : Int) (hI : In2 ps) : Ev (fun k => leadtrailref08_ValidShape.f k ps a) (vShape ps a) := by
 have jT : Ev (fun k => leadtrailref08_ValidShape.j0 k true ps a) false := by
  refine evSucc ?_; simp only [leadtrailref08_ValidShape.j0, if_true]; exact evNow _
 simp only [leadtrailref08_ValidShape.f]; by_cases c1 : (ps.length : Int) < 1
 ·simp only [if_pos c1, vShape, decide_eq_false (show ¬ (1 ≤ ps.length ∧ ps.length ≤ 8) by omega), Bool.false_and]; exact jT
 by_cases c2 : (ps.length : Int) > 8
 ·simp only [if_neg c1, if_pos c2, vShape, decide_eq_false (show ¬ (1 ≤ ps.length ∧ ps.length ≤ 8) by omega), Bool.false_and]; exact jT
 simp only [if_neg c1, if_neg c2, vShape, decide_eq_true (show 1 ≤ ps.length ∧ ps.length ≤ 8 by omega), Bool.true_and]; by_cases c3 : a < 0
 ·simp only [if_pos c3, decide_eq_false (show ¬ (0 ≤ a ∧ a ≤ 1073741823) by omega), Bool.false_and]; exact jT
 by_cases c4 : a > 1073741823
 ·simp only [if_neg c3, decide_eq_true c4, decide_eq_false (show ¬ (0 ≤ a ∧ a ≤ 1073741823) by omega), Bool.false_and]; exact jT
 simp only [if_neg c3, decide_eq_false c4, decide_eq_true (show 0 ≤ a ∧ a ≤ 1073741823 by omega), Bool.true_and]; refine evSucc ?_; simp only [leadtrailref08_ValidShape.j0, Bool.false_eq_true, if_false]; exact refVShape_loop ps a hI (by omega) (by omega) (by omega) ps.length 0 (by omega) rfl
theorem refCount_is (ps : List (List Sp)) (a : Int) (hI : In2 ps) : Ev (fun k => leadtrailref09_Count.f k ps a) (if vShape ps a = true then cnt (sets ps) else 0) := by
 simp only [leadtrailref09_Count.f]; refine Ev.bind (refVShape_is ps a hI) ?_; cases hv : vShape ps a
 ·simp only [Bool.false_eq_true, if_false]; exact evNow _
 ·simp only [if_true]; obtain ⟨⟨l1, l2⟩, ⟨a1, a2⟩, hk, hg, hc⟩ := vShape_good hv; have := refCount8_is ps a hI hk l2; rw [show min (cnt (sets ps)) 1073741825 = cnt (sets ps) by omega] at this; exact Ev.bind this (evNow _)
end Go.Proofs.Ytoljcfocgaonpaa.PBS
end
section
namespace Go.Proofs.Ytoljcfocgaonpaa.PBS
open Go.RowKit Go.Proofs.YtoljcfocgaonpaaW.PrintWords Go.Proofs.YtoljcfocgaonpaaW.PrintLast Go.Proofs.YtoljcfocgaonpaaW.PrintMore Go.Proofs.Ytoljcfocgaonpaa.I Go.Proofs.LT Go.Proofs.Ytoljcfocgaonpaa.PB3
set_option linter.unusedVariables false
set_option linter.unusedSimpArgs false
noncomputable def cntS (ps : List (List Sp)) (a : Int) : Int := if vShape ps a = true then cnt (sets ps) else 0
noncomputable def okB (ps : List (List Sp)) (a k : Int) : Bool := decide (0 ≤ k ∧ k < cntS ps a)
noncomputable def unS (ps : List (List Sp)) (a k : Int) : List Int := if okB ps a k = true then unr (sets ps) k else []
theorem okB_of {ps : List (List Sp)} {a k : Int} (h : okB ps a k = true) : vShape ps a = true ∧ 0 ≤ k ∧ k < cnt (sets ps) := by
 have h := of_decide_eq_true h; by_cases hv : vShape ps a = true
 ·have e : cntS ps a = cnt (sets ps) := if_pos hv; exact ⟨hv, h.1, by omega⟩
 ·have e : cntS ps a = 0 := if_neg hv; omega
theorem Unrank_is (ps : List (List Sp)) (a k : Int) (hI : In2 ps) : Ev (fun n => shape_Unrank.f n ps a k) (unS ps a k, okB ps a k) := by
 cases h : okB ps a k
 ·have := Unrank_no ps a k hI (of_decide_eq_false h); simpa [unS, h] using this
 ·obtain ⟨hv, h0, h1⟩ := okB_of h; have := Unrank_yes hI hv h0 h1; simpa [unS, h] using this
end Go.Proofs.Ytoljcfocgaonpaa.PBS
namespace Go.Proofs.Ytoljcfocgaonpaa.Pure
open Go.Proofs.Ytoljcfocgaonpaa.I Go.Proofs.YtoljcfocgaonpaaW.PrintWords
end Go.Proofs.Ytoljcfocgaonpaa.Pure
end
section
namespace Go.Proofs.Ytoljcfocgaonpaa.PBS
open Go.RowKit Go.Proofs.YtoljcfocgaonpaaW.PrintWords Go.Proofs.YtoljcfocgaonpaaW.PrintLast Go.Proofs.YtoljcfocgaonpaaW.PrintMore Go.Proofs.Ytoljcfocgaonpaa.I Go.Proofs.LT Go.Proofs.Ytoljcfocgaonpaa.PB3
set_option linter.unusedVariables false
set_option linter.unusedSimpArgs false
theorem evAllS {α : Type} {g : Nat → Nat → Option α} {v : Nat → α} : ∀ {N : Nat}, (∀ i, i < N → Ev (g i) (v i)) → ∃ K, ∀ k, K ≤ k → ∀ i, i < N → g i k = some (v i)
 | 0, _ => ⟨0, fun _ _ i hi => by omega⟩
 | N + 1, h => by
  obtain ⟨K, hK⟩ := evAllS (N := N) (fun i hi => h i (by omega)); obtain ⟨K', hK'⟩ := h N (by omega); refine ⟨max K K', fun k hk i hi => ?_⟩; rcases Nat.lt_or_ge i N with c | c
  ·exact hK k (by omega) i c
  ·obtain rfl : i = N := by omega
   exact hK' k (by omega)
theorem memI_R (l : List S133) (fr : Int) : memI l fr = memR (l.map L133) fr := by
 unfold memI memR; rw [List.flatMap_map]; rfl
theorem setOf_is (p : List Sp) (hp : In1 p) (hk : okPart p = true) : ∃ s, Ev (fun k => spans_set.f k p) s ∧ s.map L133 = runs p ∧ s.length ≤ 4611686018427387904 ∧ (∀ r ∈ s, r.f1 ≤ 4611686018427387904 ∧ -4611686018427387904 ≤ r.f0) := by
 obtain ⟨s, s1, s2⟩ := spans_set_is p hp; obtain ⟨hv, hn⟩ := spans_set_facts s2; have hs := okPart_good hk; rw [show p.map L34 = runs p from rfl, setL_of hs.1] at s2; refine ⟨s, s1, s2, ?_, ?_⟩
 ·have e : s.length = p.length := by have := congrArg List.length s2; rw [List.length_map] at this; rw [this]; exact List.length_map ..
  unfold In1 at hp; omega
 ·intro r hr; have := hs.1.each (L133 r) (by rw [← s2]; exact List.mem_map_of_mem hr); simp only [L133] at this; omega
theorem take_sets (ps : List (List Sp)) (n : Nat) (hn : n < ps.length) : sets (ps.take (n + 1)) = sets (ps.take n) ++ [runs ps[n]] := by
 unfold sets; rw [List.take_succ_eq_append_getElem hn, List.map_append]; rfl
theorem stepB_is (ps : List (List Sp)) (hk : ps.all okPart = true) (L : Nat → List S133) (hL : ∀ t (h : t < ps.length), (L t).map L133 = runs ps[t]) : ∀ (n : Nat) (q : Int) (r : List Int), n ≤ ps.length → 0 ≤ q → q < cnt (sets (ps.take n)) →
 stepB ps L n (unr (sets (ps.take n)) q ++ r) = if q + 1 < cnt (sets (ps.take n)) then some (unr (sets (ps.take n)) (q + 1) ++ r) else none
 | 0, q, r, _, h0, h1 => by
  rw [show cnt (sets (ps.take 0)) = 1 from cnt_nil] at h1 ⊢; rw [if_neg (by omega)]; rfl
 | n + 1, q, r, hn, h0, h1 => by
  have hnl : n < ps.length := by omega
  have hp := good_part hk hnl; have hs := okPart_good hp; have hz := size_256 hs.1; have hg : GoodP (sets (ps.take n)) := good_of (List.all_eq_true.2 fun x hx => List.all_eq_true.1 hk x (List.mem_of_mem_take hx)); have hcp := cnt_pos hg; rw [take_sets ps n hnl, cnt_snoc] at h1; have hdl : q / size (runs ps[n]) < cnt (sets (ps.take n)) := Int.ediv_lt_of_lt_mul (by omega) h1; have hd0 : 0 ≤ q / size (runs ps[n]) := Int.ediv_nonneg h0 (by omega); have m0 := Int.emod_nonneg q (show size (runs ps[n]) ≠ 0 by omega); have m1 := Int.emod_lt_of_pos q (show 0 < size (runs ps[n]) by omega); have em := Int.mul_ediv_add_emod q (size (runs ps[n])); rw [take_sets ps n hnl, cnt_snoc, unr_snoc' hs.2 hg h0 h1]; have hlen : (unr (sets (ps.take n)) (q / size (runs ps[n]))).length = n := by rw [unr_len, sets_len, List.length_take]; omega
  have eg : (unr (sets (ps.take n)) (q / size (runs ps[n])) ++ [selV (runs ps[n]) (q % size (runs ps[n]))] ++ r).getD n 0 = selV (runs ps[n]) (q % size (runs ps[n])) := by
   simp [List.getD, hlen]
  have es : ∀ y, (unr (sets (ps.take n)) (q / size (runs ps[n])) ++ [selV (runs ps[n]) (q % size (runs ps[n]))] ++ r).set n y = unr (sets (ps.take n)) (q / size (runs ps[n])) ++ (y :: r) := fun y => by
   rw [List.append_assoc, List.set_append_right _ _ (by omega), hlen]; simp
  show (match memI (L n) ((unr (sets (ps.take n)) (q / size (runs ps[n])) ++ [selV (runs ps[n]) (q % size (runs ps[n]))] ++ r).getD n 0 + 1) with
   | x :: _ => some ((unr (sets (ps.take n)) (q / size (runs ps[n])) ++ [selV (runs ps[n]) (q % size (runs ps[n]))] ++ r).set n (x % 256))
   | [] => stepB ps L n ((unr (sets (ps.take n)) (q / size (runs ps[n])) ++ [selV (runs ps[n]) (q % size (runs ps[n]))] ++ r).set n ((rd_T34 (ps.getD n []) 0).f0 % 256))) = _
  rw [eg, memI_R, hL n hnl, es]; by_cases c : q % size (runs ps[n]) + 1 < size (runs ps[n])
  ·obtain ⟨t, ht⟩ := memR_up hs.1 m0 c; have hr := hs.1.range (selV_spec hs.1 (show 0 ≤ q % size (runs ps[n]) + 1 by omega) c).1; have e1 : (q + 1) / size (runs ps[n]) = q / size (runs ps[n]) ∧ (q + 1) % size (runs ps[n]) = q % size (runs ps[n]) + 1 :=
    (Int.ediv_emod_unique (a := q + 1) (b := size (runs ps[n])) (by omega)).2 ⟨by omega, by omega, c⟩
   have hq : q + 1 < cnt (sets (ps.take n)) * size (runs ps[n]) := by
    have h2 := Int.mul_le_mul_of_nonneg_right (show q / size (runs ps[n]) + 1 ≤ cnt (sets (ps.take n)) by omega) (show 0 ≤ size (runs ps[n]) by omega); rw [Int.add_mul, Int.one_mul, Int.mul_comm] at h2; omega
   rw [ht, if_pos hq, unr_snoc' hs.2 hg (by omega) hq, e1.1, e1.2]; simp only; rw [es, Int.emod_eq_of_lt hr.1 (by omega)]; simp
  ·rw [memR_end hs.1 m0 m1 c]; simp only; have e1 : (q + 1) / size (runs ps[n]) = q / size (runs ps[n]) + 1 ∧ (q + 1) % size (runs ps[n]) = 0 :=
    (Int.ediv_emod_unique (a := q + 1) (b := size (runs ps[n])) (by omega)).2 ⟨by rw [Int.mul_add, Int.mul_one]; omega, by omega, by omega⟩
   have ih := stepB_is ps hk L hL n (q / size (runs ps[n])) (selV (runs ps[n]) 0 :: r) (by omega) hd0 hdl; have hlo : (rd_T34 (ps.getD n []) 0).f0 % 256 = selV (runs ps[n]) 0 := by
    have hne : ∃ x t, ps[n] = x :: t := by
     cases h : ps[n] with
     | nil => rw [h] at hp; simp [okPart] at hp
     | cons x t => exact ⟨x, t, rfl⟩
    obtain ⟨x, t, hx⟩ := hne; have hv := hs.1; rw [hx] at hv; have e2 := selV_zero (r := L34 x) (t := runs t) hv; rw [hx]; show _ = selV (L34 x :: runs t) 0; rw [e2]; have hr := hv.each (L34 x) (List.mem_cons_self); have e3 : ps.getD n [] = x :: t := by simp [List.getD, hnl, hx]
    rw [e3]; show x.f0 % 256 = x.f0; have h3 : 0 ≤ x.f0 := hr.1; have h4 : x.f0 ≤ x.f1 := hr.2.1; have h5 : x.f1 ≤ 255 := hr.2.2; exact Int.emod_eq_of_lt h3 (by omega)
   rw [hlo, ih]; have hiff : (q / size (runs ps[n]) + 1 < cnt (sets (ps.take n))) ↔ (q + 1 < cnt (sets (ps.take n)) * size (runs ps[n])) := by
    have e2 : q + 1 = (q / size (runs ps[n]) + 1) * size (runs ps[n]) := by rw [Int.add_mul, Int.one_mul, Int.mul_comm]; omega
    rw [e2]; exact (Int.mul_lt_mul_right (by omega)).symm
   by_cases d : q / size (runs ps[n]) + 1 < cnt (sets (ps.take n))
   ·rw [if_pos d, if_pos (hiff.1 d), unr_snoc' hs.2 hg (by omega) (hiff.1 d), e1.1, e1.2]; simp
   ·rw [if_neg d, if_neg (fun h => d (hiff.2 h))]
noncomputable def nSq (ps : List (List Sp)) (a fr : Int) : Nat := (cntS ps a - max fr 0).toNat
noncomputable def sqOf (ps : List (List Sp)) (fr : Int) (j : Nat) : List Int := unr (sets ps) (max fr 0 + j)
theorem allF_ev (ps : List (List Sp)) (a fr : Int) (hI : In2 ps) : ∃ K L, ∀ k, K ≤ k → AllF k ps a fr (unS ps a (max fr 0)) (okB ps a (max fr 0)) (nSq ps a fr) (sqOf ps fr) L := by
 obtain ⟨K0, h0⟩ := Unrank_is ps a (max fr 0) hI; cases hb : okB ps a (max fr 0)
 ·rw [hb] at h0; refine ⟨K0, fun _ => [], fun k hk_ => ⟨h0 _ hk_, fun _ => ?_, fun h => by cases h⟩⟩; have := of_decide_eq_false hb; unfold nSq; omega
 ·rw [hb] at h0; obtain ⟨hv, u0, u1⟩ := okB_of hb; obtain ⟨⟨l1, l2⟩, ha, hk, hg, hcn⟩ := vShape_good hv; have hcs : cntS ps a = cnt (sets ps) := by unfold cntS; rw [if_pos hv]
  have hset : ∀ t, ∃ s, ∀ h : t < ps.length, Ev (fun k => spans_set.f k (ps.getD t [])) s ∧ s.map L133 = runs ps[t] ∧ s.length ≤ 4611686018427387904 ∧ (∀ r ∈ s, r.f1 ≤ 4611686018427387904 ∧ -4611686018427387904 ≤ r.f0) := fun t => by
   by_cases h : t < ps.length
   ·obtain ⟨s, s1, s2, s3, s4⟩ := setOf_is ps[t] (hI.2 _ (List.getElem_mem h)) (good_part hk h); have e : ps.getD t [] = ps[t] := by simp [List.getD, h]
    exact ⟨s, fun _ => ⟨by rw [e]; exact s1, s2, s3, s4⟩⟩
   ·exact ⟨[], fun h' => absurd h' h⟩
  have hL := fun t => (hset t).choose_spec
  generalize hLe : (fun t => (hset t).choose) = L at hL; have hL' : ∀ t, ∀ h : t < ps.length, Ev (fun k => spans_set.f k (ps.getD t [])) (L t) ∧ (L t).map L133 = runs ps[t] ∧ (L t).length ≤ 4611686018427387904 ∧ (∀ r ∈ L t, r.f1 ≤ 4611686018427387904 ∧ -4611686018427387904 ≤ r.f0) := fun t h => by
   have := hL t h; rw [← hLe]; exact this
  obtain ⟨K1, h1⟩ := evAllS (g := fun t k => spans_set.f k (ps.getD t [])) (v := L) (N := ps.length) (fun t h => (hL' t h).1); have hN : ((nSq ps a fr : Nat) : Int) = cnt (sets ps) - max fr 0 := by unfold nSq; rw [hcs]; omega
  refine ⟨max K0 K1, L, fun k hk_ => ⟨h0 _ (by omega), (fun h => by cases h), fun _ => ⟨by omega, ?_, by omega, by omega, by omega, fun t ht => ⟨h1 _ (by omega) t ht, (hL' t ht).2.2.1, (hL' t ht).2.2.2, ?_⟩, fun j hj => ⟨?_, ?_, ?_⟩⟩⟩⟩
  ·unfold unS sqOf; rw [if_pos hb]; congr 1
   omega
  ·have hp := good_part hk ht; have e : ps.getD t [] = ps[t] := by simp [List.getD, ht]
   rw [e]; simp only [okPart, Bool.and_eq_true, Bool.not_eq_true', decide_eq_false_iff_not] at hp; omega
  ·unfold sqOf; rw [unr_len, sets_len]
  ·exact unr_range hg (by omega) (by omega)
  ·have := stepB_is ps hk L (fun t h => (hL' t h).2.1) ps.length (max fr 0 + j) [] (Nat.le_refl _) (by omega) (by rw [List.take_length]; omega); rw [List.take_length, List.append_nil, List.append_nil] at this; unfold sqOf; rw [this]; by_cases c : j + 1 < nSq ps a fr
   ·rw [if_pos c, if_pos (by omega)]; congr 2
    omega
   ·rw [if_neg c, if_neg (by omega)]
end Go.Proofs.Ytoljcfocgaonpaa.PBS
end
section
namespace Go.Proofs.Ytoljcfocgaonpaa.PBS
open Go.RowKit Go.Proofs.YtoljcfocgaonpaaW.PrintWords Go.Proofs.YtoljcfocgaonpaaW.PrintLast Go.Proofs.YtoljcfocgaonpaaW.PrintMore Go.Proofs.Ytoljcfocgaonpaa.I Go.Proofs.LT Go.Proofs.Ytoljcfocgaonpaa.PB3
set_option linter.unusedVariables false
set_option linter.unusedSimpArgs false
theorem cloneSpan_is (p : List Sp) (h : In1 p) : cloneSpan.f p = some p := by
 unfold In1 at h; simp only [cloneSpan.f, if_pos (show p.length < 8796093022208 by omega)]
theorem sCopy_in (ss out : List Sh) (i : Nat) (ps : List (List Sp)) (f : Int) (hp : In2 ps) (ho : out.length < 4398046511104) (hi : i ≤ 4398046511104) {r : List Sh} (h : Ev (fun k => scheme_Copy.l0 k ss (ss.length : Int) ((i + 1 : Nat) : Int) (out ++ [⟨ps, f⟩])) r) : ∀ (n j : Nat), j + n = ps.length →
 Ev (fun k => scheme_Copy.l1 k ss (ss.length : Int) (i : Int) ps (ps.length : Int) (j : Int) out (ps.take j) f) r
 | 0, j, hj => by
  obtain rfl : j = ps.length := by omega
  have hw : Aside0 (wrap64 ((i : Int) + 1) = ((i + 1 : Nat) : Int)) := Aside0.mk (by rw [w64 (by omega) (by omega)]; rfl); refine evSucc ?_; simp only [scheme_Copy.l1, if_neg (show ¬ ((ps.length : Nat) : Int) < ((ps.length : Nat) : Int) by omega), if_pos ho, hw.out, List.take_length]; exact h
 | n + 1, j, hj => by
  have hjl : j < ps.length := by omega
  have h1 := hp.1; have hw : Aside0 (wrap64 ((j : Int) + 1) = ((j + 1 : Nat) : Int)) := Aside0.mk (by rw [w64 (by omega) (by omega)]; rfl); have ih := sCopy_in ss out i ps f hp ho hi h n (j + 1) (by omega); have e : ps.take j ++ [ps[j]] = ps.take (j + 1) := (List.take_succ_eq_append_getElem hjl).symm; refine evSucc ?_; simp only [scheme_Copy.l1, if_pos (show (j : Int) < ((ps.length : Nat) : Int) by omega), if_pos (show (0 : Int) ≤ (j : Int) by omega), rdL_at ps j hjl, cloneSpan_is _ (hp.2 _ (List.getElem_mem hjl)), Option.bind_some, if_pos (show (ps.take j).length < 5864062014805 by rw [List.length_take]; omega), hw.out, e]; exact ih
theorem sCopy_loop (ss : List Sh) (hI : InS ss) : ∀ (n i : Nat), i + n = ss.length → Ev (fun k => scheme_Copy.l0 k ss (ss.length : Int) (i : Int) (ss.take i)) ss
 | 0, i, hi => by
  refine evSucc ?_; simp only [scheme_Copy.l0, if_neg (show ¬ (i : Int) < (ss.length : Int) by omega)]; rw [List.take_of_length_le (by omega)]; exact evNow _
 | n + 1, i, hi => by
  have hil : i < ss.length := by omega
  have h1 := hI.1; have ih := sCopy_loop ss hI n (i + 1) (by omega); have er : rd_T47 ss (i : Int) = ss[i] := by simp [rd_T47, List.getD, hil]
  rw [List.take_succ_eq_append_getElem hil] at ih; have h := sCopy_in ss (ss.take i) i (ss[i]).f0 (ss[i]).f1 (hI.2 _ (List.getElem_mem hil)) (by rw [List.length_take]; omega) (by omega) ih (ss[i]).f0.length 0 (by omega); refine evSucc ?_; simp only [scheme_Copy.l0, if_pos (show (i : Int) < (ss.length : Int) by omega), if_pos (show (0 : Int) ≤ (i : Int) by omega), er]; exact h
theorem sCopy_is (ss : List Sh) (hI : InS ss) : Ev (fun k => scheme_Copy.f k ss) ss := sCopy_loop ss hI ss.length 0 (by omega)
theorem sCopy_one (ps : List (List Sp)) (a : Int) (hI : In2 ps) : Ev (fun k => scheme_Copy.f k [⟨ps, a⟩]) [⟨ps, a⟩] := sCopy_is _ ⟨by simp, fun p hp => by rw [List.mem_singleton.1 hp]; exact hI⟩
end Go.Proofs.Ytoljcfocgaonpaa.PBS
end
section
namespace Go.Proofs.Ytoljcfocgaonpaa.PBS
open Go.RowKit Go.Proofs.YtoljcfocgaonpaaW.PrintWords Go.Proofs.YtoljcfocgaonpaaW.PrintLast Go.Proofs.YtoljcfocgaonpaaW.PrintMore Go.Proofs.Ytoljcfocgaonpaa.I Go.Proofs.LT Go.Proofs.Ytoljcfocgaonpaa.PB3
set_option linter.unusedVariables false
set_option linter.unusedSimpArgs false
theorem div_mod_mul {k n c : Int} (hc : 0 < c) (hn : 0 < n) : k / (n * c) = k / c / n ∧ k % (n * c) = (k / c % n) * c + k % c := by
 have h1 := Int.emod_nonneg k (show c ≠ 0 by omega); have h2 := Int.emod_lt_of_pos k hc; have h3 := Int.emod_nonneg (k / c) (show n ≠ 0 by omega); have h4 := Int.emod_lt_of_pos (k / c) hn; have e1 := Int.ediv_mul_add_emod k c; have e2 := Int.ediv_mul_add_emod (k / c) n; have m0 := Int.mul_nonneg h3 (show 0 ≤ c by omega); have m1 := Int.mul_le_mul_of_nonneg_right (show k / c % n + 1 ≤ n by omega) (show 0 ≤ c by omega); rw [Int.add_mul, Int.one_mul] at m1; refine (Int.ediv_emod_unique (Int.mul_pos hn hc)).2 ⟨?_, by omega, by omega⟩; have e3 : n * c * (k / c / n) = k / c / n * n * c := by rw [Int.mul_comm, Int.mul_assoc]
 rw [e3]; have e4 : k / c * c = (k / c / n * n + k / c % n) * c := by rw [e2]
 rw [Int.add_mul] at e4; omega
theorem refSelect_at (p : List Sp) (d : Int) (hi : In1 p) (hk : okPart p = true) (h0 : 0 ≤ d) (h1 : d < size (runs p)) : Ev (fun k => leadtrailref03_Select.f k p d) (selV (runs p) d, true) := by
 have hs := okPart_good hk; obtain ⟨r, r1, r2⟩ := refSelect_is p d hi; rw [show p.map L34 = runs p from rfl, setL_of hs.1] at r2; have hS := selV_spec hs.1 h0 h1; obtain rfl := Sel.uniq hs.1 r2 (.inl ⟨_, hS.1, hS.2, rfl⟩); exact r1
theorem refUnrank_loop (ps : List (List Sp)) (a K : Int) (hI : In2 ps) (hk : ps.all okPart = true) (hl : ps.length ≤ 8) (hc : cnt (sets ps) ≤ 1073741824) (k0 : 0 ≤ K) (k1 : K < cnt (sets ps)) : ∀ (i : Nat), i ≤ ps.length →
 Ev (fun k => leadtrailref09_Unrank.l0 k (K / cnt (sets (ps.drop i))) ((i : Int) - 1) (List.replicate i 0 ++ unr (sets (ps.drop i)) (K % cnt (sets (ps.drop i)))) ps a) (unr (sets ps) K, true)
 | 0, _ => by
  refine evSucc ?_; rw [List.drop_zero, Int.emod_eq_of_lt k0 k1]; simp only [leadtrailref09_Unrank.l0, if_neg (show ¬ (((0 : Nat) : Int) - 1 ≥ 0) by omega)]; simpa using evNow (unr (sets ps) K, true)
 | i + 1, hi => by
  have hil : i < ps.length := by omega
  have ih := refUnrank_loop ps a K hI hk hl hc k0 k1 i (by omega); have hg := good_of hk; have hp := good_part hk hil; have hs := okPart_good hp; have hz := size_256 hs.1; have hpos : 1 ≤ cnt (sets (ps.drop (i + 1))) := by have := cnt_pos (hg.drop (i + 1)); rwa [sets_drop] at this
  have hcs := cnt_step ps i hil; obtain ⟨e1, e2⟩ := div_mod_mul (k := K) (show 0 < cnt (sets (ps.drop (i + 1))) by omega) (show 0 < size (runs ps[i]) by omega); rw [← hcs] at e1 e2; have q0 : 0 ≤ K / cnt (sets (ps.drop (i + 1))) := Int.ediv_nonneg k0 (by omega); have q1 : K / cnt (sets (ps.drop (i + 1))) ≤ K := Int.ediv_le_self _ k0; have d0 := Int.emod_nonneg (K / cnt (sets (ps.drop (i + 1)))) (show size (runs ps[i]) ≠ 0 by omega); have d1 := Int.emod_lt_of_pos (K / cnt (sets (ps.drop (i + 1)))) (show 0 < size (runs ps[i]) by omega); have r0 := Int.emod_nonneg K (show cnt (sets (ps.drop (i + 1))) ≠ 0 by omega); have r1 := Int.emod_lt_of_pos K (show 0 < cnt (sets (ps.drop (i + 1))) by omega); have hr := hs.1.range (selV_spec hs.1 d0 d1).1; have t1 : Int.tdiv (K / cnt (sets (ps.drop (i + 1)))) (size (runs ps[i])) = K / cnt (sets (ps.drop i)) := by rw [Int.tdiv_eq_ediv_of_nonneg q0, e1]
  have t2 : Int.tmod (K / cnt (sets (ps.drop (i + 1)))) (size (runs ps[i])) = K / cnt (sets (ps.drop (i + 1))) % size (runs ps[i]) := Int.tmod_eq_emod_of_nonneg q0; have q3 : 0 ≤ K / cnt (sets (ps.drop i)) := by rw [e1]; exact Int.ediv_nonneg q0 (by omega)
  have q4 : K / cnt (sets (ps.drop i)) ≤ K := by rw [e1]; exact Int.le_trans (Int.ediv_le_self _ q0) q1
  have hw : Aside0 (wrap64 (K / cnt (sets (ps.drop i))) = K / cnt (sets (ps.drop i))) := Aside0.mk (w64 (by omega) (by omega)); have hw2 : Aside0 (wrap64 ((i : Int) - 1) = (i : Int) - 1) := Aside0.mk (w64 (by omega) (by omega)); have hm : selV (runs ps[i]) (K / cnt (sets (ps.drop (i + 1))) % size (runs ps[i])) % 256 = selV (runs ps[i]) (K / cnt (sets (ps.drop (i + 1))) % size (runs ps[i])) := Int.emod_eq_of_lt hr.1 (by omega); have hlen : ((List.replicate (i + 1) (0 : Int) ++ unr (sets (ps.drop (i + 1))) (K % cnt (sets (ps.drop (i + 1))))).length : Nat) = ps.length := by
   rw [List.length_append, List.length_replicate, unr_len, sets_len, List.length_drop]; omega
  have eu : unr (sets (ps.drop i)) (K % cnt (sets (ps.drop i))) = selV (runs ps[i]) (K / cnt (sets (ps.drop (i + 1))) % size (runs ps[i])) :: unr (sets (ps.drop (i + 1))) (K % cnt (sets (ps.drop (i + 1)))) := by
   have e3 : (K % cnt (sets (ps.drop i))) / cnt (sets (ps.drop (i + 1))) = K / cnt (sets (ps.drop (i + 1))) % size (runs ps[i]) := by
    rw [e2, Int.add_comm, Int.add_mul_ediv_right _ _ (by omega), Int.ediv_eq_zero_of_lt r0 r1]; omega
   have e4 : (K % cnt (sets (ps.drop i))) % cnt (sets (ps.drop (i + 1))) = K % cnt (sets (ps.drop (i + 1))) := by
    rw [e2, Int.add_comm, Int.add_mul_emod_self_right, Int.emod_eq_of_lt r0 r1]
   rw [← e3, ← e4]; rw [List.drop_eq_getElem_cons hil]; exact unr_cons _ _ _
  refine evSucc ?_; rw [show (((i + 1 : Nat) : Int) - 1) = (i : Int) by omega]; simp only [leadtrailref09_Unrank.l0, if_pos (show (i : Int) ≥ 0 by omega), if_pos (show (0 : Int) ≤ (i : Int) by omega), if_pos (show (i : Int) < ((ps.length : Nat) : Int) by omega), rdL_at ps i hil]; refine Ev.bind (refSize_at _ (hI.2 _ (List.getElem_mem _)) hp) ?_; simp only [if_neg (show ¬ size (runs ps[i]) = 0 by omega)]; simp only [t1, t2]; refine Ev.bind (refSelect_at _ _ (hI.2 _ (List.getElem_mem _)) hp d0 d1) ?_; simp only [hlen, if_pos (show (i : Int) < ((ps.length : Nat) : Int) by omega), hw.out, hw2.out, hm, Int.toNat_natCast, set_mid]; rw [← eu]; exact ih
theorem refUnrank_is (ps : List (List Sp)) (a k : Int) (hI : In2 ps) : Ev (fun n => leadtrailref09_Unrank.f n ps a k) (unS ps a k, okB ps a k) := by
 have jT : Ev (fun n => leadtrailref09_Unrank.j0 n k true ps a) ([], false) := by
  refine evSucc ?_; simp only [leadtrailref09_Unrank.j0, if_true]; exact evNow _
 have no : okB ps a k = false → (unS ps a k, okB ps a k) = ([], false) := fun h => by rw [h]; unfold unS; rw [h]; rfl
 simp only [leadtrailref09_Unrank.f]; by_cases c : k < 0
 ·simp only [if_pos c]; rw [no (decide_eq_false (by omega))]; exact jT
 ·simp only [if_neg c]; refine Ev.bind (show Ev _ (cntS ps a) from refCount_is ps a hI) ?_; cases h : okB ps a k
  ·have := of_decide_eq_false h; rw [decide_eq_true (show k ≥ cntS ps a by omega)]; have e := no h; rw [h] at e; rw [e]; exact jT
  ·obtain ⟨hv, h0, h1⟩ := okB_of h; have h2 : 0 ≤ k ∧ k < cntS ps a := of_decide_eq_true h; obtain ⟨⟨l1, l2⟩, ⟨a1, a2⟩, hk, hg, hc⟩ := vShape_good hv; rw [decide_eq_false (show ¬ k ≥ cntS ps a by omega)]; refine evSucc ?_; have := refUnrank_loop ps a k hI hk l2 (by omega) h0 h1 ps.length (Nat.le_refl _); rw [List.drop_length, show cnt (sets []) = 1 from cnt_nil, Int.ediv_one, show unr (sets []) (k % 1) = [] from unr_nil _, List.append_nil] at this; have hw2 : Aside0 (wrap64 ((ps.length : Int) - 1) = (ps.length : Int) - 1) := Aside0.mk (w64 (by omega) (by omega)); simp only [leadtrailref09_Unrank.j0, Bool.false_eq_true, if_false, if_pos (show (0 : Int) ≤ ((ps.length : Nat) : Int) by omega), Int.toNat_natCast, if_pos (show ps.length ≤ 281474976710656 by omega), Option.bind_some, List.length_replicate, hw2.out]; unfold unS; simp only [h, if_true]; exact this
end Go.Proofs.Ytoljcfocgaonpaa.PBS
end
section
namespace Go.Proofs.Ytoljcfocgaonpaa.PBS
open Go.RowKit Go.Proofs.YtoljcfocgaonpaaW.PrintWords Go.Proofs.YtoljcfocgaonpaaW.PrintLast Go.Proofs.YtoljcfocgaonpaaW.PrintMore Go.Proofs.Ytoljcfocgaonpaa.I Go.Proofs.LT Go.Proofs.Ytoljcfocgaonpaa.PB3
set_option linter.unusedVariables false
set_option linter.unusedSimpArgs false
def C (p : Sh) : Cs := (sets p.f0, p.f1)
def cs (ss : List Sh) : List Cs := ss.map C
theorem last_C (p : Sh) : lastC (C p) = lastOf p := rfl
theorem vS_facts : ∀ (t pre : List Sh), vS pre t = true → (∀ p ∈ t, vShape p.f0 p.f1 = true) ∧ (∀ q ∈ pre, ∀ p ∈ t, meetsB p q = false) ∧ Apart (cs t)
 | [], _, _ => ⟨fun _ h => (by cases h), fun _ _ _ h => (by cases h), trivial⟩
 | p :: t, pre, h => by
  have h' : (vShape p.f0 p.f1 && (!(pre.any (meetsB p)) && vS (pre ++ [p]) t)) = true := h; simp only [Bool.and_eq_true, Bool.not_eq_true'] at h'; obtain ⟨h1, h2, h3⟩ := h'; obtain ⟨k1, k2, k3⟩ := vS_facts t (pre ++ [p]) h3; refine ⟨fun q hq => ?_, fun q hq r hr => ?_, fun r hr => ?_, k3⟩
  ·rcases List.mem_cons.1 hq with rfl | hq
   ·exact h1
   ·exact k1 q hq
  ·rcases List.mem_cons.1 hr with rfl | hr
   ·cases e : meetsB r q
    ·rfl
    ·rw [List.any_eq_true.2 ⟨q, hq, e⟩] at h2; cases h2
   ·exact k2 q (List.mem_append_left _ hq) r hr
  ·obtain ⟨q, hq, rfl⟩ := List.mem_map.1 hr; have e := k2 p (List.mem_append_right _ (List.mem_singleton.2 rfl)) q hq; simp only [meetsB, Bool.and_eq_false_iff, decide_eq_false_iff_not] at e; rw [last_C, last_C]; show lastOf p < q.f1 ∨ lastOf q < p.f1; omega
theorem vScheme_facts {ss : List Sh} (h : vScheme ss = true) : ss.length ≤ 32 ∧ (∀ p ∈ ss, vShape p.f0 p.f1 = true) ∧ Apart (cs ss) ∧ AllGood (cs ss) := by
 simp only [vScheme, Bool.and_eq_true, decide_eq_true_eq] at h; obtain ⟨k1, k2, k3⟩ := vS_facts ss [] h.2; refine ⟨h.1, k1, k3, fun p hp => ?_⟩; obtain ⟨q, hq, rfl⟩ := List.mem_map.1 hp; exact (vShape_good (k1 q hq)).2.2.2.1
theorem rdSh_at (ss : List Sh) (i : Nat) (h : i < ss.length) : rd_T47 ss (i : Int) = ss[i] := by simp [rd_T47, List.getD, h]
theorem succ_wrap (i : Nat) (h : i ≤ 4611686018427387904) : Aside0 (wrap64 ((i : Int) + 1) = ((i + 1 : Nat) : Int)) := Aside0.mk (by rw [w64 (by omega) (by omega)]; simp)
theorem refMeet_loop (ss : List Sh) (hI : InS ss) (i : Nat) (hi : i < ss.length) (hs : ss.length ≤ 32) (hv : ∀ p ∈ ss.take (i + 1), vShape p.f0 p.f1 = true) : ∀ (n j : Nat), j + n = i → ((ss.take j).any (meetsB ss[i]) = false) →
 Ev (fun k => leadtrailref08_meet.l0 k ss (i : Int) (j : Int)) ((ss.take i).any (meetsB ss[i]))
 | 0, j, hj, hno => by
  refine evSucc ?_; obtain rfl : j = i := by omega
  simp only [leadtrailref08_meet.l0, if_neg (show ¬ (j : Int) < (j : Int) by omega)]; rw [hno]; exact evNow _
 | n + 1, j, hj, hno => by
  have hjl : j < ss.length := by omega
  have vi := vShape_good (hv ss[i] (by rw [List.take_succ_eq_append_getElem hi]; exact List.mem_append_right _ (List.mem_singleton.2 rfl))); have vj := vShape_good (hv ss[j] (by
   have : (ss.take (i + 1))[j]'(by simp; omega) = ss[j] := List.getElem_take ..; rw [← this]; exact List.getElem_mem _))
  have pi := cnt_pos vi.2.2.2.1; have pj := cnt_pos vj.2.2.2.1; have ci := refCount8_is ss[i].f0 ss[i].f1 (hI.2 _ (List.getElem_mem _)) vi.2.2.1 vi.1.2; have cj := refCount8_is ss[j].f0 ss[j].f1 (hI.2 _ (List.getElem_mem _)) vj.2.2.1 vj.1.2; rw [show min (cnt (sets ss[i].f0)) 1073741825 = cnt (sets ss[i].f0) by omega] at ci; rw [show min (cnt (sets ss[j].f0)) 1073741825 = cnt (sets ss[j].f0) by omega] at cj; have hw := succ_wrap j (by omega); have wi : Aside0 (wrap64 (wrap64 (ss[i].f1 + cnt (sets ss[i].f0)) - 1) = lastOf ss[i]) := Aside0.mk (by rw [w64 (x := ss[i].f1 + cnt (sets ss[i].f0)) (by omega) (by omega), w64 (by omega) (by omega)]; rfl); have wj : Aside0 (wrap64 (wrap64 (ss[j].f1 + cnt (sets ss[j].f0)) - 1) = lastOf ss[j]) := Aside0.mk (by rw [w64 (x := ss[j].f1 + cnt (sets ss[j].f0)) (by omega) (by omega), w64 (by omega) (by omega)]; rfl); have yes : meetsB ss[i] ss[j] = true → (ss.take i).any (meetsB ss[i]) = true := fun h => by
   refine List.any_eq_true.2 ⟨ss[j], ?_, h⟩; have : (ss.take i)[j]'(by simp; omega) = ss[j] := List.getElem_take ..; rw [← this]; exact List.getElem_mem _
  have next : meetsB ss[i] ss[j] = false → Ev (fun k => leadtrailref08_meet.l0 k ss (i : Int) (wrap64 ((j : Int) + 1))) ((ss.take i).any (meetsB ss[i])) := fun h => by
   rw [hw.out]; refine refMeet_loop ss hI i hi hs hv n (j + 1) (by omega) ?_; rw [List.take_succ_eq_append_getElem hjl, List.any_append, hno]; simp [h]
  refine evSucc ?_; simp only [leadtrailref08_meet.l0, if_pos (show (j : Int) < (i : Int) by omega), if_pos (show (0 : Int) ≤ (i : Int) by omega), if_pos (show (i : Int) < (ss.length : Int) by omega), if_pos (show (0 : Int) ≤ (j : Int) by omega), if_pos (show (j : Int) < (ss.length : Int) by omega), rdSh_at ss i hi, rdSh_at ss j hjl]; refine Ev.bind cj ?_; simp only [wj.out]; by_cases c1 : ss[i].f1 ≤ lastOf ss[j]
  ·simp only [if_pos c1]; refine Ev.bind ci ?_; simp only [wi.out]; by_cases c2 : ss[j].f1 ≤ lastOf ss[i]
   ·simp only [if_pos c2]; rw [yes (by simp only [meetsB, decide_eq_true c1, decide_eq_true c2]; rfl)]; exact evNow _
   ·simp only [if_neg c2]; exact next (by simp only [meetsB, decide_eq_false c2, Bool.and_false])
  ·simp only [if_neg c1]; exact next (by simp only [meetsB, decide_eq_false c1, Bool.false_and])
theorem refValid_loop8 (ss : List Sh) (hI : InS ss) (hs : ss.length ≤ 32) : ∀ (n i : Nat), i + n = ss.length → (∀ p ∈ ss.take i, vShape p.f0 p.f1 = true) →
 Ev (fun k => leadtrailref08_Valid.l0 k (i : Int) ss) (vS (ss.take i) (ss.drop i))
 | 0, i, hi, hv => by
  refine evSucc ?_; simp only [leadtrailref08_Valid.l0, if_neg (show ¬ (i : Int) < (ss.length : Int) by omega)]; rw [List.drop_of_length_le (by omega)]; exact evNow _
 | n + 1, i, hi, hv => by
  have hil : i < ss.length := by omega
  have hw := succ_wrap i (by omega); have e : vS (ss.take i) (ss.drop i) = (vShape ss[i].f0 ss[i].f1 && (!((ss.take i).any (meetsB ss[i])) && vS (ss.take (i + 1)) (ss.drop (i + 1)))) := by
   rw [List.drop_eq_getElem_cons hil, List.take_succ_eq_append_getElem hil]; rfl
  rw [e]; refine evSucc ?_; simp only [leadtrailref08_Valid.l0, if_pos (show (i : Int) < (ss.length : Int) by omega), if_pos (show (0 : Int) ≤ (i : Int) by omega), rdSh_at ss i hil]; refine Ev.bind (refVShape_is _ _ (hI.2 _ (List.getElem_mem _))) ?_; cases hp : vShape ss[i].f0 ss[i].f1
  ·simp only [Bool.false_eq_true, if_false, Bool.false_and]; exact evNow _
  ·simp only [if_true, Bool.true_and]; have hv' : ∀ p ∈ ss.take (i + 1), vShape p.f0 p.f1 = true := fun p hq => by
    rw [List.take_succ_eq_append_getElem hil] at hq; rcases List.mem_append.1 hq with h | h
    ·exact hv p h
    ·rw [List.mem_singleton.1 h]; exact hp
   have hm := refMeet_loop ss hI i hil hs hv' i 0 (by omega) (by simp); refine Ev.bind (show Ev (fun k => leadtrailref08_meet.f k ss (i : Int)) _ from hm) ?_; cases hq : (ss.take i).any (meetsB ss[i])
   ·simp only [Bool.false_eq_true, if_false, Bool.not_false, Bool.true_and, hw.out]; exact refValid_loop8 ss hI hs n (i + 1) (by omega) hv'
   ·simp only [if_true, Bool.not_true, Bool.false_and]; exact evNow _
theorem refValid8_is (ss : List Sh) (hI : InS ss) : Ev (fun k => leadtrailref08_Valid.f k ss) (vScheme ss) := by
 simp only [leadtrailref08_Valid.f]; by_cases c : (ss.length : Int) > 32
 ·simp only [if_pos c]; rw [show vScheme ss = false by simp only [vScheme, decide_eq_false (show ¬ ss.length ≤ 32 by omega), Bool.false_and]]; exact evNow _
 ·simp only [if_neg c]; rw [show vScheme ss = vS [] ss by simp only [vScheme, decide_eq_true (show ss.length ≤ 32 by omega), Bool.true_and]]; simpa using refValid_loop8 ss hI (by omega) ss.length 0 (by omega) (by simp)
theorem copyS_loop (ss : List Sh) (hI : InS ss) : ∀ (n i : Nat), i + n = ss.length → Ev (fun k => leadtrailref08_Copy.l0 k (i : Int) ss (ss.take i)) ss
 | 0, i, hi => by
  refine evSucc ?_; simp only [leadtrailref08_Copy.l0, if_neg (show ¬ (i : Int) < (ss.length : Int) by omega)]; rw [List.take_of_length_le (by omega)]; exact evNow _
 | n + 1, i, hi => by
  have hil : i < ss.length := by omega
  have h2 := hI.1; have hw := succ_wrap i (by omega); have ih := copyS_loop ss hI n (i + 1) (by omega); rw [List.take_succ_eq_append_getElem hil] at ih; refine evSucc ?_; simp only [leadtrailref08_Copy.l0, if_pos (show (i : Int) < (ss.length : Int) by omega), if_pos (show (0 : Int) ≤ (i : Int) by omega), rdSh_at ss i hil]; refine Ev.bind (Copy_is _ _ (hI.2 _ (List.getElem_mem _))) ?_; simp only [if_pos (show (ss.take i).length < 4398046511104 by rw [List.length_take]; omega), hw.out]; exact ih
theorem CopyS_is (ss : List Sh) (hI : InS ss) : Ev (fun k => leadtrailref08_Copy.f k ss) ss := by
 have := copyS_loop ss hI ss.length 0 (by omega); rw [List.take_zero] at this; exact this
theorem okB_hit {ps : List (List Sp)} {a u : Int} (hv : vShape ps a = true) : okB ps a (u - a) = hitC u (sets ps, a) := by
 unfold okB hitC cntS; rw [if_pos hv, Bool.eq_iff_iff, decide_eq_true_iff, Bool.and_eq_true, decide_eq_true_iff, decide_eq_true_iff]; show 0 ≤ u - a ∧ _ ↔ a ≤ u ∧ _; constructor <;> rintro ⟨h1, h2⟩ <;> exact ⟨by omega, h2⟩
theorem encC_cons (p : Cs) (t : List Cs) (u : Int) : encC (p :: t) u = if hitC u p = true then some (unr p.1 (u - p.2)) else encC t u := rfl
theorem cs_drop (ss : List Sh) (i : Nat) (h : i < ss.length) : cs (ss.drop i) = C ss[i] :: cs (ss.drop (i + 1)) := by rw [List.drop_eq_getElem_cons h]; rfl
theorem wf_range {x : Int} (h : (Lit.int .i64 x).wf = true) : -9223372036854775808 ≤ x ∧ x ≤ 9223372036854775807 := by
 simp [Lit.wf] at h; exact ⟨h.1, h.2⟩
theorem encode_loop (ss : List Sh) (u : Int) (hI : InS ss) (hs : ss.length ≤ 32) (hv : ∀ p ∈ ss, vShape p.f0 p.f1 = true) (hu : (Lit.int .i64 u).wf = true) : ∀ (n i : Nat), i + n = ss.length →
 Ev (fun k => code_encode.l0 k u ss (ss.length : Int) (i : Int)) ((encC (cs (ss.drop i)) u).getD [])
 | 0, i, hi => by
  refine evSucc ?_; simp only [code_encode.l0, if_neg (show ¬ (i : Int) < (ss.length : Int) by omega)]; rw [List.drop_of_length_le (by omega)]; exact evNow _
 | n + 1, i, hi => by
  have hil : i < ss.length := by omega
  have hw := succ_wrap i (by omega); have hur := wf_range hu; have vi := hv _ (List.getElem_mem hil); have vg := vShape_good vi; have ih := encode_loop ss u hI hs hv hu n (i + 1) (by omega); rw [cs_drop ss i hil, encC_cons]; refine evSucc ?_; simp only [code_encode.l0, if_pos (show (i : Int) < (ss.length : Int) by omega), if_pos (show (0 : Int) ≤ (i : Int) by omega), rdSh_at ss i hil, hw.out]; by_cases c : u < ss[i].f1
  ·simp only [if_pos c, if_neg (show ¬ hitC u (C ss[i]) = true by rw [hitC_iff]; show ¬ (ss[i].f1 ≤ u ∧ _); omega)]; exact ih
  ·have w1 : Aside0 (wrap64 (u - ss[i].f1) = u - ss[i].f1) := Aside0.mk (w64 (by omega) (by omega)); simp only [if_neg c, w1.out]; refine Ev.bind (Unrank_is _ _ _ (hI.2 _ (List.getElem_mem _))) ?_; have e := okB_hit (u := u) vi; rw [show (sets ss[i].f0, ss[i].f1) = C ss[i] from rfl] at e; simp only [unS, e]; cases h : hitC u (C ss[i])
   ·simp only [Bool.false_eq_true, if_false]; exact ih
   ·have hlen : ¬ (unr (sets ss[i].f0) (u - ss[i].f1)).length = 0 := by rw [unr_len, sets_len]; have := vg.1; omega
    simp only [if_true, if_neg hlen]; exact evNow _
theorem encode_is (ss : List Sh) (u : Int) (hI : InS ss) (h : vScheme ss = true) (hu : (Lit.int .i64 u).wf = true) : Ev (fun k => code_encode.f k ss u) ((encC (cs ss) u).getD []) := by
 obtain ⟨h1, h2, _⟩ := vScheme_facts h; have := encode_loop ss u hI h1 h2 hu ss.length 0 (by omega); rw [List.drop_zero] at this; exact this
theorem find_loop (ss : List Sh) (u : Int) (hI : InS ss) (hs : ss.length ≤ 32) (hv : ∀ p ∈ ss, vShape p.f0 p.f1 = true) : ∀ (n i : Nat), i + n = ss.length →
 ∃ r, Ev (fun k => leadtrailref10_Find.l0 k u (i : Int) ss) r ∧ ((r = -1 ∧ encC (cs (ss.drop i)) u = none) ∨ ∃ (j : Nat) (hj : j < ss.length), r = (j : Int) ∧ hitC u (C ss[j]) = true ∧ encC (cs (ss.drop i)) u = some (unr (sets ss[j].f0) (u - ss[j].f1)))
 | 0, i, hi => by
  refine ⟨-1, evSucc ?_, .inl ⟨rfl, by rw [List.drop_of_length_le (by omega)]; rfl⟩⟩; simp only [leadtrailref10_Find.l0, if_neg (show ¬ (i : Int) < (ss.length : Int) by omega)]; exact evNow _
 | n + 1, i, hi => by
  have hil : i < ss.length := by omega
  have hw := succ_wrap i (by omega); have vi := hv _ (List.getElem_mem hil); have vg := vShape_good vi; have pi := cnt_pos vg.2.2.2.1; have ci := refCount8_is ss[i].f0 ss[i].f1 (hI.2 _ (List.getElem_mem _)) vg.2.2.1 vg.1.2; rw [show min (cnt (sets ss[i].f0)) 1073741825 = cnt (sets ss[i].f0) by omega] at ci; have wi : Aside0 (wrap64 (wrap64 (ss[i].f1 + cnt (sets ss[i].f0)) - 1) = lastOf ss[i]) := Aside0.mk (by rw [w64 (x := ss[i].f1 + cnt (sets ss[i].f0)) (by omega) (by omega), w64 (by omega) (by omega)]; rfl); obtain ⟨r, ih, ihr⟩ := find_loop ss u hI hs hv n (i + 1) (by omega); have hlo : lastOf ss[i] = ss[i].f1 + cnt (sets ss[i].f0) - 1 := rfl; have e1 : (C ss[i]).2 = ss[i].f1 ∧ (C ss[i]).1 = sets ss[i].f0 := ⟨rfl, rfl⟩; have key : ∀ g : Nat → Option Int, (hitC u (C ss[i]) = true → Ev g (i : Int)) → (hitC u (C ss[i]) = false → Ev g r) →
   ∃ r, Ev g r ∧ ((r = -1 ∧ encC (cs (ss.drop i)) u = none) ∨ ∃ (j : Nat) (hj : j < ss.length), r = (j : Int) ∧ hitC u (C ss[j]) = true ∧ encC (cs (ss.drop i)) u = some (unr (sets ss[j].f0) (u - ss[j].f1))) := fun g ga gb => by
   rw [cs_drop ss i hil, encC_cons]; cases hh : hitC u (C ss[i])
   ·exact ⟨r, gb hh, ihr⟩
   ·exact ⟨_, ga hh, .inr ⟨i, hil, rfl, hh, rfl⟩⟩
  refine key _ (fun hh => evSucc ?_) (fun hh => evSucc ?_)
  ·have h' := hitC_iff.1 hh; rw [e1.1, e1.2] at h'; simp only [leadtrailref10_Find.l0, if_pos (show (i : Int) < (ss.length : Int) by omega), if_pos (show (0 : Int) ≤ (i : Int) by omega), rdSh_at ss i hil, if_pos (show u ≥ ss[i].f1 by omega)]; refine Ev.bind ci ?_; simp only [wi.out, if_pos (show u ≤ lastOf ss[i] by omega)]; exact evNow _
  ·have h' : ¬ (ss[i].f1 ≤ u ∧ u - ss[i].f1 < cnt (sets ss[i].f0)) := fun h => by
    have : hitC u (C ss[i]) = true := hitC_iff.2 h; rw [hh] at this; cases this
   simp only [leadtrailref10_Find.l0, if_pos (show (i : Int) < (ss.length : Int) by omega), if_pos (show (0 : Int) ≤ (i : Int) by omega), rdSh_at ss i hil, hw.out]; by_cases c : u ≥ ss[i].f1
   ·simp only [if_pos c]; refine Ev.bind ci ?_; simp only [wi.out, if_neg (show ¬ u ≤ lastOf ss[i] by omega)]; exact ih
   ·simp only [if_neg c]; exact ih
def ofR : Option (List Int) → List Int × Bool
 | some b => (b, true)
 | none => ([], false)
theorem refOf_is (ss : List Sh) (u : Int) (hI : InS ss) (h : vScheme ss = true) (hu : (Lit.int .i64 u).wf = true) : Ev (fun k => leadtrailref10_Of.f k ss u) (ofR (encC (cs ss) u)) := by
 obtain ⟨h1, h2, _⟩ := vScheme_facts h; obtain ⟨r, g1, g2⟩ := find_loop ss u hI h1 h2 ss.length 0 (by omega); rw [List.drop_zero] at g2; have hur := wf_range hu; simp only [leadtrailref10_Of.f]; refine Ev.bind (show Ev (fun k => leadtrailref10_Find.f k ss u) r from g1) ?_; rcases g2 with ⟨rfl, e⟩ | ⟨j, hj, rfl, hh, e⟩
 ·rw [e]; simp only [if_pos (show (-1 : Int) < 0 by omega)]; exact evNow _
 ·have vj := h2 _ (List.getElem_mem hj); have vg := vShape_good vj; have h' := hitC_iff.1 hh; have w1 : Aside0 (wrap64 (u - ss[j].f1) = u - ss[j].f1) := Aside0.mk (by
   have h3 : ss[j].f1 ≤ u := h'.1; exact w64 (by omega) (by omega))
  have eo := okB_hit (u := u) vj; rw [show (sets ss[j].f0, ss[j].f1) = C ss[j] from rfl, hh] at eo; rw [e]; simp only [if_neg (show ¬ (j : Int) < 0 by omega), if_pos (show (0 : Int) ≤ (j : Int) by omega), if_pos (show (j : Int) < (ss.length : Int) by omega), rdSh_at ss j hj, w1.out]; refine Ev.bind (refUnrank_is _ _ _ (hI.2 _ (List.getElem_mem _))) ?_; simp only [unS, eo, if_true]; exact evNow _
def decR : Option Int → Int × Int
 | some v => (v, 0)
 | none => (0, 100)
def bst : Option Int → Int
 | some v => v
 | none => -1
theorem decode_loop (ss : List Sh) (bs : List Int) (hI : InS ss) (hb : ∀ b ∈ bs, 0 ≤ b ∧ b ≤ 255) (hs : ss.length ≤ 32) (hv : ∀ p ∈ ss, vShape p.f0 p.f1 = true) : ∀ (n i : Nat) (best : Option Int), i + n = ss.length → (∀ v, best = some v → 0 ≤ v) →
 Ev (fun k => code_Decode.l0 k bs (bst best) ss (ss.length : Int) (i : Int)) (decR (decC bs best (cs (ss.drop i))))
 | 0, i, best, hi, hp => by
  refine evSucc ?_; simp only [code_Decode.l0, if_neg (show ¬ (i : Int) < (ss.length : Int) by omega)]; rw [List.drop_of_length_le (by omega)]; cases best with
  | none => simp only [bst, if_pos (show (-1 : Int) < 0 by omega)]; exact evNow (decR none)
  | some v => have := hp v rfl; simp only [if_neg (show ¬ bst (some v) < 0 from (show ¬ v < 0 by omega))]; exact evNow (decR (some v))
 | n + 1, i, best, hi, hp => by
  have hil : i < ss.length := by omega
  have hw := succ_wrap i (by omega); have vi := hv _ (List.getElem_mem hil); have vg := vShape_good vi; rw [cs_drop ss i hil]; show Ev _ (decR (decC bs (stepD bs (C ss[i]) best) (cs (ss.drop (i + 1))))); refine evSucc ?_; simp only [code_Decode.l0, if_pos (show (i : Int) < (ss.length : Int) by omega), if_pos (show (0 : Int) ≤ (i : Int) by omega), rdSh_at ss i hil, hw.out]; refine Ev.bind (Rank_is _ _ bs (hI.2 _ (List.getElem_mem _)) hb) ?_; unfold rkS; rw [if_pos vi]; have e1 : (C ss[i]).2 = ss[i].f1 ∧ (C ss[i]).1 = sets ss[i].f0 := ⟨rfl, rfl⟩; unfold stepD; rw [e1.1, e1.2]; cases hr : rnk (sets ss[i].f0) bs with
  | none =>
   simp only [rkR, Bool.false_eq_true, if_false]; exact decode_loop ss bs hI hb hs hv n (i + 1) best (by omega) hp
  | some r =>
   obtain ⟨r0, r1, _⟩ := unr_rnk vg.2.2.2.1 hr; have w1 : Aside0 (wrap64 (ss[i].f1 + r) = ss[i].f1 + r) := Aside0.mk (w64 (by omega) (by omega)); simp only [rkR, if_true, w1.out]; cases best with
   | none =>
    simp only [bst, if_pos (show (-1 : Int) < 0 by omega)]; exact decode_loop ss bs hI hb hs hv n (i + 1) (some (ss[i].f1 + r)) (by omega) (fun v h => by obtain rfl := Option.some.inj h; omega)
   | some v =>
    have hv0 := hp v rfl; simp only [if_neg (show ¬ bst (some v) < 0 from (show ¬ v < 0 by omega))]; by_cases c : ss[i].f1 + r < v
    ·simp only [if_pos c, if_pos (show ss[i].f1 + r < bst (some v) from c)]; exact decode_loop ss bs hI hb hs hv n (i + 1) (some (ss[i].f1 + r)) (by omega) (fun v h => by obtain rfl := Option.some.inj h; omega)
    ·simp only [if_neg c, if_neg (show ¬ ss[i].f1 + r < bst (some v) from c)]; exact decode_loop ss bs hI hb hs hv n (i + 1) (some v) (by omega) hp
def decS (ss : List Sh) (bs : List Int) : Int × Int := if vScheme ss = true then decR (decC bs none (cs ss)) else (0, 84)
theorem Decode_is (ss : List Sh) (bs : List Int) (hI : InS ss) (hb : ∀ b ∈ bs, 0 ≤ b ∧ b ≤ 255) : Ev (fun k => code_Decode.f k ss bs) (decS ss bs) := by
 simp only [code_Decode.f]; refine Ev.bind (schemeValid_is ss hI) ?_; unfold decS; cases h : vScheme ss
 ·simp only [Bool.false_eq_true, if_false]; exact evNow _
 ·obtain ⟨h1, h2, _⟩ := vScheme_facts h; simp only [if_true]; have := decode_loop ss bs hI hb h1 h2 ss.length 0 none (by omega) (fun v h => by cases h); rw [List.drop_zero] at this; exact this
theorem enc_range {ss : List Sh} (h : vScheme ss = true) {u : Int} {x : List Int} (he : encC (cs ss) u = some x) : (0 ≤ u ∧ u ≤ 1073741823) ∧ (∀ b ∈ x, 0 ≤ b ∧ b ≤ 255) ∧ 1 ≤ x.length ∧ x.length ≤ 8 := by
 obtain ⟨h1, h2, _, h4⟩ := vScheme_facts h; obtain ⟨p, hp, hh, rfl⟩ := encC_mem he; obtain ⟨q, hq, rfl⟩ := List.mem_map.1 hp; have vg := vShape_good (h2 q hq); have h' := hitC_iff.1 hh; have e1 : (C q).2 = q.f1 ∧ (C q).1 = sets q.f0 := ⟨rfl, rfl⟩; rw [e1.1, e1.2] at h'; rw [e1.1, e1.2]; refine ⟨by omega, unr_range vg.2.2.2.1 (by omega) h'.2, ?_⟩; rw [unr_len, sets_len]; exact vg.1
end Go.Proofs.Ytoljcfocgaonpaa.PBS
end
section
namespace Go.Proofs.Ytoljcfocgaonpaa.PBS
open Go.RowKit Go.Proofs.YtoljcfocgaonpaaW.PrintWords Go.Proofs.YtoljcfocgaonpaaW.PrintLast Go.Proofs.YtoljcfocgaonpaaW.PrintMore Go.Proofs.Ytoljcfocgaonpaa.I Go.Proofs.LT Go.Proofs.Ytoljcfocgaonpaa.PB3
set_option linter.unusedVariables false
set_option linter.unusedSimpArgs false
def encR : Option (List Int) → List Int × Int
 | some b => (b, 0)
 | none => ([], 100)
noncomputable def encS (ss : List Sh) (u : Int) : List Int × Int := if vScheme ss = true then encR (encC (cs ss) u) else ([], 84)
theorem Encode_is (ss : List Sh) (u : Int) (hI : InS ss) (hu : (Lit.int .i64 u).wf = true) : Ev (fun k => code_Encode.f k ss u) (encS ss u) := by
 simp only [code_Encode.f]; refine Ev.bind (schemeValid_is ss hI) ?_; unfold encS; cases h : vScheme ss
 ·simp only [Bool.false_eq_true, if_false]; exact evNow _
 ·simp only [if_true]; refine Ev.bind (encode_is ss u hI h hu) ?_; cases he : encC (cs ss) u with
  | none => simp only [Option.getD_none, List.length_nil, encR]; rw [if_pos (by rfl)]; exact evNow _
  | some b =>
   have := (enc_range h he).2.2; simp only [Option.getD_some, encR, if_neg (show ¬ (b.length : Int) = 0 by omega)]; exact evNow _
def one1 (lo hi : Int) : List Sp := [⟨lo, hi⟩]
theorem one_valid {lo hi : Int} (h0 : 0 ≤ lo) (h1 : lo ≤ hi) (h2 : hi ≤ 255) : ValidFrom 255 (-2) (runs (one1 lo hi)) := ⟨h0, h1, h2, by show (-2 : Int) < lo - 1; omega, trivial⟩
theorem one_size (lo hi : Int) : size (runs (one1 lo hi)) = hi - lo + 1 := by
 show size [(lo, hi)] = _; rw [size_cons, size_nil]; omega
theorem one_ok {lo hi : Int} (h0 : 0 ≤ lo) (h1 : lo ≤ hi) (h2 : hi ≤ 255) : okPart (one1 lo hi) = true := by
 simp only [okPart, (validB_iff _ _ _).2 (one_valid h0 h1 h2)]; rfl
theorem one_in (lo hi : Int) : In1 (one1 lo hi) := by show 1 * 16 ≤ 140737488351232; omega
theorem one_memB {lo hi x : Int} (h1 : lo ≤ x) (h2 : x ≤ hi) : memB (runs (one1 lo hi)) x = true := memB_iff.2 ⟨(lo, hi), List.mem_cons_self, h1, h2⟩
theorem one_cd {lo hi x : Int} (h0 : 0 ≤ lo) (h1 : lo ≤ x) (h2 : x ≤ hi) (h3 : hi ≤ 255) : (cd (memB (runs (one1 lo hi))) x.toNat : Int) = x - lo :=
 cd_in_first (r := (lo, hi)) (t := []) (one_valid h0 (by omega) h3) h1 (by show x ≤ hi + 1; omega)
def some10 : List Sh := [⟨[one1 194 223, one1 128 191], 128⟩, ⟨[one1 0 127], 0⟩]
theorem c10a : cnt (sets [one1 194 223, one1 128 191]) = 1920 := by
 show cnt [runs (one1 194 223), runs (one1 128 191)] = 1920; rw [cnt_cons, cnt_cons, cnt_nil, one_size, one_size]; rfl
theorem c10b : cnt (sets [one1 0 127]) = 128 := by
 show cnt [runs (one1 0 127)] = 128; rw [cnt_cons, cnt_nil, one_size]; rfl
theorem v10 : vScheme some10 = true := by
 have h1 : vShape [one1 194 223, one1 128 191] 128 = true := by
  unfold vShape; rw [c10a]; simp [one_ok (show (0 : Int) ≤ 194 by decide) (show (194 : Int) ≤ 223 by decide) (by decide), one_ok (show (0 : Int) ≤ 128 by decide) (show (128 : Int) ≤ 191 by decide) (by decide)]
 have h2 : vShape [one1 0 127] 0 = true := by
  unfold vShape; rw [c10b]; simp [one_ok (show (0 : Int) ≤ 0 by decide) (show (0 : Int) ≤ 127 by decide) (by decide)]
 have h3 : meetsB ⟨[one1 0 127], 0⟩ ⟨[one1 194 223, one1 128 191], 128⟩ = false := by
  simp only [meetsB, lastOf, c10a, c10b]; decide
 show (decide (2 ≤ 32) && (vShape [one1 194 223, one1 128 191] 128 && (!([] : List Sh).any (meetsB _) && (vShape [one1 0 127] 0 && (!([⟨[one1 194 223, one1 128 191], 128⟩] : List Sh).any (meetsB ⟨[one1 0 127], 0⟩) && true))))) = true; rw [h1, h2]; simp [h3]
theorem in10 : InS some10 := ⟨by decide, fun p hp => by
 rcases List.mem_cons.1 hp with rfl | hp
 ·refine ⟨by decide, fun q hq => ?_⟩; rcases List.mem_cons.1 hq with rfl | hq
  ·exact one_in _ _
  ·rw [List.mem_singleton.1 hq]; exact one_in _ _
 ·rw [List.mem_singleton.1 hp]; refine ⟨by decide, fun q hq => ?_⟩; rw [List.mem_singleton.1 hq]; exact one_in _ _⟩
theorem rk10 : rnk (sets [one1 194 223, one1 128 191]) [195, 169] = some 105 := by
 show rnk [runs (one1 194 223), runs (one1 128 191)] [195, 169] = some 105; rw [rnk_cons, if_pos (one_memB (by decide) (by decide)), rnk_cons, if_pos (one_memB (by decide) (by decide)), rnk_nil]; simp only [Option.map_some, cnt_cons, cnt_nil, one_size, one_cd (show (0 : Int) ≤ 194 by decide) (show (194 : Int) ≤ 195 by decide) (show (195 : Int) ≤ 223 by decide) (by decide), one_cd (show (0 : Int) ≤ 128 by decide) (show (128 : Int) ≤ 169 by decide) (show (169 : Int) ≤ 191 by decide) (by decide)]; rfl
theorem en10 : encC (cs some10) 233 = some [195, 169] := by
 obtain ⟨_, _, ha, hg⟩ := vScheme_facts v10; have hm : ((sets [one1 194 223, one1 128 191], 128) : Cs) ∈ cs some10 := List.mem_cons_self; have h := rnk_hit (hg _ hm) rk10; have e : (128 : Int) + 105 = 233 := rfl; simp only [e] at h; rw [encC_of ha hm h.1, ← h.2]
theorem de10 : decC [195, 169] none (cs some10) = some 233 := by
 have h2 : rnk (sets [one1 0 127]) [195, 169] = none := by
  cases h : rnk (sets [one1 0 127]) [195, 169] with
  | none => rfl
  | some r => have := rnk_len h; simp [sets_len] at this
 show decC [195, 169] (stepD [195, 169] (sets [one1 0 127], 0) (stepD [195, 169] (sets [one1 194 223, one1 128 191], 128) none)) [] = _; show stepD [195, 169] (sets [one1 0 127], 0) (stepD [195, 169] (sets [one1 194 223, one1 128 191], 128) none) = _; simp only [stepD, rk10, h2]; rfl
theorem fixed10 : Ev (fun k => leadtraillaw10_fixed.f k) true := by
 have hE := Encode_is some10 233 in10 (by decide); rw [show encS some10 233 = ([195, 169], 0) by unfold encS; rw [if_pos v10, en10]; rfl] at hE; have hD := Decode_is some10 [195, 169] in10 (by decide); rw [show decS some10 [195, 169] = (233, 0) by unfold decS; rw [if_pos v10, de10]; rfl] at hD; simp only [leadtraillaw10_fixed.f, leadtraillaw10_some.f, Option.bind_some]; refine Ev.bind hE (Ev.bind hD ?_); have e : (strOfNums [195, 169]).toList = ([195, 169] : List UInt8) := by rw [Lib.strOfNums_toList]; decide
 simp only [if_true, e]; exact evNow _
theorem i64_small {x : Int} (h0 : 0 ≤ x) (h1 : x ≤ 1073741823) : (Lit.int .i64 x).wf = true := wf64 (by omega) (by omega)
end Go.Proofs.Ytoljcfocgaonpaa.PBS
end
section
namespace Go.Proofs.Ytoljcfocgaonpaa.PBS
open Go.RowKit Go.Proofs.YtoljcfocgaonpaaW.PrintWords Go.Proofs.YtoljcfocgaonpaaW.PrintLast Go.Proofs.YtoljcfocgaonpaaW.PrintMore Go.Proofs.Ytoljcfocgaonpaa.I Go.Proofs.LT Go.Proofs.Ytoljcfocgaonpaa.PB3
set_option linter.unusedVariables false
set_option linter.unusedSimpArgs false
theorem cnt_at {p : Sh} (hv : vShape p.f0 p.f1 = true) : 1 ≤ cnt (sets p.f0) ∧ cnt (sets p.f0) ≤ 1073741824 ∧ 0 ≤ p.f1 ∧ p.f1 ≤ 1073741823 ∧ p.f1 + cnt (sets p.f0) - 1 ≤ 1073741823 := by
 obtain ⟨_, h2, _, h4, h5⟩ := vShape_good hv; have := cnt_pos h4; omega
theorem firsts_ne {ss : List Sh} (h : vScheme ss = true) : ss.Pairwise fun x y => x.f1 ≠ y.f1 := by
 obtain ⟨h0, hv, ha, hg⟩ := vScheme_facts h; clear h h0; induction ss with
 | nil => exact List.Pairwise.nil
 | cons p t ih =>
  have ha' : (∀ q ∈ cs t, lastC (C p) < q.2 ∨ lastC q < (C p).2) ∧ Apart (cs t) := ha; refine List.pairwise_cons.2 ⟨fun q hq e => ?_, ih (fun x hx => hv x (List.mem_cons_of_mem _ hx)) ha'.2 (fun x hx => hg x (List.mem_cons_of_mem _ hx))⟩; have h1 := cnt_at (hv p List.mem_cons_self); have h2 := cnt_at (hv q (List.mem_cons_of_mem _ hq)); have := ha'.1 (C q) (List.mem_map.2 ⟨q, hq, rfl⟩); rw [last_C, last_C] at this; have e1 : (C q).2 = q.f1 ∧ (C p).2 = p.f1 := ⟨rfl, rfl⟩; unfold lastOf at this; omega
theorem riseF_of : ∀ {l : List Sh}, l.Pairwise (fun x y => x.f1 < y.f1) → RiseF (cs l)
 | [], _ => trivial
 | p :: t, h => by
  have h' := List.pairwise_cons.1 h; refine ⟨fun q hq => ?_, riseF_of h'.2⟩; obtain ⟨a, ha, rfl⟩ := List.mem_map.1 hq; exact h'.1 a ha
end Go.Proofs.Ytoljcfocgaonpaa.PBS
end
section
namespace Go.Proofs.Ytoljcfocgaonpaa.PBS
open Go.RowKit Go.Proofs.YtoljcfocgaonpaaW.PrintWords Go.Proofs.YtoljcfocgaonpaaW.PrintLast Go.Proofs.YtoljcfocgaonpaaW.PrintMore Go.Proofs.Ytoljcfocgaonpaa.I Go.Proofs.LT Go.Proofs.Ytoljcfocgaonpaa.PB3
set_option linter.unusedVariables false
set_option linter.unusedSimpArgs false
theorem codF_is (fr : Int) : ∀ (ls : List Sh), InS ls → (∀ p ∈ ls, vShape p.f0 p.f1 = true) → ∃ K, ∀ k, K ≤ k → CodF k fr ls (allC (cs ls) fr)
 | [], _, _ => ⟨0, fun k _ => rfl⟩
 | p :: t, hI, hv => by
  have hv0 := hv p List.mem_cons_self; have hI0 := hI.2 p List.mem_cons_self; obtain ⟨⟨l1, l2⟩, ⟨a1, a2⟩, hk, hg, hcn⟩ := vShape_good hv0; have hcp := cnt_pos hg; obtain ⟨K, ih⟩ := codF_is fr t ⟨by have := hI.1; simp only [List.length_cons] at this; omega, fun q hq => hI.2 q (List.mem_cons_of_mem _ hq)⟩ (fun q hq => hv q (List.mem_cons_of_mem _ hq)); obtain ⟨K1, h1⟩ := Count_is p.f0 p.f1 hI0; rw [if_pos hv0] at h1; obtain ⟨K2, h2⟩ := sCopy_one p.f0 p.f1 hI0; obtain ⟨K3, L, h3⟩ := allF_ev p.f0 p.f1 (max fr p.f1 - p.f1) hI0; have hcs : cntS p.f0 p.f1 = cnt (sets p.f0) := by unfold cntS; rw [if_pos hv0]
  refine ⟨max (max K K1) (max K2 K3), fun k hk => ⟨cnt (sets p.f0), h1 k (by omega), ⟨a1, a2⟩, ?_⟩⟩; by_cases c : p.f1 < fr ∧ cnt (sets p.f0) ≤ fr - p.f1
  ·left
   refine ⟨c, ?_⟩; have e : lstC (C p) fr = [] := by
    unfold lstC; rw [show (lastC (C p) + 1 - max fr (C p).2).toNat = 0 by show (p.f1 + cnt (sets p.f0) - 1 + 1 - max fr p.f1).toNat = 0; omega]; rfl
   show CodF k fr t (lstC (C p) fr ++ allC (cs t) fr); rw [e, List.nil_append]; exact ih k (by omega)
  ·right
   have hN : (nSq p.f0 p.f1 (max fr p.f1 - p.f1) : Int) = cnt (sets p.f0) - (max fr p.f1 - p.f1) := by
    unfold nSq; rw [hcs]; omega
   refine ⟨c, _, _, nSq p.f0 p.f1 (max fr p.f1 - p.f1), sqOf p.f0 (max fr p.f1 - p.f1), L, allC (cs t) fr, h2 k (by omega), h3 k (by omega), fun _ => by omega, ?_, ih k (by omega)⟩; show lstC (C p) fr ++ allC (cs t) fr = _; congr 1
   unfold lstC; rw [show (lastC (C p) + 1 - max fr (C p).2).toNat = nSq p.f0 p.f1 (max fr p.f1 - p.f1) by show (p.f1 + cnt (sets p.f0) - 1 + 1 - max fr p.f1).toNat = _; omega]; refine List.map_congr_left fun j _ => ?_
   show (max fr p.f1 + (j : Int), unr (sets p.f0) (max fr p.f1 - p.f1 + (j : Int))) = (p.f1 + (max fr p.f1 - p.f1 + (j : Int)), unr (sets p.f0) (max (max fr p.f1 - p.f1) 0 + (j : Int))); rw [show max (max fr p.f1 - p.f1) 0 = max fr p.f1 - p.f1 by omega]; congr 1
   omega
theorem rising_is (ss : List Sh) (hI : InS ss) : ∃ r, Ev (fun k => code_rising.f k ss) r ∧ InS r ∧ (∀ p ∈ r, vShape p.f0 p.f1 = true) ∧ r.length ≤ 32 ∧ ((vScheme ss = false ∧ r = []) ∨ (vScheme ss = true ∧ (cs r).Perm (cs ss) ∧ Apart (cs r) ∧ AllGood (cs r) ∧ RiseF (cs r))) := by
 cases h : vScheme ss
 ·refine ⟨[], ?_, ⟨by simp, fun p hp => (by cases hp)⟩, fun p hp => (by cases hp), by simp, .inl ⟨rfl, rfl⟩⟩; unfold code_rising.f; refine Ev.bind (schemeValid_is ss hI) ?_; simp only [h, Bool.false_eq_true, if_false]; exact evNow _
 ·obtain ⟨h1, h2, ha, hg⟩ := vScheme_facts h; have hne := firsts_ne h; have hso : sortShape.f ss = some (ss.mergeSort fun x y => decide (x.f1 ≤ y.f1)) := by
   unfold sortShape.f; rw [if_pos (show sortShape.ok ss = true by simp only [sortShape.ok, Bool.and_eq_true, decide_eq_true_eq]; exact ⟨by omega, hne⟩)]
  obtain ⟨_, m1, m2, _⟩ := sortShape.merge hso; generalize (ss.mergeSort fun x y => decide (x.f1 ≤ y.f1)) = ls at hso m1 m2; have hll : ls.length = ss.length := m1.length_eq; have hIl : InS ls := ⟨by rw [hll]; exact hI.1, fun p hp => hI.2 p (m1.subset hp)⟩; have hgl : AllGood (cs ls) := fun p hp => hg p ((m1.map C).subset hp)
  have hrf := riseF_of m2; refine ⟨ls, ?_, hIl, fun p hp => h2 p (m1.subset hp), by omega, .inr ⟨rfl, m1.map C, ?_, hgl, hrf⟩⟩
  ·unfold code_rising.f; refine Ev.bind (schemeValid_is ss hI) ?_; simp only [h, if_true]; refine Ev.bind (sCopy_is ss hI) ?_; rw [hso]; exact evNow _
  ·refine apart_of_rise hrf fun p hp q hq hlt => ?_
   exact apart_lt ha hg ((m1.map C).subset hp) ((m1.map C).subset hq) hlt
def HitS (l : List Cs) (u : Int) : Prop := ∃ p ∈ l, hitC u p = true
def LeastIn (l : List Cs) (u : Int) (r : Int × Bool) : Prop := (r = (0, false) ∧ ∀ y, HitS l y → ¬ u ≤ y) ∨ (∃ x, r = (x, true) ∧ HitS l x ∧ u ≤ x ∧ ∀ y, HitS l y → u ≤ y → x ≤ y)
theorem LeastIn.uniq {l : List Cs} {u : Int} {r s : Int × Bool} (h : LeastIn l u r) (k : LeastIn l u s) : r = s := by
 rcases h with ⟨rfl, h⟩ | ⟨x, rfl, h1, h2, h3⟩ <;> rcases k with ⟨rfl, k⟩ | ⟨y, rfl, k1, k2, k3⟩
 ·rfl
 ·exact absurd k2 (h y k1)
 ·exact absurd h2 (k x h1)
 ·have := h3 y k1 k2; have := k3 x h1 h2; rw [show x = y by omega]
theorem next_loop (ss : List Sh) (u : Int) (hI : InS ss) (hv : ∀ p ∈ ss, vShape p.f0 p.f1 = true) (hs : ss.length ≤ 32) : ∀ (n i : Nat) (r : Int × Bool), i + n = ss.length → LeastIn (cs (ss.take i)) u r →
 ∃ r', Ev (fun k => leadtrailref10_Next.l0 k u r.1 r.2 (i : Int) ss) r' ∧ LeastIn (cs ss) u r'
 | 0, i, r, hi, hr => by
  refine ⟨r, evSucc ?_, by rwa [List.take_of_length_le (by omega)] at hr⟩; simp only [leadtrailref10_Next.l0, if_neg (show ¬ (i : Int) < (ss.length : Int) by omega)]; exact evNow _
 | n + 1, i, r, hi, hr => by
  have hil : i < ss.length := by omega
  have hvi := hv ss[i] (List.getElem_mem _); obtain ⟨⟨l1, l2⟩, ⟨a1, a2⟩, hk, hg, hcn⟩ := vShape_good hvi; have hp := cnt_pos hg; have hc := refCount8_is ss[i].f0 ss[i].f1 (hI.2 _ (List.getElem_mem _)) hk l2; rw [show min (cnt (sets ss[i].f0)) 1073741825 = cnt (sets ss[i].f0) by omega] at hc; have hw : Aside0 (wrap64 (wrap64 (ss[i].f1 + cnt (sets ss[i].f0)) - 1) = ss[i].f1 + cnt (sets ss[i].f0) - 1) := Aside0.mk (by rw [w64 (x := ss[i].f1 + cnt (sets ss[i].f0)) (by omega) (by omega), w64 (by omega) (by omega)]); have hw2 := succ_wrap i (by omega); have htk : cs (ss.take (i + 1)) = cs (ss.take i) ++ [C ss[i]] := by unfold cs; rw [List.take_succ_eq_append_getElem hil, List.map_append]; rfl
  have hhit : ∀ y, HitS (cs (ss.take (i + 1))) y ↔ HitS (cs (ss.take i)) y ∨ (ss[i].f1 ≤ y ∧ y - ss[i].f1 < cnt (sets ss[i].f0)) := fun y => by
   unfold HitS; rw [htk]; constructor
   ·rintro ⟨p, hp, h⟩; rcases List.mem_append.1 hp with hp | hp
    ·exact .inl ⟨p, hp, h⟩
    ·rw [List.mem_singleton.1 hp] at h; exact .inr (hitC_iff.1 h)
   ·rintro (⟨p, hp, h⟩ | h)
    ·exact ⟨p, List.mem_append_left _ hp, h⟩
    ·exact ⟨C ss[i], List.mem_append_right _ (List.mem_singleton.2 rfl), hitC_iff.2 h⟩
  by_cases c : max u ss[i].f1 ≤ ss[i].f1 + cnt (sets ss[i].f0) - 1
  ·by_cases c2 : r.2 = true
   ·obtain ⟨x, e, hx1, hx2, hx3⟩ : ∃ x, r = (x, true) ∧ HitS (cs (ss.take i)) x ∧ u ≤ x ∧ ∀ y, HitS (cs (ss.take i)) y → u ≤ y → x ≤ y := by
     rcases hr with ⟨rfl, _⟩ | h
     ·cases c2
     ·exact h
    subst e; by_cases c3 : max u ss[i].f1 < x
    ·obtain ⟨r', q1, q2⟩ := next_loop ss u hI hv hs n (i + 1) (max u ss[i].f1, true) (by omega) (.inr ⟨_, rfl, (hhit _).2 (.inr ⟨by omega, by omega⟩), by omega, fun y hy hu => by
      rcases (hhit y).1 hy with h | h
      ·have := hx3 y h hu; omega
      ·omega⟩)
     refine ⟨r', evSucc ?_, q2⟩; simp only [leadtrailref10_Next.l0, if_pos (show (i : Int) < (ss.length : Int) by omega), if_pos (show (0 : Int) ≤ (i : Int) by omega), rdSh_at ss i hil, mx_eq]; refine Ev.bind hc ?_; simp only [hw.out, hw2.out, if_pos c, if_true, if_pos c3]; exact q1
    ·obtain ⟨r', q1, q2⟩ := next_loop ss u hI hv hs n (i + 1) (x, true) (by omega) (.inr ⟨_, rfl, (hhit _).2 (.inl hx1), hx2, fun y hy hu => by
      rcases (hhit y).1 hy with h | h
      ·exact hx3 y h hu
      ·omega⟩)
     refine ⟨r', evSucc ?_, q2⟩; simp only [leadtrailref10_Next.l0, if_pos (show (i : Int) < (ss.length : Int) by omega), if_pos (show (0 : Int) ≤ (i : Int) by omega), rdSh_at ss i hil, mx_eq]; refine Ev.bind hc ?_; simp only [hw.out, hw2.out, if_pos c, if_true, if_neg c3]; exact q1
   ·have hr0 : r = (0, false) ∧ ∀ y, HitS (cs (ss.take i)) y → ¬ u ≤ y := by
     rcases hr with h | ⟨x, rfl, _⟩
     ·exact h
     ·exact absurd rfl c2
    obtain ⟨e, hno⟩ := hr0; subst e; obtain ⟨r', q1, q2⟩ := next_loop ss u hI hv hs n (i + 1) (max u ss[i].f1, true) (by omega) (.inr ⟨_, rfl, (hhit _).2 (.inr ⟨by omega, by omega⟩), by omega, fun y hy hu => by
     rcases (hhit y).1 hy with h | h
     ·exact absurd hu (hno y h)
     ·omega⟩)
    refine ⟨r', evSucc ?_, q2⟩; simp only [leadtrailref10_Next.l0, if_pos (show (i : Int) < (ss.length : Int) by omega), if_pos (show (0 : Int) ≤ (i : Int) by omega), rdSh_at ss i hil, mx_eq]; refine Ev.bind hc ?_; simp only [hw.out, hw2.out, if_pos c, Bool.false_eq_true, if_false]; exact q1
  ·obtain ⟨r', q1, q2⟩ := next_loop ss u hI hv hs n (i + 1) r (by omega) (by
    rcases hr with ⟨e, hno⟩ | ⟨x, e, hx1, hx2, hx3⟩
    ·exact .inl ⟨e, fun y hy hu => by
      rcases (hhit y).1 hy with h | h
      ·exact hno y h hu
      ·omega⟩
    ·exact .inr ⟨x, e, (hhit _).2 (.inl hx1), hx2, fun y hy hu => by
      rcases (hhit y).1 hy with h | h
      ·exact hx3 y h hu
      ·omega⟩)
   refine ⟨r', evSucc ?_, q2⟩; simp only [leadtrailref10_Next.l0, if_pos (show (i : Int) < (ss.length : Int) by omega), if_pos (show (0 : Int) ≤ (i : Int) by omega), rdSh_at ss i hil, mx_eq]; refine Ev.bind hc ?_; simp only [hw.out, hw2.out, if_neg c]; exact q1
theorem refNext_is (ss : List Sh) (u : Int) (hI : InS ss) (h : vScheme ss = true) {r : Int × Bool} (hr : LeastIn (cs ss) u r) : Ev (fun k => leadtrailref10_Next.f k ss u) r := by
 obtain ⟨h1, h2, _⟩ := vScheme_facts h; obtain ⟨r', q1, q2⟩ := next_loop ss u hI h2 h1 ss.length 0 (0, false) (by omega) (.inl ⟨rfl, fun y ⟨p, hp, _⟩ => (by simp [cs] at hp)⟩); obtain rfl := hr.uniq q2; simp only [leadtrailref10_Next.f]; refine Ev.bind (refValid8_is ss hI) ?_; simp only [h, if_true]; exact q1
theorem refNext_no (ss : List Sh) (u : Int) (hI : InS ss) (h : vScheme ss = false) : Ev (fun k => leadtrailref10_Next.f k ss u) (0, false) := by
 simp only [leadtrailref10_Next.f]; refine Ev.bind (refValid8_is ss hI) ?_; simp only [h, Bool.false_eq_true, if_false]; exact evNow _
end Go.Proofs.Ytoljcfocgaonpaa.PBS
end
section
namespace Go.Proofs.Ytoljcfocgaonpaa.PBS
open Go.RowKit Go.Proofs.YtoljcfocgaonpaaW.PrintWords Go.Proofs.YtoljcfocgaonpaaW.PrintLast Go.Proofs.YtoljcfocgaonpaaW.PrintMore Go.Proofs.Ytoljcfocgaonpaa.I Go.Proofs.LT Go.Proofs.Ytoljcfocgaonpaa.PB3
set_option linter.unusedVariables false
set_option linter.unusedSimpArgs false
theorem all_bounds (r : List Sh) (hv : ∀ p ∈ r, vShape p.f0 p.f1 = true) (fr : Int) : ∀ x ∈ allC (cs r) fr, 0 ≤ x.1 ∧ x.1 ≤ 1073741823 := by
 rintro ⟨u, b⟩ hx; obtain ⟨_, p, hp, hh, _⟩ := all_mem.1 hx; obtain ⟨q, hq, rfl⟩ := List.mem_map.1 hp; obtain ⟨⟨l1, l2⟩, ⟨a1, a2⟩, hk, hg, hcn⟩ := vShape_good (hv q hq); have hh := hitC_iff.1 hh; have h1 : q.f1 ≤ u := hh.1; have h2 : u - q.f1 < cnt (sets q.f0) := hh.2; show 0 ≤ u ∧ u ≤ 1073741823; omega
theorem nxC_least {l : List Cs} {L : List (Int × List Int)} {v : Int} {i : Nat} (h : (∃ x, L[i]? = some x ∧ HitS l x.1 ∧ v ≤ x.1 ∧ ∀ y, HitS l y → v ≤ y → x.1 ≤ y) ∨ (L[i]? = none ∧ ∀ y, HitS l y → ¬ v ≤ y)) : LeastIn l v (nxC L i) := by
 rcases h with ⟨x, e, h1, h2, h3⟩ | ⟨e, h1⟩
 ·exact .inr ⟨x.1, by unfold nxC; rw [e], h1, h2, h3⟩
 ·exact .inl ⟨by unfold nxC; rw [e], h1⟩
theorem leadtraillaw10_CodeAll_ev (ss : List Sh) (fr early : Int) (hI : InS ss) (hfr : fr ≤ 9223372036854775807) : ∃ k, leadtraillaw10_CodeAll.Good k ss fr early := by
 obtain ⟨K0, h0⟩ := fixed10; obtain ⟨K1, h1⟩ := CopyS_is ss hI; obtain ⟨r, ⟨K2, h2⟩, hIr, hvr, hlr, hcase⟩ := rising_is ss hI; obtain ⟨K3, h3⟩ := codF_is fr r hIr hvr; have hb := all_bounds r hvr fr; rcases hcase with ⟨hv, rfl⟩ | ⟨hv, hp, ha, hg, hr⟩
 ·obtain ⟨K4, h4⟩ := refNext_no ss fr hI hv; exact ⟨max (max K0 K1) K2, K3, [], _, h0 _ (by omega), h1 _ (by omega), h2 _ (by omega), h3 _ (Nat.le_refl _), hfr, by simp, by simp [cs, allC], hb, ⟨K4, h4 _ (Nat.le_refl _)⟩, fun i hi => absurd hi (by simp [cs, allC]), fun i hi => absurd hi (by simp [cs, allC])⟩
 ·have hs := all_lt (fr := fr) ha hg hr; have hm : ∀ u, (∃ b, (u, b) ∈ allC (cs r) fr) ↔ fr ≤ u ∧ HitS (cs ss) u := fun u => by
   constructor
   ·rintro ⟨b, h⟩; obtain ⟨q1, p, q2, q3, _⟩ := all_mem.1 h; exact ⟨q1, p, hp.subset q2, q3⟩
   ·rintro ⟨q1, p, q2, q3⟩; exact ⟨_, all_mem.2 ⟨q1, p, hp.symm.subset q2, q3, rfl⟩⟩
  have hlen := short_of (n := 1073741824) hs (fun x hx => by have := hb x hx; omega); have hge : ∀ j (h : j < (allC (cs r) fr).length), fr ≤ ((allC (cs r) fr)[j]).1 := fun j h => ((hm _).1 ⟨_, List.getElem_mem h⟩).1
  obtain ⟨K4, h4⟩ := refNext_is ss fr hI hv (nxC_least (at_least (i := 0) hs hm (fun j h hj => absurd hj (Nat.not_lt_zero _)) (fun j h _ => hge j h) (Int.le_refl _))); refine ⟨max (max K0 K1) K2, K3, r, _, h0 _ (by omega), h1 _ (by omega), h2 _ (by omega), h3 _ (Nat.le_refl _), hfr, by omega, by omega, hb, ⟨K4, h4 _ (Nat.le_refl _)⟩, fun i hi => ?_, fun i hi => ?_⟩
  ·obtain ⟨K5, h5⟩ := refNext_is ss ((allC (cs r) fr)[i].1 + 1) hI hv (nxC_least (at_least (i := i + 1) hs hm (fun j h hj => by
    rcases Nat.lt_or_ge j i with c | c
    ·have := (List.pairwise_iff_getElem.1 hs) j i h hi c; omega
    ·obtain rfl : j = i := by omega
     omega) (fun j h hj => by have := (List.pairwise_iff_getElem.1 hs) i j hi h (by omega); omega) (by have := hge i hi; omega)))
   exact ⟨K5, h5 _ (Nat.le_refl _)⟩
  ·have hbi := hb _ (List.getElem_mem hi); obtain ⟨_, p, q2, q3, q4⟩ := all_mem.1 (show ((allC (cs r) fr)[i].1, (allC (cs r) fr)[i].2) ∈ allC (cs r) fr from List.getElem_mem hi); obtain ⟨_, _, ha', _⟩ := vScheme_facts hv; obtain ⟨K5, h5⟩ := refOf_is ss (allC (cs r) fr)[i].1 hI hv (i64_small hbi.1 hbi.2); rw [encC_of ha' (hp.subset q2) q3, ← q4] at h5; exact ⟨K5, h5 _ (Nat.le_refl _)⟩
end Go.Proofs.Ytoljcfocgaonpaa.PBS
namespace Go.Proofs.Ytoljcfocgaonpaa.Pure
open Go.Proofs.Ytoljcfocgaonpaa.I Go.Proofs.YtoljcfocgaonpaaW.PrintWords
theorem wf_top {x : Int} (h : (Lit.int .i64 x).wf = true) : x ≤ 9223372036854775807 := by
 have e0 : IntKind.i64.min = -9223372036854775808 := by decide
 have e1 : IntKind.i64.max = 9223372036854775807 := by decide
 simp only [Lit.wf, e0, e1] at h; simp at h; omega
theorem CodeAll : ∀ (l0_0 : List S47) (a1 : Int) (a2 : Int), (l0_0.length * 32 ≤ 140737488351232 ∧ ∀ x ∈ l0_0, ((x.f0.length * 24 ≤ 140737488351232 ∧ ∀ y ∈ x.f0, (y.length * 16 ≤ 140737488351232 ∧ ∀ x ∈ y, ((Lit.int .i64 x.f0).wf = true ∧ (Lit.int .i64 x.f1).wf = true))) ∧ (Lit.int .i64 x.f1).wf = true)) → (Lit.int .i64 a1).wf = true → (Lit.int .i64 a2).wf = true → ∃ k, leadtraillaw10_CodeAll.f k l0_0 a1 a2 = some true :=
 fun l0 fr e h hf _ => by
  obtain ⟨k, hk⟩ := PBS.leadtraillaw10_CodeAll_ev l0 fr e ⟨h.1, fun x hx => ⟨(h.2 x hx).1.1, fun y hy => ((h.2 x hx).1.2 y hy).1⟩⟩ (wf_top hf); refine ⟨k, ?_⟩; unfold leadtraillaw10_CodeAll.f; rw [if_pos hk]
end Go.Proofs.Ytoljcfocgaonpaa.Pure
end
