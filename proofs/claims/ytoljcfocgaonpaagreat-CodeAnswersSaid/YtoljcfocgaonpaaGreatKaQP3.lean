/- Words and laws of this claim, of 12 texts. -/
import Derived.Test.YtoljcfocgaonpaaGreatKaIx0
import Derived.Test.YtoljcfocgaonpaaGreatKaIx11
import Derived.Test.YtoljcfocgaonpaaGreatKaIx12
import Derived.Test.YtoljcfocgaonpaaGreatKaIx16
import Derived.Test.YtoljcfocgaonpaaGreatKaIx17
import Derived.Test.YtoljcfocgaonpaaGreatKaQP0
import Derived.Test.YtoljcfocgaonpaaGreatKaQP1
import Derived.Test.YtoljcfocgaonpaaGreatKaIx22
import Derived.Test.YtoljcfocgaonpaaGreatKaQP2
import Derived.Test.YtoljcfocgaonpaaGreatKaIx21
import Derived.Test.YtoljcfocgaonpaaGreatKaIx10
import Derived.Test.YtoljcfocgaonpaaGreatKaIx18
import Derived.Lib.Bytes
import Derived.Test.YtoljcfocgaonpaaGreatKaIx8
import Derived.Test.YtoljcfocgaonpaaGreatKaIx2
import Derived.Test.YtoljcfocgaonpaaGreatKaQW1
import Derived.Test.YtoljcfocgaonpaaGreatKaIx19
import Derived.Test.YtoljcfocgaonpaaGreatKaIx13
import Derived.Test.YtoljcfocgaonpaaGreatKaIx14
import Derived.Test.YtoljcfocgaonpaaGreatKaIx15
import Derived.Test.YtoljcfocgaonpaaGreatKaIx6
import Derived.KernelRfl
import Derived.Test.YtoljcfocgaonpaaGreatKaIx20
section
namespace Go.Proofs.PB3
open Go.RowKit Go.Proofs.Zw.PrintWords Go.Proofs.Zw.PrintLast Go.Proofs.Zw.PrintMore Go.Proofs.I Go.Proofs.LT
set_option linter.unusedVariables false
set_option linter.unusedSimpArgs false
theorem Ko (N : Nat) (hN : N ≤ 8796093022206) : ∀ (t q : List S58) (p : S58), (q ++ p :: t).length ≤ N → p.f1 ≤ 255 → 0 ≤ p.f1 → Ev (fun k => Bc.l0 k (q ++ p :: t) ((q.length : Int) + 1)) (LT.Fd 255 p.f1 (t.map L58))
 | [], q, p, _, _, _ => by
  refine Bq ?_; have hlc := Et q p []; have c1 : ¬ (q.length : Int) + 1 < ((q ++ [p]).length : Nat) := by rw [hlc]; simp
  simp only [Bc.l0, if_neg c1]; rw [show LT.Fd 255 p.f1 (([] : List S58).map L58) = true from Jn _ _]; exact Cb _
 | r :: t, q, p, hl, hp, hp0 => by
  have hlc := Et q p (r :: t); have e1 : q ++ p :: r :: t = (q ++ [p]) ++ r :: t := by simp
  have e2 : ((q.length : Int) + 1) = ((q ++ [p]).length : Nat) := by simp
  have rr : Ch (q ++ p :: r :: t) ((q.length : Int) + 1) = r := by rw [e1, e2]; exact rd58 _ _ _
  have rp : Ch (q ++ p :: r :: t) (q.length : Int) = p := rd58 _ _ _; have hq : q.length ≤ N := by simp at hl; omega
  have c1 : (q.length : Int) + 1 < ((q ++ p :: r :: t).length : Nat) := by rw [hlc]; simp; omega
  have c2 : (0 : Int) ≤ (q.length : Int) + 1 := by omega
  have c3 : (q.length : Int) + 1 > 0 := by omega
  have c4 : (0 : Int) ≤ (q.length : Int) := by omega
  have c5 : (q.length : Int) < ((q ++ p :: r :: t).length : Nat) := by omega
  have hw1 : Aa (wrap64 ((q.length : Int) + 1 - 1) = (q.length : Int)) := Aa.mk (by rw [w64 (by omega) (by omega)]; omega); have hw2 : Aa (wrap64 ((q.length : Int) + 1 + 1) = (q.length : Int) + 1 + 1) := Aa.mk (w64 (by omega) (by omega)); have hw3 : Aa (wrap64 (p.f1 + 1) = p.f1 + 1) := Aa.mk (w64 (by omega) (by omega)); refine Bq ?_; simp only [Bc.l0, if_pos c1, if_pos c2, if_pos c3, rr, hw1.out, hw2.out, hw3.out, if_pos c4, if_pos c5, rp, List.map_cons, Ii]; show Ev _ (if r.f0 < 0 then false else if r.f0 > r.f1 then false else if r.f1 > 255 then false else if r.f0 - 1 ≤ p.f1 then false else LT.Fd 255 r.f1 (t.map L58)); by_cases d1 : r.f0 < 0
  ·simp only [if_pos d1]; exact Cb _
  by_cases d2 : r.f0 > r.f1
  ·simp only [if_neg d1, if_pos d2]; exact Cb _
  by_cases d3 : r.f1 > 255
  ·simp only [if_neg d1, if_neg d2, if_pos d3]; exact Cb _
  by_cases d4 : r.f0 ≤ p.f1 + 1
  ·simp only [if_neg d1, if_neg d2, if_neg d3, if_pos d4, if_pos (show r.f0 - 1 ≤ p.f1 by omega)]; exact Cb _
  ·have ih := Ko N hN t (q ++ [p]) r (by rw [← e1]; exact hl) (by omega) (by omega); rw [← e1, ← e2] at ih; simp only [if_neg d1, if_neg d2, if_neg d3, if_neg d4, if_neg (show ¬ r.f0 - 1 ≤ p.f1 by omega)]; exact ih
theorem Mn (l : List S58) (hl : l.length * 16 ≤ 140737488351232) : Ev (fun k => Bc.f k l) (LT.Fd 255 (-2) (l.map L58)) := by
 simp only [Bc.f]; cases l with
 | nil =>
  refine Bq ?_; simp only [Bc.l0, List.length_nil, if_neg (show ¬ (0 : Int) < ((0 : Nat) : Int) by omega), List.map_nil, Jn]; exact Cb _
 | cons r t =>
  have c1 : (0 : Int) < (((r :: t).length : Nat) : Int) := by rw [List.length_cons]; omega
  have r1 : Ch (r :: t) 0 = r := rfl; have hw : Aa (wrap64 ((0 : Int) + 1) = 1) := Aa.mk (by rw [w64 (by omega) (by omega)]; rfl); refine Bq ?_; simp only [Bc.l0, if_pos c1, if_pos (show (0 : Int) ≤ 0 by omega), r1, if_neg (show ¬ (0 : Int) > 0 by omega), hw.out, List.map_cons, Ii]; show Ev _ (if r.f0 < 0 then false else if r.f0 > r.f1 then false else if r.f1 > 255 then false else if r.f0 - 1 ≤ -2 then false else LT.Fd 255 r.f1 (t.map L58)); by_cases d1 : r.f0 < 0
  ·simp only [if_pos d1]; exact Cb _
  by_cases d2 : r.f0 > r.f1
  ·simp only [if_neg d1, if_pos d2]; exact Cb _
  by_cases d3 : r.f1 > 255
  ·simp only [if_neg d1, if_neg d2, if_pos d3]; exact Cb _
  simp only [if_neg d1, if_neg d2, if_neg d3, if_neg (show ¬ r.f0 - 1 ≤ -2 by omega)]; exact Ko (r :: t).length (by omega) t [] r (by simp) (by omega) (by omega)
theorem Qi (l : List S58) (hl : l.length * 16 ≤ 140737488351232) : ∃ p, Ev (fun k => Ey k l) p ∧ ∀ i : Nat, p i = memB (setL 255 (l.map L58)) i := by
 have h := Mn l hl; by_cases d : LT.Fd 255 (-2) (l.map L58) = true
 ·have hv := (Gk _ _ _).1 d; have hall : l.all Hh = true := List.all_eq_true.2 fun r hr => by
   have := hv.each (L58 r) (List.mem_map.2 ⟨r, hr, rfl⟩); have e : (L58 r).1 = r.f0 ∧ (L58 r).2 = r.f1 := ⟨rfl, rfl⟩; rw [e.1, e.2] at this; simp [Hh]; omega
  refine ⟨Ej true l, Ev.bind h ?_, fun i => ?_⟩
  ·simp only [if_pos (show l.length ≤ 8796093022207 by omega), if_pos d, if_pos hall]; exact Cb _
  ·rw [setL_of hv, Bool.eq_iff_iff, Dh]; simp only [Ej, Ia, Ol, Bool.true_and, List.any_eq_true, Bool.and_eq_true, decide_eq_true_iff]; exact ⟨fun ⟨r, hr, h1, h2⟩ => ⟨L58 r, List.mem_map.2 ⟨r, hr, rfl⟩, h1, h2⟩, fun ⟨q, hq, h1, h2⟩ => by
    obtain ⟨r, hr, rfl⟩ := List.mem_map.1 hq; exact ⟨r, hr, h1, h2⟩⟩
 ·refine ⟨Ej false l, Ev.bind h ?_, fun i => ?_⟩
  ·simp only [if_pos (show l.length ≤ 8796093022207 by omega), if_neg d]; exact Cb _
  ·have e : setL 255 (l.map L58) = [] := by unfold setL; rw [if_neg d]
   rw [e]; have : memB [] (i : Int) = false := by
    cases hm : memB [] (i : Int)
    ·rfl
    ·exact (Mem.nil (Dh.1 hm)).elim
   rw [this]; simp [Ej]
theorem Pv {p : Nat → Bool} {s : List Run} (h : ∀ i : Nat, p i = memB s i) : ∀ n, cntB p n = cd (memB s) n
 | 0 => (cd_zero _).symm
 | n + 1 => by rw [cd_succ, ← Pv h n, ← h n]; rfl
theorem Rn (l : List S58) (hl : l.length * 16 ≤ 140737488351232) : Ev (fun k => Cg.f k l) (size (setL 255 (l.map L58))) := by
 obtain ⟨p, h1, h2⟩ := Qi l hl; refine Ev.bind h1 ?_; rw [Pv h2 256, Ji (n := 256) (Hm 255 (l.map L58)) (by omega)]; exact Cb _
theorem hasP_is {p : Nat → Bool} {s : List Run} (hv : An 255 (-2) s) (h : ∀ i : Nat, p i = memB s i) (x : Int) : hasP p x = memB s x := by
 unfold hasP; by_cases c : 0 ≤ x
 ·by_cases d : x ≤ 255
  ·rw [if_pos c, if_pos d, h x.toNat, Int.toNat_of_nonneg c]
  ·rw [if_pos c, if_neg d]; cases hm : memB s x
   ·rfl
   ·have := hv.range (Dh.1 hm); omega
 ·rw [if_neg c]; cases hm : memB s x
  ·rfl
  ·have := hv.range (Dh.1 hm); omega
theorem Ro (l : List S58) (x : Int) (hl : l.length * 16 ≤ 140737488351232) : Ev (fun k => Dx.f k l x) (Kq (setL 255 (l.map L58)) x) := by
 obtain ⟨p, h1, h2⟩ := Qi l hl; refine Ev.bind h1 ?_; have e : ((if hasP p x = true then (cntB p x.toNat : Int) else 0), hasP p x) = Kq (setL 255 (l.map L58)) x := by
  rw [hasP_is (Hm _ _) h2, Pv h2]; unfold Kq; by_cases d : memB (setL 255 (l.map L58)) x = true
  ·rw [if_pos d, if_pos d, d]
  ·rw [if_neg d, if_neg d, show memB (setL 255 (l.map L58)) x = false by simpa using d]
 rw [e]; exact Cb _
theorem Vk {p : Nat → Bool} {s : List Run} (hv : An 255 (-2) s) (h : ∀ i : Nat, p i = memB s i) (k : Int) : ∀ f x : Nat, f + x = 256 → (∀ y, y < x → ¬ (p y = true ∧ (cntB p y : Int) = k)) → Sel s k (selB p k f x)
 | 0, x, hx, hn => by
  refine .inr ⟨?_, rfl⟩; by_cases c : k < 0
  ·exact .inl c
  ·refine .inr (Int.not_lt.1 fun hlt => ?_); have hz := Ji (n := 256) hv (by omega); obtain ⟨m, m1, m2, m3⟩ := Mz (memB s) (n := 256) (k := k.toNat) (by omega); exact hn m (by omega) ⟨by rw [h m]; exact m2, by rw [Pv h, m3]; omega⟩
 | f + 1, x, hx, hn => by
  unfold selB; by_cases d : p x = true ∧ (cntB p x : Int) = k
  ·rw [if_pos d]; refine .inl ⟨(x : Int), Dh.1 (by rw [← h x]; exact d.1), ?_, rfl⟩; rw [Int.toNat_natCast, ← Pv h]; exact d.2
  ·rw [if_neg d]; refine Vk hv h k f (x + 1) (by omega) fun y hy => ?_
   by_cases e : y = x
   ·rw [e]; exact d
   ·exact hn y (by omega)
theorem Pg (l : List S58) (kk : Int) (hl : l.length * 16 ≤ 140737488351232) : ∃ r, Ev (fun k => Dn.f k l kk) r ∧ Sel (setL 255 (l.map L58)) kk r := by
 obtain ⟨p, h1, h2⟩ := Qi l hl; exact ⟨_, Ev.bind h1 (Cb _), Vk (Hm _ _) h2 kk 256 0 rfl fun y hy => by omega⟩
end Go.Proofs.PB3
end
section
namespace Go.Proofs.PB3
open Go.RowKit Go.Proofs.Zw.PrintWords Go.Proofs.Zw.PrintLast Go.Proofs.Zw.PrintMore Go.Proofs.I Go.Proofs.LT
set_option linter.unusedVariables false
set_option linter.unusedSimpArgs false
theorem Gn (N : Nat) (hN : N ≤ 8796093022206) : ∀ (t pre : List S58), (pre ++ t).length ≤ N → Ev (fun k => Bs.l0 k (pre ++ t) (pre ++ t) (pre.length : Int)) true
 | [], pre, _ => by
  refine Bq ?_; simp only [Bs.l0]; rw [List.append_nil]; simp only [if_neg (show ¬ ((pre.length : Nat) : Int) < ((pre.length : Nat) : Int) by omega)]; exact Cb _
 | r :: t, pre, hl => by
  have hlc := Et pre r t; have ih := Gn N hN t (pre ++ [r]) (by rw [Cn]; exact hl); rw [Cn, Ek] at ih; refine Bq ?_; have c1 : (pre.length : Int) < ((pre ++ r :: t).length : Nat) := by rw [hlc]; omega
  have c2 : (0 : Int) ≤ pre.length := by omega
  have hw : Aa (wrap64 ((pre.length : Int) + 1) = (pre.length : Int) + 1) := Aa.mk (w64 (by omega) (by simp at hl; omega)); simp only [Bs.l0, if_pos c1, if_pos c2, rd58, hw.out, beq_self_eq_true, Bool.not_true, Bool.or_self, Bool.false_eq_true, if_false]; exact ih
theorem Ih (a : List S58) (hl : a.length * 16 ≤ 140737488351232) : Ev (fun k => Bs.f k a a) true := by
 have h := Gn a.length (by omega) a [] (by simp); simp only [Bs.f, if_true]; simpa using h
end Go.Proofs.PB3
end
section
namespace Go.Proofs.PBS
open Go.RowKit Go.Proofs.Zw.PrintWords Go.Proofs.Zw.PrintLast Go.Proofs.Zw.PrintMore Go.Proofs.I Go.Proofs.LT Go.Proofs.PB3
set_option linter.unusedVariables false
set_option linter.unusedSimpArgs false
theorem Pu (ps : List (List Sp)) (a : Int) (hI : In2 ps) : ∀ (n i : Nat), i + n = ps.length → Ev (fun k => Av.l0 k (i : Int) ps a (ps.take i) a) (ps, a)
 | 0, i, hi => by
  refine Bq ?_; simp only [Av.l0, if_neg (show ¬ (i : Int) < (ps.length : Int) by omega)]; rw [List.take_of_length_le (by omega)]; exact Cb _
 | n + 1, i, hi => by
  have hil : i < ps.length := by omega
  have ih := Pu ps a hI n (i + 1) (by omega); have h1 := hI.2 _ (List.getElem_mem hil); have h2 := hI.1; unfold In1 at h1; have hw : Aa (wrap64 ((i : Int) + 1) = ((i + 1 : Nat) : Int)) := Aa.mk (by rw [w64 (by omega) (by omega)]; rfl); have e : ps.take i ++ [([] : List Sp) ++ ps[i]] = ps.take (i + 1) := by rw [List.nil_append, List.take_succ_eq_append_getElem hil]
  refine Bq ?_; simp only [Av.l0, if_pos (show (i : Int) < (ps.length : Int) by omega), Option.bind_some, if_pos (show (0 : Int) ≤ (i : Int) by omega), Jt ps i hil, List.length_nil, if_pos (show 0 + (ps[i]).length < 8796093022208 by omega), if_pos (show (ps.take i).length < 5864062014805 by rw [List.length_take]; omega), hw.out, e]; exact ih
theorem Copy_is (ps : List (List Sp)) (a : Int) (hI : In2 ps) : Ev (fun k => Av.f k ps a) (ps, a) := by
 have := Pu ps a hI ps.length 0 (by omega); rw [List.take_zero] at this; exact this
theorem La (p : List Sp) (hp : In1 p) (h : Dc p = true) : Ev (fun k => Cg.f k p) (size (runs p)) := by
 have := Rn p hp; rwa [show p.map L58 = runs p from rfl, setL_of (Dp h).1] at this
theorem Il (ps : List (List Sp)) (a : Int) (hI : In2 ps) (hk : ps.all Dc = true) (hl : ps.length ≤ 8) : ∀ (n i : Nat) (m : Int), i + n = ps.length → 1 ≤ m → m ≤ 1073741825 →
 Ev (fun k => Am.l0 k m (i : Int) ps a) (capd m (ps.drop i))
 | 0, i, m, hi, _, _ => by
  refine Bq ?_; simp only [Am.l0, if_neg (show ¬ (i : Int) < (ps.length : Int) by omega)]; rw [List.drop_of_length_le (by omega)]; exact Cb _
 | n + 1, i, m, hi, h0, h1 => by
  have hil : i < ps.length := by omega
  have hp := Gb hk hil; have hs := Dp hp; have hz := Hj hs.1; have hb : 1 ≤ m * size (runs ps[i]) := by have := Int.mul_le_mul h0 hs.2 (by omega) (by omega); omega
  have hc : m * size (runs ps[i]) ≤ 1073741825 * 256 := Int.mul_le_mul h1 hz (by omega) (by omega); have hw : Aa (wrap64 (m * size (runs ps[i])) = m * size (runs ps[i])) := Aa.mk (w64 (by omega) (by omega)); have hw2 : Aa (wrap64 ((i : Int) + 1) = ((i + 1 : Nat) : Int)) := Aa.mk (by rw [w64 (by omega) (by omega)]; rfl); have e : capd m (ps.drop i) = capd (min (m * size (runs ps[i])) 1073741825) (ps.drop (i + 1)) := by rw [List.drop_eq_getElem_cons hil]; rfl
  refine Bq ?_; simp only [Am.l0, if_pos (show (i : Int) < (ps.length : Int) by omega), if_pos (show (0 : Int) ≤ (i : Int) by omega), Jt ps i hil]; refine Ev.bind (La _ (hI.2 _ (List.getElem_mem _)) hp) ?_; simp only [hw.out, hw2.out]; rw [e]; by_cases c : m * size (runs ps[i]) > 1073741824
  ·simp only [if_pos c]; rw [show min (m * size (runs ps[i])) 1073741825 = 1073741825 by omega]; exact Il ps a hI hk hl n (i + 1) _ (by omega) (by omega) (by omega)
  ·simp only [if_neg c]; rw [show min (m * size (runs ps[i])) 1073741825 = m * size (runs ps[i]) by omega]; exact Il ps a hI hk hl n (i + 1) _ (by omega) (by omega) (by omega)
theorem Gm (ps : List (List Sp)) (a : Int) (hI : In2 ps) (hk : ps.all Dc = true) (hl : ps.length ≤ 8) : Ev (fun k => Am.f k ps a) (min (cnt (sets ps)) 1073741825) := by
 have := Il ps a hI hk hl ps.length 0 1 (by omega) (by omega) (by omega); rw [List.drop_zero, Qo ps 1 hk (by omega) (by omega), Int.one_mul] at this; exact this
theorem Jr (ps : List (List Sp)) (a : Int) (hI : In2 ps) (hl : ps.length ≤ 8) (a0 : 0 ≤ a) (a1 : a ≤ 1073741823) : ∀ (n i : Nat), i + n = ps.length → (ps.take i).all Dc = true →
 Ev (fun k => Af.l0 k (i : Int) ps a) (ps.all Dc && decide (a + cnt (sets ps) - 1 ≤ 1073741823))
 | 0, i, hi, hk => by
  rw [List.take_of_length_le (by omega)] at hk; have hc := Eu (Ib hk); refine Bq ?_; simp only [Af.l0, if_neg (show ¬ (i : Int) < (ps.length : Int) by omega)]; refine Ev.bind (Gm ps a hI hk hl) ?_; rw [hk, Bool.true_and, w64 (x := a + min (cnt (sets ps)) 1073741825) (by omega) (by omega), w64 (by omega) (by omega), show decide (a + min (cnt (sets ps)) 1073741825 - 1 ≤ 1073741823) = decide (a + cnt (sets ps) - 1 ≤ 1073741823) from decide_eq_decide.2 (by omega)]; exact Cb _
 | n + 1, i, hi, hk => by
  have hil : i < ps.length := by omega
  have hw2 : Aa (wrap64 ((i : Int) + 1) = ((i + 1 : Nat) : Int)) := Aa.mk (by rw [w64 (by omega) (by omega)]; rfl); have hbad : Dc ps[i] = false → ps.all Dc = false := fun h => by
   cases q : ps.all Dc
   ·rfl
   ·rw [Gb q hil] at h; cases h
  refine Bq ?_; simp only [Af.l0, if_pos (show (i : Int) < (ps.length : Int) by omega), if_pos (show (0 : Int) ≤ (i : Int) by omega), Jt ps i hil]; by_cases c : ((ps[i]).length : Int) = 0
  ·simp only [if_pos c]; rw [hbad (by simp only [Dc, decide_eq_true (show (ps[i]).length = 0 by omega)]; rfl), Bool.false_and]; exact Cb _
  ·simp only [if_neg c]; have e : Dc ps[i] = LT.Fd 255 (-2) (runs ps[i]) := by simp only [Dc, decide_eq_false (show ¬ (ps[i]).length = 0 by omega)]; rfl
   refine Ev.bind (Mn ps[i] (hI.2 _ (List.getElem_mem _))) ?_; rw [show (ps[i]).map L58 = runs ps[i] from rfl, ← e]; cases q : Dc ps[i]
   ·simp only [Bool.false_eq_true, if_false]; rw [hbad q, Bool.false_and]; exact Cb _
   ·simp only [if_true, hw2.out]; refine Jr ps a hI hl a0 a1 n (i + 1) (by omega) ?_; rw [List.take_succ_eq_append_getElem hil, List.all_append, hk]; simp [q]
theorem Lj (ps : List (List Sp)) (a : Int) (hI : In2 ps) : Ev (fun k => Af.f k ps a) (Cu ps a) := by
 have jT : Ev (fun k => Af.j0 k true ps a) false := by
  refine Bq ?_; simp only [Af.j0, if_true]; exact Cb _
 simp only [Af.f]; by_cases c1 : (ps.length : Int) < 1
 ·simp only [if_pos c1, Cu, decide_eq_false (show ¬ (1 ≤ ps.length ∧ ps.length ≤ 8) by omega), Bool.false_and]; exact jT
 by_cases c2 : (ps.length : Int) > 8
 ·simp only [if_neg c1, if_pos c2, Cu, decide_eq_false (show ¬ (1 ≤ ps.length ∧ ps.length ≤ 8) by omega), Bool.false_and]; exact jT
 simp only [if_neg c1, if_neg c2, Cu, decide_eq_true (show 1 ≤ ps.length ∧ ps.length ≤ 8 by omega), Bool.true_and]; by_cases c3 : a < 0
 ·simp only [if_pos c3, decide_eq_false (show ¬ (0 ≤ a ∧ a ≤ 1073741823) by omega), Bool.false_and]; exact jT
 by_cases c4 : a > 1073741823
 ·simp only [if_neg c3, decide_eq_true c4, decide_eq_false (show ¬ (0 ≤ a ∧ a ≤ 1073741823) by omega), Bool.false_and]; exact jT
 simp only [if_neg c3, decide_eq_false c4, decide_eq_true (show 0 ≤ a ∧ a ≤ 1073741823 by omega), Bool.true_and]; refine Bq ?_; simp only [Af.j0, Bool.false_eq_true, if_false]; exact Jr ps a hI (by omega) (by omega) (by omega) ps.length 0 (by omega) rfl
theorem Mo (ps : List (List Sp)) (a : Int) (hI : In2 ps) : Ev (fun k => Cj.f k ps a) (if Cu ps a = true then cnt (sets ps) else 0) := by
 simp only [Cj.f]; refine Ev.bind (Lj ps a hI) ?_; cases hv : Cu ps a
 ·simp only [Bool.false_eq_true, if_false]; exact Cb _
 ·simp only [if_true]; obtain ⟨⟨l1, l2⟩, ⟨a1, a2⟩, hk, hg, hc⟩ := De hv; have := Gm ps a hI hk l2; rw [show min (cnt (sets ps)) 1073741825 = cnt (sets ps) by omega] at this; exact Ev.bind this (Cb _)
theorem Sb {x : Int} (h : 0 ≤ x ∧ x ≤ 255) : wrap64 x = x := w64 (by omega) (by omega)
theorem rd_get (l : List Int) (i : Nat) (h : i < l.length) : rd l (i : Int) = l[i] := Up l i _ (List.getElem?_eq_getElem h)
theorem Rp (p : List Sp) (x : Int) (hp : In1 p) (h : Dc p = true) : Ev (fun k => Dx.f k p x) (Kq (runs p) x) := by
 have := Ro p x hp; rwa [show p.map L58 = runs p from rfl, setL_of (Dp h).1] at this
theorem Lk (ps : List (List Sp)) (a : Int) (bs : List Int) (hb : ∀ b ∈ bs, 0 ≤ b ∧ b ≤ 255) (hbl : bs.length = ps.length) (hI : In2 ps) (hk : ps.all Dc = true) (hl : ps.length ≤ 8) : ∀ (n i : Nat) (acc : Int), i + n = ps.length → 0 ≤ acc → (acc + 1) * cnt (sets (ps.drop i)) ≤ 1073741824 →
 Ev (fun k => Ak.l0 k bs acc (i : Int) ps a) (rkR ((rnk (sets (ps.drop i)) (bs.drop i)).map (fun r => acc * cnt (sets (ps.drop i)) + r)))
 | 0, i, acc, hi, _, _ => by
  refine Bq ?_; simp only [Ak.l0, if_neg (show ¬ (i : Int) < (bs.length : Int) by omega)]; rw [List.drop_of_length_le (by omega), List.drop_of_length_le (by omega)]; rw [show rnk (sets []) [] = some 0 from Qe]; show Ev _ (rkR (some (acc * cnt (sets []) + 0))); rw [show cnt (sets []) = 1 from Hi, Int.mul_one, Int.add_zero]; exact Cb _
 | n + 1, i, acc, hi, h0, h1 => by
  have hil : i < ps.length := by omega
  have hbi : i < bs.length := by omega
  have hg := Ib hk; have hp := Gb hk hil; have hs := Dp hp; have hz := Hj hs.1; have hc1 : 1 ≤ cnt (sets (ps.drop (i + 1))) := by have := Eu (hg.drop (i + 1)); rwa [He] at this
  have hce := Ip ps i hil; have hbyte := hb _ (List.getElem_mem hbi); have hc2 : 1 ≤ cnt (sets (ps.drop i)) := by have := Eu (hg.drop i); rwa [He] at this
  have hacc : acc + 1 ≤ 1073741824 := by
   have := Int.mul_le_mul_of_nonneg_left hc2 (show 0 ≤ acc + 1 by omega); omega
  have e : rnk (sets (ps.drop i)) (bs.drop i) = if memB (runs ps[i]) bs[i] = true then (rnk (sets (ps.drop (i + 1))) (bs.drop (i + 1))).map (fun r => (cd (memB (runs ps[i])) bs[i].toNat : Int) * cnt (sets (ps.drop (i + 1))) + r) else none := by
   rw [List.drop_eq_getElem_cons hil, List.drop_eq_getElem_cons hbi]; exact Lp _ _ _ _
  have hw2 : Aa (wrap64 ((i : Int) + 1) = ((i + 1 : Nat) : Int)) := Aa.mk (by rw [w64 (by omega) (by omega)]; rfl); refine Bq ?_; simp only [Ak.l0, if_pos (show (i : Int) < (bs.length : Int) by omega), if_pos (show (0 : Int) ≤ (i : Int) by omega), if_pos (show (i : Int) < (ps.length : Int) by omega), Jt ps i hil, rd_get bs i hbi, Sb hbyte]; refine Ev.bind (Rp _ _ (hI.2 _ (List.getElem_mem _)) hp) ?_; by_cases hm : memB (runs ps[i]) bs[i] = true
  ·rw [e, if_pos hm]; simp only [Kq, if_pos hm, if_true]; refine Ev.bind (La _ (hI.2 _ (List.getElem_mem _)) hp) ?_; have hd := Mx hs.1 (Dh.1 hm); have m0 : 0 ≤ acc * size (runs ps[i]) := Int.mul_nonneg h0 (by omega); have m1 : acc * size (runs ps[i]) ≤ 1073741824 * 256 := Int.mul_le_mul (by omega) hz (by omega) (by omega); have w1 : Aa (wrap64 (wrap64 (acc * size (runs ps[i])) + (cd (memB (runs ps[i])) bs[i].toNat : Int)) = acc * size (runs ps[i]) + (cd (memB (runs ps[i])) bs[i].toNat : Int)) := Aa.mk (by
    rw [w64 (x := acc * size (runs ps[i])) (by omega) (by omega), w64 (by omega) (by omega)])
   simp only [w1.out, hw2.out]; have hlt : (acc * size (runs ps[i]) + (cd (memB (runs ps[i])) bs[i].toNat : Int) + 1) * cnt (sets (ps.drop (i + 1))) ≤ 1073741824 := by
    have q1 : acc * size (runs ps[i]) + (cd (memB (runs ps[i])) bs[i].toNat : Int) + 1 ≤ (acc + 1) * size (runs ps[i]) := by rw [Int.add_mul, Int.one_mul]; omega
    have q2 := Int.mul_le_mul_of_nonneg_right q1 (show 0 ≤ cnt (sets (ps.drop (i + 1))) by omega); rw [Int.mul_assoc, ← hce] at q2; omega
   have ih := Lk ps a bs hb hbl hI hk hl n (i + 1) _ (by omega) (by omega) hlt; have e3 : ((rnk (sets (ps.drop (i + 1))) (bs.drop (i + 1))).map (fun r => (cd (memB (runs ps[i])) bs[i].toNat : Int) * cnt (sets (ps.drop (i + 1))) + r)).map (fun r => acc * cnt (sets (ps.drop i)) + r) = (rnk (sets (ps.drop (i + 1))) (bs.drop (i + 1))).map (fun r => (acc * size (runs ps[i]) + (cd (memB (runs ps[i])) bs[i].toNat : Int)) * cnt (sets (ps.drop (i + 1))) + r) := by
    cases rnk (sets (ps.drop (i + 1))) (bs.drop (i + 1)) with
    | none => rfl
    | some r =>
     simp only [Option.map_some]; rw [hce, Int.add_mul, Int.mul_assoc, Int.add_assoc]
   rw [e3]; exact ih
  ·rw [e, if_neg hm]; simp only [Kq, if_neg hm, Bool.false_eq_true, if_false]; exact Cb _
theorem Qg (ps : List (List Sp)) (a : Int) (bs : List Int) (hI : In2 ps) (hb : ∀ b ∈ bs, 0 ≤ b ∧ b ≤ 255) : Ev (fun k => Ak.f k ps a bs) (rkS ps a bs) := by
 have jT : Ev (fun k => Ak.j0 k bs true ps a) (0, false) := by
  refine Bq ?_; simp only [Ak.j0, if_true]; exact Cb _
 simp only [Ak.f]; refine Ev.bind (Mo ps a hI) ?_; unfold rkS; cases hv : Cu ps a
 ·simp only [Bool.false_eq_true, if_false, if_true]; exact jT
 ·simp only [if_true]; obtain ⟨⟨l1, l2⟩, ⟨a1, a2⟩, hk, hg, hc⟩ := De hv; have hp := Eu hg; simp only [if_neg (show ¬ cnt (sets ps) = 0 by omega)]; by_cases c : bs.length = ps.length
  ·rw [show ((bs.length : Int) != (ps.length : Int)) = false by simp [c]]; refine Bq ?_; simp only [Ak.j0, Bool.false_eq_true, if_false]; have := Lk ps a bs hb c hI hk l2 ps.length 0 0 (by omega) (by omega) (by rw [List.drop_zero]; omega); rw [List.drop_zero, List.drop_zero] at this; have e : (rnk (sets ps) bs).map (fun r => (0 : Int) * cnt (sets ps) + r) = rnk (sets ps) bs := by cases rnk (sets ps) bs <;> simp
   rw [e] at this; exact this
  ·rw [show ((bs.length : Int) != (ps.length : Int)) = true by simp; omega]; have e : rnk (sets ps) bs = none := by
    cases hr : rnk (sets ps) bs with
    | none => rfl
    | some r => exact (c (by have := Oi hr; rwa [Fp] at this)).elim
   rw [e]; exact jT
end Go.Proofs.PBS
end
section
namespace Go.Proofs.PBS
open Go.RowKit Go.Proofs.Zw.PrintWords Go.Proofs.Zw.PrintLast Go.Proofs.Zw.PrintMore Go.Proofs.I Go.Proofs.LT Go.Proofs.PB3
set_option linter.unusedVariables false
set_option linter.unusedSimpArgs false
noncomputable def cntS (ps : List (List Sp)) (a : Int) : Int := if Cu ps a = true then cnt (sets ps) else 0
noncomputable def okB (ps : List (List Sp)) (a k : Int) : Bool := decide (0 ≤ k ∧ k < cntS ps a)
noncomputable def unS (ps : List (List Sp)) (a k : Int) : List Int := if okB ps a k = true then unr (sets ps) k else []
theorem Sy {ps : List (List Sp)} {a k : Int} (h : okB ps a k = true) : Cu ps a = true ∧ 0 ≤ k ∧ k < cnt (sets ps) := by
 have h := of_decide_eq_true h; by_cases hv : Cu ps a = true
 ·have e : cntS ps a = cnt (sets ps) := if_pos hv; exact ⟨hv, h.1, by omega⟩
 ·have e : cntS ps a = 0 := if_neg hv; omega
theorem Pz (ps : List (List Sp)) (a k : Int) (hI : In2 ps) : Ev (fun n => Bi.f n ps a k) (unS ps a k, okB ps a k) := by
 cases h : okB ps a k
 ·have := Ub ps a k hI (of_decide_eq_false h); simpa [unS, h] using this
 ·obtain ⟨hv, h0, h1⟩ := Sy h; have := Ry hI hv h0 h1; simpa [unS, h] using this
end Go.Proofs.PBS
namespace Go.Proofs.Pure
open Go.Proofs.I Go.Proofs.Zw.PrintWords
end Go.Proofs.Pure
end
section
namespace Go.Proofs.PBS
open Go.RowKit Go.Proofs.Zw.PrintWords Go.Proofs.Zw.PrintLast Go.Proofs.Zw.PrintMore Go.Proofs.I Go.Proofs.LT Go.Proofs.PB3
set_option linter.unusedVariables false
set_option linter.unusedSimpArgs false
theorem Vs {α : Type} {g : Nat → Nat → Option α} {v : Nat → α} : ∀ {N : Nat}, (∀ i, i < N → Ev (g i) (v i)) → ∃ K, ∀ k, K ≤ k → ∀ i, i < N → g i k = some (v i)
 | 0, _ => ⟨0, fun _ _ i hi => by omega⟩
 | N + 1, h => by
  obtain ⟨K, hK⟩ := Vs (N := N) (fun i hi => h i (by omega)); obtain ⟨K', hK'⟩ := h N (by omega); refine ⟨max K K', fun k hk i hi => ?_⟩; rcases Nat.lt_or_ge i N with c | c
  ·exact hK k (by omega) i c
  ·obtain rfl : i = N := by omega
   exact hK' k (by omega)
theorem memI_R (l : List S95) (fr : Int) : memI l fr = memR (l.map L95) fr := by
 unfold memI memR; rw [List.flatMap_map]; rfl
theorem Um (p : List Sp) (hp : In1 p) (hk : Dc p = true) : ∃ s, Ev (fun k => Ee.f k p) s ∧ s.map L95 = runs p ∧ s.length ≤ 4611686018427387904 ∧ (∀ r ∈ s, r.f1 ≤ 4611686018427387904 ∧ -4611686018427387904 ≤ r.f0) := by
 obtain ⟨s, s1, s2⟩ := Hx p hp; obtain ⟨hv, hn⟩ := Gr s2; have hs := Dp hk; rw [show p.map L58 = runs p from rfl, setL_of hs.1] at s2; refine ⟨s, s1, s2, ?_, ?_⟩
 ·have e : s.length = p.length := by have := congrArg List.length s2; rw [List.length_map] at this; rw [this]; exact List.length_map ..
  unfold In1 at hp; omega
 ·intro r hr; have := hs.1.each (L95 r) (by rw [← s2]; exact List.mem_map_of_mem hr); simp only [L95] at this; omega
theorem Oy (ps : List (List Sp)) (n : Nat) (hn : n < ps.length) : sets (ps.take (n + 1)) = sets (ps.take n) ++ [runs ps[n]] := by
 unfold sets; rw [List.take_succ_eq_append_getElem hn, List.map_append]; rfl
theorem Qu (ps : List (List Sp)) (hk : ps.all Dc = true) (L : Nat → List S95) (hL : ∀ t (h : t < ps.length), (L t).map L95 = runs ps[t]) : ∀ (n : Nat) (q : Int) (r : List Int), n ≤ ps.length → 0 ≤ q → q < cnt (sets (ps.take n)) →
 Oz ps L n (unr (sets (ps.take n)) q ++ r) = if q + 1 < cnt (sets (ps.take n)) then some (unr (sets (ps.take n)) (q + 1) ++ r) else none
 | 0, q, r, _, h0, h1 => by
  rw [show cnt (sets (ps.take 0)) = 1 from Hi] at h1 ⊢; rw [if_neg (by omega)]; rfl
 | n + 1, q, r, hn, h0, h1 => by
  have hnl : n < ps.length := by omega
  have hp := Gb hk hnl; have hs := Dp hp; have hz := Hj hs.1; have hg : Is (sets (ps.take n)) := Ib (List.all_eq_true.2 fun x hx => List.all_eq_true.1 hk x (List.mem_of_mem_take hx)); have hcp := Eu hg; rw [Oy ps n hnl, Ls] at h1; have hdl : q / size (runs ps[n]) < cnt (sets (ps.take n)) := Int.ediv_lt_of_lt_mul (by omega) h1; have hd0 : 0 ≤ q / size (runs ps[n]) := Int.ediv_nonneg h0 (by omega); have m0 := Int.emod_nonneg q (show size (runs ps[n]) ≠ 0 by omega); have m1 := Int.emod_lt_of_pos q (show 0 < size (runs ps[n]) by omega); have em := Int.mul_ediv_add_emod q (size (runs ps[n])); rw [Oy ps n hnl, Ls, Mb hs.2 hg h0 h1]; have hlen : (unr (sets (ps.take n)) (q / size (runs ps[n]))).length = n := by rw [Kx, Fp, List.length_take]; omega
  have eg : (unr (sets (ps.take n)) (q / size (runs ps[n])) ++ [selV (runs ps[n]) (q % size (runs ps[n]))] ++ r).getD n 0 = selV (runs ps[n]) (q % size (runs ps[n])) := by
   simp [List.getD, hlen]
  have es : ∀ y, (unr (sets (ps.take n)) (q / size (runs ps[n])) ++ [selV (runs ps[n]) (q % size (runs ps[n]))] ++ r).set n y = unr (sets (ps.take n)) (q / size (runs ps[n])) ++ (y :: r) := fun y => by
   rw [List.append_assoc, List.set_append_right _ _ (by omega), hlen]; simp
  show (match memI (L n) ((unr (sets (ps.take n)) (q / size (runs ps[n])) ++ [selV (runs ps[n]) (q % size (runs ps[n]))] ++ r).getD n 0 + 1) with
   | x :: _ => some ((unr (sets (ps.take n)) (q / size (runs ps[n])) ++ [selV (runs ps[n]) (q % size (runs ps[n]))] ++ r).set n (x % 256))
   | [] => Oz ps L n ((unr (sets (ps.take n)) (q / size (runs ps[n])) ++ [selV (runs ps[n]) (q % size (runs ps[n]))] ++ r).set n ((Ch (ps.getD n []) 0).f0 % 256))) = _
  rw [eg, memI_R, hL n hnl, es]; by_cases c : q % size (runs ps[n]) + 1 < size (runs ps[n])
  ·obtain ⟨t, ht⟩ := memR_up hs.1 m0 c; have hr := hs.1.range (LT.Fn hs.1 (show 0 ≤ q % size (runs ps[n]) + 1 by omega) c).1; have e1 : (q + 1) / size (runs ps[n]) = q / size (runs ps[n]) ∧ (q + 1) % size (runs ps[n]) = q % size (runs ps[n]) + 1 :=
    (Int.ediv_emod_unique (a := q + 1) (b := size (runs ps[n])) (by omega)).2 ⟨by omega, by omega, c⟩
   have hq : q + 1 < cnt (sets (ps.take n)) * size (runs ps[n]) := by
    have h2 := Int.mul_le_mul_of_nonneg_right (show q / size (runs ps[n]) + 1 ≤ cnt (sets (ps.take n)) by omega) (show 0 ≤ size (runs ps[n]) by omega); rw [Int.add_mul, Int.one_mul, Int.mul_comm] at h2; omega
   rw [ht, if_pos hq, Mb hs.2 hg (by omega) hq, e1.1, e1.2]; simp only; rw [es, Int.emod_eq_of_lt hr.1 (by omega)]; simp
  ·rw [Ut hs.1 m0 m1 c]; simp only; have e1 : (q + 1) / size (runs ps[n]) = q / size (runs ps[n]) + 1 ∧ (q + 1) % size (runs ps[n]) = 0 :=
    (Int.ediv_emod_unique (a := q + 1) (b := size (runs ps[n])) (by omega)).2 ⟨by rw [Int.mul_add, Int.mul_one]; omega, by omega, by omega⟩
   have ih := Qu ps hk L hL n (q / size (runs ps[n])) (selV (runs ps[n]) 0 :: r) (by omega) hd0 hdl; have hlo : (Ch (ps.getD n []) 0).f0 % 256 = selV (runs ps[n]) 0 := by
    have hne : ∃ x t, ps[n] = x :: t := by
     cases h : ps[n] with
     | nil => rw [h] at hp; simp [Dc] at hp
     | cons x t => exact ⟨x, t, rfl⟩
    obtain ⟨x, t, hx⟩ := hne; have hv := hs.1; rw [hx] at hv; have e2 := Sl (r := L58 x) (t := runs t) hv; rw [hx]; show _ = selV (L58 x :: runs t) 0; rw [e2]; have hr := hv.each (L58 x) (List.mem_cons_self); have e3 : ps.getD n [] = x :: t := by simp [List.getD, hnl, hx]
    rw [e3]; show x.f0 % 256 = x.f0; have h3 : 0 ≤ x.f0 := hr.1; have h4 : x.f0 ≤ x.f1 := hr.2.1; have h5 : x.f1 ≤ 255 := hr.2.2; exact Int.emod_eq_of_lt h3 (by omega)
   rw [hlo, ih]; have hiff : (q / size (runs ps[n]) + 1 < cnt (sets (ps.take n))) ↔ (q + 1 < cnt (sets (ps.take n)) * size (runs ps[n])) := by
    have e2 : q + 1 = (q / size (runs ps[n]) + 1) * size (runs ps[n]) := by rw [Int.add_mul, Int.one_mul, Int.mul_comm]; omega
    rw [e2]; exact (Int.mul_lt_mul_right (by omega)).symm
   by_cases d : q / size (runs ps[n]) + 1 < cnt (sets (ps.take n))
   ·rw [if_pos d, if_pos (hiff.1 d), Mb hs.2 hg (by omega) (hiff.1 d), e1.1, e1.2]; simp
   ·rw [if_neg d, if_neg (fun h => d (hiff.2 h))]
noncomputable def nSq (ps : List (List Sp)) (a fr : Int) : Nat := (cntS ps a - max fr 0).toNat
noncomputable def sqOf (ps : List (List Sp)) (fr : Int) (j : Nat) : List Int := unr (sets ps) (max fr 0 + j)
theorem allF_ev (ps : List (List Sp)) (a fr : Int) (hI : In2 ps) : ∃ K L, ∀ k, K ≤ k → AllF k ps a fr (unS ps a (max fr 0)) (okB ps a (max fr 0)) (nSq ps a fr) (sqOf ps fr) L := by
 obtain ⟨K0, h0⟩ := Pz ps a (max fr 0) hI; cases hb : okB ps a (max fr 0)
 ·rw [hb] at h0; refine ⟨K0, fun _ => [], fun k hk_ => ⟨h0 _ hk_, fun _ => ?_, fun h => by cases h⟩⟩; have := of_decide_eq_false hb; unfold nSq; omega
 ·rw [hb] at h0; obtain ⟨hv, u0, u1⟩ := Sy hb; obtain ⟨⟨l1, l2⟩, ha, hk, hg, hcn⟩ := De hv; have hcs : cntS ps a = cnt (sets ps) := by unfold cntS; rw [if_pos hv]
  have hset : ∀ t, ∃ s, ∀ h : t < ps.length, Ev (fun k => Ee.f k (ps.getD t [])) s ∧ s.map L95 = runs ps[t] ∧ s.length ≤ 4611686018427387904 ∧ (∀ r ∈ s, r.f1 ≤ 4611686018427387904 ∧ -4611686018427387904 ≤ r.f0) := fun t => by
   by_cases h : t < ps.length
   ·obtain ⟨s, s1, s2, s3, s4⟩ := Um ps[t] (hI.2 _ (List.getElem_mem h)) (Gb hk h); have e : ps.getD t [] = ps[t] := by simp [List.getD, h]
    exact ⟨s, fun _ => ⟨by rw [e]; exact s1, s2, s3, s4⟩⟩
   ·exact ⟨[], fun h' => absurd h' h⟩
  have hL := fun t => (hset t).choose_spec
  generalize hLe : (fun t => (hset t).choose) = L at hL; have hL' : ∀ t, ∀ h : t < ps.length, Ev (fun k => Ee.f k (ps.getD t [])) (L t) ∧ (L t).map L95 = runs ps[t] ∧ (L t).length ≤ 4611686018427387904 ∧ (∀ r ∈ L t, r.f1 ≤ 4611686018427387904 ∧ -4611686018427387904 ≤ r.f0) := fun t h => by
   have := hL t h; rw [← hLe]; exact this
  obtain ⟨K1, h1⟩ := Vs (g := fun t k => Ee.f k (ps.getD t [])) (v := L) (N := ps.length) (fun t h => (hL' t h).1); have hN : ((nSq ps a fr : Nat) : Int) = cnt (sets ps) - max fr 0 := by unfold nSq; rw [hcs]; omega
  refine ⟨max K0 K1, L, fun k hk_ => ⟨h0 _ (by omega), (fun h => by cases h), fun _ => ⟨by omega, ?_, by omega, by omega, by omega, fun t ht => ⟨h1 _ (by omega) t ht, (hL' t ht).2.2.1, (hL' t ht).2.2.2, ?_⟩, fun j hj => ⟨?_, ?_, ?_⟩⟩⟩⟩
  ·unfold unS sqOf; rw [if_pos hb]; congr 1
   omega
  ·have hp := Gb hk ht; have e : ps.getD t [] = ps[t] := by simp [List.getD, ht]
   rw [e]; simp only [Dc, Bool.and_eq_true, Bool.not_eq_true', decide_eq_false_iff_not] at hp; omega
  ·unfold sqOf; rw [Kx, Fp]
  ·exact Mc hg (by omega) (by omega)
  ·have := Qu ps hk L (fun t h => (hL' t h).2.1) ps.length (max fr 0 + j) [] (Nat.le_refl _) (by omega) (by rw [List.take_length]; omega); rw [List.take_length, List.append_nil, List.append_nil] at this; unfold sqOf; rw [this]; by_cases c : j + 1 < nSq ps a fr
   ·rw [if_pos c, if_pos (by omega)]; congr 2
    omega
   ·rw [if_neg c, if_neg (by omega)]
end Go.Proofs.PBS
end
section
namespace Go.Proofs.PBS
open Go.RowKit Go.Proofs.Zw.PrintWords Go.Proofs.Zw.PrintLast Go.Proofs.Zw.PrintMore Go.Proofs.I Go.Proofs.LT Go.Proofs.PB3
set_option linter.unusedVariables false
set_option linter.unusedSimpArgs false
theorem Pw (p : List Sp) (h : In1 p) : cloneSpan.f p = some p := by
 unfold In1 at h; simp only [cloneSpan.f, if_pos (show p.length < 8796093022208 by omega)]
theorem Qx (ss out : List Sh) (i : Nat) (ps : List (List Sp)) (f : Int) (hp : In2 ps) (ho : out.length < 4398046511104) (hi : i ≤ 4398046511104) {r : List Sh} (h : Ev (fun k => Br.l0 k ss (ss.length : Int) ((i + 1 : Nat) : Int) (out ++ [⟨ps, f⟩])) r) : ∀ (n j : Nat), j + n = ps.length →
 Ev (fun k => Br.l1 k ss (ss.length : Int) (i : Int) ps (ps.length : Int) (j : Int) out (ps.take j) f) r
 | 0, j, hj => by
  obtain rfl : j = ps.length := by omega
  have hw : Aa (wrap64 ((i : Int) + 1) = ((i + 1 : Nat) : Int)) := Aa.mk (by rw [w64 (by omega) (by omega)]; rfl); refine Bq ?_; simp only [Br.l1, if_neg (show ¬ ((ps.length : Nat) : Int) < ((ps.length : Nat) : Int) by omega), if_pos ho, hw.out, List.take_length]; exact h
 | n + 1, j, hj => by
  have hjl : j < ps.length := by omega
  have h1 := hp.1; have hw : Aa (wrap64 ((j : Int) + 1) = ((j + 1 : Nat) : Int)) := Aa.mk (by rw [w64 (by omega) (by omega)]; rfl); have ih := Qx ss out i ps f hp ho hi h n (j + 1) (by omega); have e : ps.take j ++ [ps[j]] = ps.take (j + 1) := (List.take_succ_eq_append_getElem hjl).symm; refine Bq ?_; simp only [Br.l1, if_pos (show (j : Int) < ((ps.length : Nat) : Int) by omega), if_pos (show (0 : Int) ≤ (j : Int) by omega), Jt ps j hjl, Pw _ (hp.2 _ (List.getElem_mem hjl)), Option.bind_some, if_pos (show (ps.take j).length < 5864062014805 by rw [List.length_take]; omega), hw.out, e]; exact ih
theorem Nr (ss : List Sh) (hI : InS ss) : ∀ (n i : Nat), i + n = ss.length → Ev (fun k => Br.l0 k ss (ss.length : Int) (i : Int) (ss.take i)) ss
 | 0, i, hi => by
  refine Bq ?_; simp only [Br.l0, if_neg (show ¬ (i : Int) < (ss.length : Int) by omega)]; rw [List.take_of_length_le (by omega)]; exact Cb _
 | n + 1, i, hi => by
  have hil : i < ss.length := by omega
  have h1 := hI.1; have ih := Nr ss hI n (i + 1) (by omega); have er : Ad ss (i : Int) = ss[i] := by simp [Ad, List.getD, hil]
  rw [List.take_succ_eq_append_getElem hil] at ih; have h := Qx ss (ss.take i) i (ss[i]).f0 (ss[i]).f1 (hI.2 _ (List.getElem_mem hil)) (by rw [List.length_take]; omega) (by omega) ih (ss[i]).f0.length 0 (by omega); refine Bq ?_; simp only [Br.l0, if_pos (show (i : Int) < (ss.length : Int) by omega), if_pos (show (0 : Int) ≤ (i : Int) by omega), er]; exact h
theorem Qw (ss : List Sh) (hI : InS ss) : Ev (fun k => Br.f k ss) ss := Nr ss hI ss.length 0 (by omega)
theorem Sm (ps : List (List Sp)) (a : Int) (hI : In2 ps) : Ev (fun k => Br.f k [⟨ps, a⟩]) [⟨ps, a⟩] := Qw _ ⟨by simp, fun p hp => by rw [List.mem_singleton.1 hp]; exact hI⟩
end Go.Proofs.PBS
end
section
namespace Go.Proofs.PBS
open Go.RowKit Go.Proofs.Zw.PrintWords Go.Proofs.Zw.PrintLast Go.Proofs.Zw.PrintMore Go.Proofs.I Go.Proofs.LT Go.Proofs.PB3
set_option linter.unusedVariables false
set_option linter.unusedSimpArgs false
theorem Qj {k n c : Int} (hc : 0 < c) (hn : 0 < n) : k / (n * c) = k / c / n ∧ k % (n * c) = (k / c % n) * c + k % c := by
 have h1 := Int.emod_nonneg k (show c ≠ 0 by omega); have h2 := Int.emod_lt_of_pos k hc; have h3 := Int.emod_nonneg (k / c) (show n ≠ 0 by omega); have h4 := Int.emod_lt_of_pos (k / c) hn; have e1 := Int.ediv_mul_add_emod k c; have e2 := Int.ediv_mul_add_emod (k / c) n; have m0 := Int.mul_nonneg h3 (show 0 ≤ c by omega); have m1 := Int.mul_le_mul_of_nonneg_right (show k / c % n + 1 ≤ n by omega) (show 0 ≤ c by omega); rw [Int.add_mul, Int.one_mul] at m1; refine (Int.ediv_emod_unique (Int.mul_pos hn hc)).2 ⟨?_, by omega, by omega⟩; have e3 : n * c * (k / c / n) = k / c / n * n * c := by rw [Int.mul_comm, Int.mul_assoc]
 rw [e3]; have e4 : k / c * c = (k / c / n * n + k / c % n) * c := by rw [e2]
 rw [Int.add_mul] at e4; omega
theorem Ph (p : List Sp) (d : Int) (hi : In1 p) (hk : Dc p = true) (h0 : 0 ≤ d) (h1 : d < size (runs p)) : Ev (fun k => Dn.f k p d) (selV (runs p) d, true) := by
 have hs := Dp hk; obtain ⟨r, r1, r2⟩ := Pg p d hi; rw [show p.map L58 = runs p from rfl, setL_of hs.1] at r2; have hS := LT.Fn hs.1 h0 h1; obtain rfl := Sel.uniq hs.1 r2 (.inl ⟨_, hS.1, hS.2, rfl⟩); exact r1
theorem Js (ps : List (List Sp)) (a K : Int) (hI : In2 ps) (hk : ps.all Dc = true) (hl : ps.length ≤ 8) (hc : cnt (sets ps) ≤ 1073741824) (k0 : 0 ≤ K) (k1 : K < cnt (sets ps)) : ∀ (i : Nat), i ≤ ps.length →
 Ev (fun k => Aj.l0 k (K / cnt (sets (ps.drop i))) ((i : Int) - 1) (List.replicate i 0 ++ unr (sets (ps.drop i)) (K % cnt (sets (ps.drop i)))) ps a) (unr (sets ps) K, true)
 | 0, _ => by
  refine Bq ?_; rw [List.drop_zero, Int.emod_eq_of_lt k0 k1]; simp only [Aj.l0, if_neg (show ¬ (((0 : Nat) : Int) - 1 ≥ 0) by omega)]; simpa using Cb (unr (sets ps) K, true)
 | i + 1, hi => by
  have hil : i < ps.length := by omega
  have ih := Js ps a K hI hk hl hc k0 k1 i (by omega); have hg := Ib hk; have hp := Gb hk hil; have hs := Dp hp; have hz := Hj hs.1; have hpos : 1 ≤ cnt (sets (ps.drop (i + 1))) := by have := Eu (hg.drop (i + 1)); rwa [He] at this
  have hcs := Ip ps i hil; obtain ⟨e1, e2⟩ := Qj (k := K) (show 0 < cnt (sets (ps.drop (i + 1))) by omega) (show 0 < size (runs ps[i]) by omega); rw [← hcs] at e1 e2; have q0 : 0 ≤ K / cnt (sets (ps.drop (i + 1))) := Int.ediv_nonneg k0 (by omega); have q1 : K / cnt (sets (ps.drop (i + 1))) ≤ K := Int.ediv_le_self _ k0; have d0 := Int.emod_nonneg (K / cnt (sets (ps.drop (i + 1)))) (show size (runs ps[i]) ≠ 0 by omega); have d1 := Int.emod_lt_of_pos (K / cnt (sets (ps.drop (i + 1)))) (show 0 < size (runs ps[i]) by omega); have r0 := Int.emod_nonneg K (show cnt (sets (ps.drop (i + 1))) ≠ 0 by omega); have r1 := Int.emod_lt_of_pos K (show 0 < cnt (sets (ps.drop (i + 1))) by omega); have hr := hs.1.range (LT.Fn hs.1 d0 d1).1; have t1 : Int.tdiv (K / cnt (sets (ps.drop (i + 1)))) (size (runs ps[i])) = K / cnt (sets (ps.drop i)) := by rw [Int.tdiv_eq_ediv_of_nonneg q0, e1]
  have t2 : Int.tmod (K / cnt (sets (ps.drop (i + 1)))) (size (runs ps[i])) = K / cnt (sets (ps.drop (i + 1))) % size (runs ps[i]) := Int.tmod_eq_emod_of_nonneg q0; have q3 : 0 ≤ K / cnt (sets (ps.drop i)) := by rw [e1]; exact Int.ediv_nonneg q0 (by omega)
  have q4 : K / cnt (sets (ps.drop i)) ≤ K := by rw [e1]; exact Int.le_trans (Int.ediv_le_self _ q0) q1
  have hw : Aa (wrap64 (K / cnt (sets (ps.drop i))) = K / cnt (sets (ps.drop i))) := Aa.mk (w64 (by omega) (by omega)); have hw2 : Aa (wrap64 ((i : Int) - 1) = (i : Int) - 1) := Aa.mk (w64 (by omega) (by omega)); have hm : selV (runs ps[i]) (K / cnt (sets (ps.drop (i + 1))) % size (runs ps[i])) % 256 = selV (runs ps[i]) (K / cnt (sets (ps.drop (i + 1))) % size (runs ps[i])) := Int.emod_eq_of_lt hr.1 (by omega); have hlen : ((List.replicate (i + 1) (0 : Int) ++ unr (sets (ps.drop (i + 1))) (K % cnt (sets (ps.drop (i + 1))))).length : Nat) = ps.length := by
   rw [List.length_append, List.length_replicate, Kx, Fp, List.length_drop]; omega
  have eu : unr (sets (ps.drop i)) (K % cnt (sets (ps.drop i))) = selV (runs ps[i]) (K / cnt (sets (ps.drop (i + 1))) % size (runs ps[i])) :: unr (sets (ps.drop (i + 1))) (K % cnt (sets (ps.drop (i + 1)))) := by
   have e3 : (K % cnt (sets (ps.drop i))) / cnt (sets (ps.drop (i + 1))) = K / cnt (sets (ps.drop (i + 1))) % size (runs ps[i]) := by
    rw [e2, Int.add_comm, Int.add_mul_ediv_right _ _ (by omega), Int.ediv_eq_zero_of_lt r0 r1]; omega
   have e4 : (K % cnt (sets (ps.drop i))) % cnt (sets (ps.drop (i + 1))) = K % cnt (sets (ps.drop (i + 1))) := by
    rw [e2, Int.add_comm, Int.add_mul_emod_self_right, Int.emod_eq_of_lt r0 r1]
   rw [← e3, ← e4]; rw [List.drop_eq_getElem_cons hil]; exact Kg _ _ _
  refine Bq ?_; rw [show (((i + 1 : Nat) : Int) - 1) = (i : Int) by omega]; simp only [Aj.l0, if_pos (show (i : Int) ≥ 0 by omega), if_pos (show (0 : Int) ≤ (i : Int) by omega), if_pos (show (i : Int) < ((ps.length : Nat) : Int) by omega), Jt ps i hil]; refine Ev.bind (La _ (hI.2 _ (List.getElem_mem _)) hp) ?_; simp only [if_neg (show ¬ size (runs ps[i]) = 0 by omega)]; simp only [t1, t2]; refine Ev.bind (Ph _ _ (hI.2 _ (List.getElem_mem _)) hp d0 d1) ?_; simp only [hlen, if_pos (show (i : Int) < ((ps.length : Nat) : Int) by omega), hw.out, hw2.out, hm, Int.toNat_natCast, Qd]; rw [← eu]; exact ih
theorem Pf (ps : List (List Sp)) (a k : Int) (hI : In2 ps) : Ev (fun n => Aj.f n ps a k) (unS ps a k, okB ps a k) := by
 have jT : Ev (fun n => Aj.j0 n k true ps a) ([], false) := by
  refine Bq ?_; simp only [Aj.j0, if_true]; exact Cb _
 have no : okB ps a k = false → (unS ps a k, okB ps a k) = ([], false) := fun h => by rw [h]; unfold unS; rw [h]; rfl
 simp only [Aj.f]; by_cases c : k < 0
 ·simp only [if_pos c]; rw [no (decide_eq_false (by omega))]; exact jT
 ·simp only [if_neg c]; refine Ev.bind (show Ev _ (cntS ps a) from Mo ps a hI) ?_; cases h : okB ps a k
  ·have := of_decide_eq_false h; rw [decide_eq_true (show k ≥ cntS ps a by omega)]; have e := no h; rw [h] at e; rw [e]; exact jT
  ·obtain ⟨hv, h0, h1⟩ := Sy h; have h2 : 0 ≤ k ∧ k < cntS ps a := of_decide_eq_true h; obtain ⟨⟨l1, l2⟩, ⟨a1, a2⟩, hk, hg, hc⟩ := De hv; rw [decide_eq_false (show ¬ k ≥ cntS ps a by omega)]; refine Bq ?_; have := Js ps a k hI hk l2 (by omega) h0 h1 ps.length (Nat.le_refl _); rw [List.drop_length, show cnt (sets []) = 1 from Hi, Int.ediv_one, show unr (sets []) (k % 1) = [] from Od _, List.append_nil] at this; have hw2 : Aa (wrap64 ((ps.length : Int) - 1) = (ps.length : Int) - 1) := Aa.mk (w64 (by omega) (by omega)); simp only [Aj.j0, Bool.false_eq_true, if_false, if_pos (show (0 : Int) ≤ ((ps.length : Nat) : Int) by omega), Int.toNat_natCast, if_pos (show ps.length ≤ 281474976710656 by omega), Option.bind_some, List.length_replicate, hw2.out]; unfold unS; simp only [h, if_true]; exact this
theorem Pc (ps : List (List Sp)) (a : Int) (hI : In2 ps) : ∀ (n i : Nat), i + n = ps.length → Ev (fun k => As.l0 k (i : Int) ps a ps a) true
 | 0, i, hi => by
  refine Bq ?_; simp only [As.l0, if_neg (show ¬ (i : Int) < (ps.length : Int) by omega)]; exact Cb _
 | n + 1, i, hi => by
  have hil : i < ps.length := by omega
  have h2 := hI.1; have ih := Pc ps a hI n (i + 1) (by omega); have hw2 : Aa (wrap64 ((i : Int) + 1) = ((i + 1 : Nat) : Int)) := Aa.mk (by rw [w64 (by omega) (by omega)]; simp); refine Bq ?_; simp only [As.l0, if_pos (show (i : Int) < ((ps.length : Nat) : Int) by omega), if_pos (show (0 : Int) ≤ (i : Int) by omega), Jt ps i hil]; refine Ev.bind (Ih _ (hI.2 _ (List.getElem_mem _))) ?_; simp only [if_true, hw2.out]; exact ih
theorem Nn (ps : List (List Sp)) (a : Int) (hI : In2 ps) : Ev (fun k => As.f k ps a ps a) true := by
 simp only [As.f, if_true, bne_self_eq_false]; refine Bq ?_; simp only [As.j0, Bool.false_eq_true, if_false]; exact Pc ps a hI ps.length 0 (by omega)
end Go.Proofs.PBS
end
section
namespace Go.Proofs.PBS
open Go.RowKit Go.Proofs.Zw.PrintWords Go.Proofs.Zw.PrintLast Go.Proofs.Zw.PrintMore Go.Proofs.I Go.Proofs.LT Go.Proofs.PB3
set_option linter.unusedVariables false
set_option linter.unusedSimpArgs false
def C (p : Sh) : Cs := (sets p.f0, p.f1)
def cs (ss : List Sh) : List Cs := ss.map C
theorem Rg (p : Sh) : Jf (C p) = Gp p := rfl
theorem Qs : ∀ (t pre : List Sh), vS pre t = true → (∀ p ∈ t, Cu p.f0 p.f1 = true) ∧ (∀ q ∈ pre, ∀ p ∈ t, Fj p q = false) ∧ No (cs t)
 | [], _, _ => ⟨fun _ h => (by cases h), fun _ _ _ h => (by cases h), trivial⟩
 | p :: t, pre, h => by
  have h' : (Cu p.f0 p.f1 && (!(pre.any (Fj p)) && vS (pre ++ [p]) t)) = true := h; simp only [Bool.and_eq_true, Bool.not_eq_true'] at h'; obtain ⟨h1, h2, h3⟩ := h'; obtain ⟨k1, k2, k3⟩ := Qs t (pre ++ [p]) h3; refine ⟨fun q hq => ?_, fun q hq r hr => ?_, fun r hr => ?_, k3⟩
  ·rcases List.mem_cons.1 hq with rfl | hq
   ·exact h1
   ·exact k1 q hq
  ·rcases List.mem_cons.1 hr with rfl | hr
   ·cases e : Fj r q
    ·rfl
    ·rw [List.any_eq_true.2 ⟨q, hq, e⟩] at h2; cases h2
   ·exact k2 q (List.mem_append_left _ hq) r hr
  ·obtain ⟨q, hq, rfl⟩ := List.mem_map.1 hr; have e := k2 p (List.mem_append_right _ (List.mem_singleton.2 rfl)) q hq; simp only [Fj, Bool.and_eq_false_iff, decide_eq_false_iff_not] at e; rw [Rg, Rg]; show Gp p < q.f1 ∨ Gp q < p.f1; omega
theorem Ep {ss : List Sh} (h : Ed ss = true) : ss.length ≤ 32 ∧ (∀ p ∈ ss, Cu p.f0 p.f1 = true) ∧ No (cs ss) ∧ Nd (cs ss) := by
 simp only [Ed, Bool.and_eq_true, decide_eq_true_eq] at h; obtain ⟨k1, k2, k3⟩ := Qs ss [] h.2; refine ⟨h.1, k1, k3, fun p hp => ?_⟩; obtain ⟨q, hq, rfl⟩ := List.mem_map.1 hp; exact (De (k1 q hq)).2.2.2.1
theorem Gf (ss : List Sh) (i : Nat) (h : i < ss.length) : Ad ss (i : Int) = ss[i] := by simp [Ad, List.getD, h]
theorem Gq (i : Nat) (h : i ≤ 4611686018427387904) : Aa (wrap64 ((i : Int) + 1) = ((i + 1 : Nat) : Int)) := Aa.mk (by rw [w64 (by omega) (by omega)]; simp)
theorem Ll (ss : List Sh) (hI : InS ss) (i : Nat) (hi : i < ss.length) (hs : ss.length ≤ 32) (hv : ∀ p ∈ ss.take (i + 1), Cu p.f0 p.f1 = true) : ∀ (n j : Nat), j + n = i → ((ss.take j).any (Fj ss[i]) = false) →
 Ev (fun k => Au.l0 k ss (i : Int) (j : Int)) ((ss.take i).any (Fj ss[i]))
 | 0, j, hj, hno => by
  refine Bq ?_; obtain rfl : j = i := by omega
  simp only [Au.l0, if_neg (show ¬ (j : Int) < (j : Int) by omega)]; rw [hno]; exact Cb _
 | n + 1, j, hj, hno => by
  have hjl : j < ss.length := by omega
  have vi := De (hv ss[i] (by rw [List.take_succ_eq_append_getElem hi]; exact List.mem_append_right _ (List.mem_singleton.2 rfl))); have vj := De (hv ss[j] (by
   have : (ss.take (i + 1))[j]'(by simp; omega) = ss[j] := List.getElem_take ..; rw [← this]; exact List.getElem_mem _))
  have pi := Eu vi.2.2.2.1; have pj := Eu vj.2.2.2.1; have ci := Gm ss[i].f0 ss[i].f1 (hI.2 _ (List.getElem_mem _)) vi.2.2.1 vi.1.2; have cj := Gm ss[j].f0 ss[j].f1 (hI.2 _ (List.getElem_mem _)) vj.2.2.1 vj.1.2; rw [show min (cnt (sets ss[i].f0)) 1073741825 = cnt (sets ss[i].f0) by omega] at ci; rw [show min (cnt (sets ss[j].f0)) 1073741825 = cnt (sets ss[j].f0) by omega] at cj; have hw := Gq j (by omega); have wi : Aa (wrap64 (wrap64 (ss[i].f1 + cnt (sets ss[i].f0)) - 1) = Gp ss[i]) := Aa.mk (by rw [w64 (x := ss[i].f1 + cnt (sets ss[i].f0)) (by omega) (by omega), w64 (by omega) (by omega)]; rfl); have wj : Aa (wrap64 (wrap64 (ss[j].f1 + cnt (sets ss[j].f0)) - 1) = Gp ss[j]) := Aa.mk (by rw [w64 (x := ss[j].f1 + cnt (sets ss[j].f0)) (by omega) (by omega), w64 (by omega) (by omega)]; rfl); have yes : Fj ss[i] ss[j] = true → (ss.take i).any (Fj ss[i]) = true := fun h => by
   refine List.any_eq_true.2 ⟨ss[j], ?_, h⟩; have : (ss.take i)[j]'(by simp; omega) = ss[j] := List.getElem_take ..; rw [← this]; exact List.getElem_mem _
  have next : Fj ss[i] ss[j] = false → Ev (fun k => Au.l0 k ss (i : Int) (wrap64 ((j : Int) + 1))) ((ss.take i).any (Fj ss[i])) := fun h => by
   rw [hw.out]; refine Ll ss hI i hi hs hv n (j + 1) (by omega) ?_; rw [List.take_succ_eq_append_getElem hjl, List.any_append, hno]; simp [h]
  refine Bq ?_; simp only [Au.l0, if_pos (show (j : Int) < (i : Int) by omega), if_pos (show (0 : Int) ≤ (i : Int) by omega), if_pos (show (i : Int) < (ss.length : Int) by omega), if_pos (show (0 : Int) ≤ (j : Int) by omega), if_pos (show (j : Int) < (ss.length : Int) by omega), Gf ss i hi, Gf ss j hjl]; refine Ev.bind cj ?_; simp only [wj.out]; by_cases c1 : ss[i].f1 ≤ Gp ss[j]
  ·simp only [if_pos c1]; refine Ev.bind ci ?_; simp only [wi.out]; by_cases c2 : ss[j].f1 ≤ Gp ss[i]
   ·simp only [if_pos c2]; rw [yes (by simp only [Fj, decide_eq_true c1, decide_eq_true c2]; rfl)]; exact Cb _
   ·simp only [if_neg c2]; exact next (by simp only [Fj, decide_eq_false c2, Bool.and_false])
  ·simp only [if_neg c1]; exact next (by simp only [Fj, decide_eq_false c1, Bool.false_and])
theorem Jq (ss : List Sh) (hI : InS ss) (hs : ss.length ≤ 32) : ∀ (n i : Nat), i + n = ss.length → (∀ p ∈ ss.take i, Cu p.f0 p.f1 = true) →
 Ev (fun k => Az.l0 k (i : Int) ss) (vS (ss.take i) (ss.drop i))
 | 0, i, hi, hv => by
  refine Bq ?_; simp only [Az.l0, if_neg (show ¬ (i : Int) < (ss.length : Int) by omega)]; rw [List.drop_of_length_le (by omega)]; exact Cb _
 | n + 1, i, hi, hv => by
  have hil : i < ss.length := by omega
  have hw := Gq i (by omega); have e : vS (ss.take i) (ss.drop i) = (Cu ss[i].f0 ss[i].f1 && (!((ss.take i).any (Fj ss[i])) && vS (ss.take (i + 1)) (ss.drop (i + 1)))) := by
   rw [List.drop_eq_getElem_cons hil, List.take_succ_eq_append_getElem hil]; rfl
  rw [e]; refine Bq ?_; simp only [Az.l0, if_pos (show (i : Int) < (ss.length : Int) by omega), if_pos (show (0 : Int) ≤ (i : Int) by omega), Gf ss i hil]; refine Ev.bind (Lj _ _ (hI.2 _ (List.getElem_mem _))) ?_; cases hp : Cu ss[i].f0 ss[i].f1
  ·simp only [Bool.false_eq_true, if_false, Bool.false_and]; exact Cb _
  ·simp only [if_true, Bool.true_and]; have hv' : ∀ p ∈ ss.take (i + 1), Cu p.f0 p.f1 = true := fun p hq => by
    rw [List.take_succ_eq_append_getElem hil] at hq; rcases List.mem_append.1 hq with h | h
    ·exact hv p h
    ·rw [List.mem_singleton.1 h]; exact hp
   have hm := Ll ss hI i hil hs hv' i 0 (by omega) (by simp); refine Ev.bind (show Ev (fun k => Au.f k ss (i : Int)) _ from hm) ?_; cases hq : (ss.take i).any (Fj ss[i])
   ·simp only [Bool.false_eq_true, if_false, Bool.not_false, Bool.true_and, hw.out]; exact Jq ss hI hs n (i + 1) (by omega) hv'
   ·simp only [if_true, Bool.not_true, Bool.false_and]; exact Cb _
theorem Hy (ss : List Sh) (hI : InS ss) : Ev (fun k => Az.f k ss) (Ed ss) := by
 simp only [Az.f]; by_cases c : (ss.length : Int) > 32
 ·simp only [if_pos c]; rw [show Ed ss = false by simp only [Ed, decide_eq_false (show ¬ ss.length ≤ 32 by omega), Bool.false_and]]; exact Cb _
 ·simp only [if_neg c]; rw [show Ed ss = vS [] ss by simp only [Ed, decide_eq_true (show ss.length ≤ 32 by omega), Bool.true_and]]; simpa using Jq ss hI (by omega) ss.length 0 (by omega) (by simp)
theorem Nv (ss : List Sh) (hI : InS ss) : ∀ (n i : Nat), i + n = ss.length → Ev (fun k => Bg.l0 k (i : Int) ss (ss.take i)) ss
 | 0, i, hi => by
  refine Bq ?_; simp only [Bg.l0, if_neg (show ¬ (i : Int) < (ss.length : Int) by omega)]; rw [List.take_of_length_le (by omega)]; exact Cb _
 | n + 1, i, hi => by
  have hil : i < ss.length := by omega
  have h2 := hI.1; have hw := Gq i (by omega); have ih := Nv ss hI n (i + 1) (by omega); rw [List.take_succ_eq_append_getElem hil] at ih; refine Bq ?_; simp only [Bg.l0, if_pos (show (i : Int) < (ss.length : Int) by omega), if_pos (show (0 : Int) ≤ (i : Int) by omega), Gf ss i hil]; refine Ev.bind (Copy_is _ _ (hI.2 _ (List.getElem_mem _))) ?_; simp only [if_pos (show (ss.take i).length < 4398046511104 by rw [List.length_take]; omega), hw.out]; exact ih
theorem Vj (ss : List Sh) (hI : InS ss) : Ev (fun k => Bg.f k ss) ss := by
 have := Nv ss hI ss.length 0 (by omega); rw [List.take_zero] at this; exact this
theorem Nq (ss : List Sh) (hI : InS ss) : ∀ (n i : Nat), i + n = ss.length → Ev (fun k => Aq.l0 k (i : Int) ss ss) true
 | 0, i, hi => by
  refine Bq ?_; simp only [Aq.l0, if_neg (show ¬ (i : Int) < (ss.length : Int) by omega)]; exact Cb _
 | n + 1, i, hi => by
  have hil : i < ss.length := by omega
  have h2 := hI.1; have hw := Gq i (by omega); refine Bq ?_; simp only [Aq.l0, if_pos (show (i : Int) < (ss.length : Int) by omega), if_pos (show (0 : Int) ≤ (i : Int) by omega), Gf ss i hil]; refine Ev.bind (Nn _ _ (hI.2 _ (List.getElem_mem _))) ?_; simp only [if_true, hw.out]; exact Nq ss hI n (i + 1) (by omega)
theorem Rz (ss : List Sh) (hI : InS ss) : Ev (fun k => Aq.f k ss ss) true := by
 simp only [Aq.f, if_true]; exact Nq ss hI ss.length 0 (by omega)
theorem Sz {ps : List (List Sp)} {a u : Int} (hv : Cu ps a = true) : okB ps a (u - a) = hitC u (sets ps, a) := by
 unfold okB hitC cntS; rw [if_pos hv, Bool.eq_iff_iff, decide_eq_true_iff, Bool.and_eq_true, decide_eq_true_iff, decide_eq_true_iff]; show 0 ≤ u - a ∧ _ ↔ a ≤ u ∧ _; constructor <;> rintro ⟨h1, h2⟩ <;> exact ⟨by omega, h2⟩
theorem Pt (p : Cs) (t : List Cs) (u : Int) : encC (p :: t) u = if hitC u p = true then some (unr p.1 (u - p.2)) else encC t u := rfl
theorem Oo (ss : List Sh) (i : Nat) (h : i < ss.length) : cs (ss.drop i) = C ss[i] :: cs (ss.drop (i + 1)) := by rw [List.drop_eq_getElem_cons h]; rfl
theorem Ob {x : Int} (h : (Lit.int .i64 x).wf = true) : -9223372036854775808 ≤ x ∧ x ≤ 9223372036854775807 := by
 simp [Lit.wf] at h; exact ⟨h.1, h.2⟩
theorem Mw (ss : List Sh) (u : Int) (hI : InS ss) (hs : ss.length ≤ 32) (hv : ∀ p ∈ ss, Cu p.f0 p.f1 = true) (hu : (Lit.int .i64 u).wf = true) : ∀ (n i : Nat), i + n = ss.length →
 Ev (fun k => Cr.l0 k u ss (ss.length : Int) (i : Int)) ((encC (cs (ss.drop i)) u).getD [])
 | 0, i, hi => by
  refine Bq ?_; simp only [Cr.l0, if_neg (show ¬ (i : Int) < (ss.length : Int) by omega)]; rw [List.drop_of_length_le (by omega)]; exact Cb _
 | n + 1, i, hi => by
  have hil : i < ss.length := by omega
  have hw := Gq i (by omega); have hur := Ob hu; have vi := hv _ (List.getElem_mem hil); have vg := De vi; have ih := Mw ss u hI hs hv hu n (i + 1) (by omega); rw [Oo ss i hil, Pt]; refine Bq ?_; simp only [Cr.l0, if_pos (show (i : Int) < (ss.length : Int) by omega), if_pos (show (0 : Int) ≤ (i : Int) by omega), Gf ss i hil, hw.out]; by_cases c : u < ss[i].f1
  ·simp only [if_pos c, if_neg (show ¬ hitC u (C ss[i]) = true by rw [Fv]; show ¬ (ss[i].f1 ≤ u ∧ _); omega)]; exact ih
  ·have w1 : Aa (wrap64 (u - ss[i].f1) = u - ss[i].f1) := Aa.mk (w64 (by omega) (by omega)); simp only [if_neg c, w1.out]; refine Ev.bind (Pz _ _ _ (hI.2 _ (List.getElem_mem _))) ?_; have e := Sz (u := u) vi; rw [show (sets ss[i].f0, ss[i].f1) = C ss[i] from rfl] at e; simp only [unS, e]; cases h : hitC u (C ss[i])
   ·simp only [Bool.false_eq_true, if_false]; exact ih
   ·have hlen : ¬ (unr (sets ss[i].f0) (u - ss[i].f1)).length = 0 := by rw [Kx, Fp]; have := vg.1; omega
    simp only [if_true, if_neg hlen]; exact Cb _
theorem Tp (ss : List Sh) (u : Int) (hI : InS ss) (h : Ed ss = true) (hu : (Lit.int .i64 u).wf = true) : Ev (fun k => Cr.f k ss u) ((encC (cs ss) u).getD []) := by
 obtain ⟨h1, h2, _⟩ := Ep h; have := Mw ss u hI h1 h2 hu ss.length 0 (by omega); rw [List.drop_zero] at this; exact this
theorem Ps (ss : List Sh) (u : Int) (hI : InS ss) (hs : ss.length ≤ 32) (hv : ∀ p ∈ ss, Cu p.f0 p.f1 = true) : ∀ (n i : Nat), i + n = ss.length →
 ∃ r, Ev (fun k => Ba.l0 k u (i : Int) ss) r ∧ ((r = -1 ∧ encC (cs (ss.drop i)) u = none) ∨ ∃ (j : Nat) (hj : j < ss.length), r = (j : Int) ∧ hitC u (C ss[j]) = true ∧ encC (cs (ss.drop i)) u = some (unr (sets ss[j].f0) (u - ss[j].f1)))
 | 0, i, hi => by
  refine ⟨-1, Bq ?_, .inl ⟨rfl, by rw [List.drop_of_length_le (by omega)]; rfl⟩⟩; simp only [Ba.l0, if_neg (show ¬ (i : Int) < (ss.length : Int) by omega)]; exact Cb _
 | n + 1, i, hi => by
  have hil : i < ss.length := by omega
  have hw := Gq i (by omega); have vi := hv _ (List.getElem_mem hil); have vg := De vi; have pi := Eu vg.2.2.2.1; have ci := Gm ss[i].f0 ss[i].f1 (hI.2 _ (List.getElem_mem _)) vg.2.2.1 vg.1.2; rw [show min (cnt (sets ss[i].f0)) 1073741825 = cnt (sets ss[i].f0) by omega] at ci; have wi : Aa (wrap64 (wrap64 (ss[i].f1 + cnt (sets ss[i].f0)) - 1) = Gp ss[i]) := Aa.mk (by rw [w64 (x := ss[i].f1 + cnt (sets ss[i].f0)) (by omega) (by omega), w64 (by omega) (by omega)]; rfl); obtain ⟨r, ih, ihr⟩ := Ps ss u hI hs hv n (i + 1) (by omega); have hlo : Gp ss[i] = ss[i].f1 + cnt (sets ss[i].f0) - 1 := rfl; have e1 : (C ss[i]).2 = ss[i].f1 ∧ (C ss[i]).1 = sets ss[i].f0 := ⟨rfl, rfl⟩; have key : ∀ g : Nat → Option Int, (hitC u (C ss[i]) = true → Ev g (i : Int)) → (hitC u (C ss[i]) = false → Ev g r) →
   ∃ r, Ev g r ∧ ((r = -1 ∧ encC (cs (ss.drop i)) u = none) ∨ ∃ (j : Nat) (hj : j < ss.length), r = (j : Int) ∧ hitC u (C ss[j]) = true ∧ encC (cs (ss.drop i)) u = some (unr (sets ss[j].f0) (u - ss[j].f1))) := fun g ga gb => by
   rw [Oo ss i hil, Pt]; cases hh : hitC u (C ss[i])
   ·exact ⟨r, gb hh, ihr⟩
   ·exact ⟨_, ga hh, .inr ⟨i, hil, rfl, hh, rfl⟩⟩
  refine key _ (fun hh => Bq ?_) (fun hh => Bq ?_)
  ·have h' := Fv.1 hh; rw [e1.1, e1.2] at h'; simp only [Ba.l0, if_pos (show (i : Int) < (ss.length : Int) by omega), if_pos (show (0 : Int) ≤ (i : Int) by omega), Gf ss i hil, if_pos (show u ≥ ss[i].f1 by omega)]; refine Ev.bind ci ?_; simp only [wi.out, if_pos (show u ≤ Gp ss[i] by omega)]; exact Cb _
  ·have h' : ¬ (ss[i].f1 ≤ u ∧ u - ss[i].f1 < cnt (sets ss[i].f0)) := fun h => by
    have : hitC u (C ss[i]) = true := Fv.2 h; rw [hh] at this; cases this
   simp only [Ba.l0, if_pos (show (i : Int) < (ss.length : Int) by omega), if_pos (show (0 : Int) ≤ (i : Int) by omega), Gf ss i hil, hw.out]; by_cases c : u ≥ ss[i].f1
   ·simp only [if_pos c]; refine Ev.bind ci ?_; simp only [wi.out, if_neg (show ¬ u ≤ Gp ss[i] by omega)]; exact ih
   ·simp only [if_neg c]; exact ih
def ofR : Option (List Int) → List Int × Bool
 | some b => (b, true)
 | none => ([], false)
theorem Uo (ss : List Sh) (u : Int) (hI : InS ss) (h : Ed ss = true) (hu : (Lit.int .i64 u).wf = true) : Ev (fun k => Bx.f k ss u) (ofR (encC (cs ss) u)) := by
 obtain ⟨h1, h2, _⟩ := Ep h; obtain ⟨r, g1, g2⟩ := Ps ss u hI h1 h2 ss.length 0 (by omega); rw [List.drop_zero] at g2; have hur := Ob hu; simp only [Bx.f]; refine Ev.bind (show Ev (fun k => Ba.f k ss u) r from g1) ?_; rcases g2 with ⟨rfl, e⟩ | ⟨j, hj, rfl, hh, e⟩
 ·rw [e]; simp only [if_pos (show (-1 : Int) < 0 by omega)]; exact Cb _
 ·have vj := h2 _ (List.getElem_mem hj); have vg := De vj; have h' := Fv.1 hh; have w1 : Aa (wrap64 (u - ss[j].f1) = u - ss[j].f1) := Aa.mk (by
   have h3 : ss[j].f1 ≤ u := h'.1; exact w64 (by omega) (by omega))
  have eo := Sz (u := u) vj; rw [show (sets ss[j].f0, ss[j].f1) = C ss[j] from rfl, hh] at eo; rw [e]; simp only [if_neg (show ¬ (j : Int) < 0 by omega), if_pos (show (0 : Int) ≤ (j : Int) by omega), if_pos (show (j : Int) < (ss.length : Int) by omega), Gf ss j hj, w1.out]; refine Ev.bind (Pf _ _ _ (hI.2 _ (List.getElem_mem _))) ?_; simp only [unS, eo, if_true]; exact Cb _
def decR : Option Int → Int × Int
 | some v => (v, 0)
 | none => (0, 100)
def bst : Option Int → Int
 | some v => v
 | none => -1
theorem Hv (ss : List Sh) (bs : List Int) (hI : InS ss) (hb : ∀ b ∈ bs, 0 ≤ b ∧ b ≤ 255) (hs : ss.length ≤ 32) (hv : ∀ p ∈ ss, Cu p.f0 p.f1 = true) : ∀ (n i : Nat) (best : Option Int), i + n = ss.length → (∀ v, best = some v → 0 ≤ v) →
 Ev (fun k => Bp.l0 k bs (bst best) ss (ss.length : Int) (i : Int)) (decR (decC bs best (cs (ss.drop i))))
 | 0, i, best, hi, hp => by
  refine Bq ?_; simp only [Bp.l0, if_neg (show ¬ (i : Int) < (ss.length : Int) by omega)]; rw [List.drop_of_length_le (by omega)]; cases best with
  | none => simp only [bst, if_pos (show (-1 : Int) < 0 by omega)]; exact Cb (decR none)
  | some v => have := hp v rfl; simp only [if_neg (show ¬ bst (some v) < 0 from (show ¬ v < 0 by omega))]; exact Cb (decR (some v))
 | n + 1, i, best, hi, hp => by
  have hil : i < ss.length := by omega
  have hw := Gq i (by omega); have vi := hv _ (List.getElem_mem hil); have vg := De vi; rw [Oo ss i hil]; show Ev _ (decR (decC bs (Md bs (C ss[i]) best) (cs (ss.drop (i + 1))))); refine Bq ?_; simp only [Bp.l0, if_pos (show (i : Int) < (ss.length : Int) by omega), if_pos (show (0 : Int) ≤ (i : Int) by omega), Gf ss i hil, hw.out]; refine Ev.bind (Rank_is _ _ bs (hI.2 _ (List.getElem_mem _)) hb) ?_; unfold rkS; rw [if_pos vi]; have e1 : (C ss[i]).2 = ss[i].f1 ∧ (C ss[i]).1 = sets ss[i].f0 := ⟨rfl, rfl⟩; unfold Md; rw [e1.1, e1.2]; cases hr : rnk (sets ss[i].f0) bs with
  | none =>
   simp only [rkR, Bool.false_eq_true, if_false]; exact Hv ss bs hI hb hs hv n (i + 1) best (by omega) hp
  | some r =>
   obtain ⟨r0, r1, _⟩ := Oc vg.2.2.2.1 hr; have w1 : Aa (wrap64 (ss[i].f1 + r) = ss[i].f1 + r) := Aa.mk (w64 (by omega) (by omega)); simp only [rkR, if_true, w1.out]; cases best with
   | none =>
    simp only [bst, if_pos (show (-1 : Int) < 0 by omega)]; exact Hv ss bs hI hb hs hv n (i + 1) (some (ss[i].f1 + r)) (by omega) (fun v h => by obtain rfl := Option.some.inj h; omega)
   | some v =>
    have hv0 := hp v rfl; simp only [if_neg (show ¬ bst (some v) < 0 from (show ¬ v < 0 by omega))]; by_cases c : ss[i].f1 + r < v
    ·simp only [if_pos c, if_pos (show ss[i].f1 + r < bst (some v) from c)]; exact Hv ss bs hI hb hs hv n (i + 1) (some (ss[i].f1 + r)) (by omega) (fun v h => by obtain rfl := Option.some.inj h; omega)
    ·simp only [if_neg c, if_neg (show ¬ ss[i].f1 + r < bst (some v) from c)]; exact Hv ss bs hI hb hs hv n (i + 1) (some v) (by omega) hp
def decS (ss : List Sh) (bs : List Int) : Int × Int := if Ed ss = true then decR (decC bs none (cs ss)) else (0, 84)
theorem Qc (ss : List Sh) (bs : List Int) (hI : InS ss) (hb : ∀ b ∈ bs, 0 ≤ b ∧ b ≤ 255) : Ev (fun k => Bp.f k ss bs) (decS ss bs) := by
 simp only [Bp.f]; refine Ev.bind (Fz ss hI) ?_; unfold decS; cases h : Ed ss
 ·simp only [Bool.false_eq_true, if_false]; exact Cb _
 ·obtain ⟨h1, h2, _⟩ := Ep h; simp only [if_true]; have := Hv ss bs hI hb h1 h2 ss.length 0 none (by omega) (fun v h => by cases h); rw [List.drop_zero] at this; exact this
theorem Tq {ss : List Sh} (h : Ed ss = true) {u : Int} {x : List Int} (he : encC (cs ss) u = some x) : (0 ≤ u ∧ u ≤ 1073741823) ∧ (∀ b ∈ x, 0 ≤ b ∧ b ≤ 255) ∧ 1 ≤ x.length ∧ x.length ≤ 8 := by
 obtain ⟨h1, h2, _, h4⟩ := Ep h; obtain ⟨p, hp, hh, rfl⟩ := Ri he; obtain ⟨q, hq, rfl⟩ := List.mem_map.1 hp; have vg := De (h2 q hq); have h' := Fv.1 hh; have e1 : (C q).2 = q.f1 ∧ (C q).1 = sets q.f0 := ⟨rfl, rfl⟩; rw [e1.1, e1.2] at h'; rw [e1.1, e1.2]; refine ⟨by omega, Mc vg.2.2.2.1 (by omega) h'.2, ?_⟩; rw [Kx, Fp]; exact vg.1
end Go.Proofs.PBS
end
section
namespace Go.Proofs.PBS
open Go.RowKit Go.Proofs.Zw.PrintWords Go.Proofs.Zw.PrintLast Go.Proofs.Zw.PrintMore Go.Proofs.I Go.Proofs.LT Go.Proofs.PB3
set_option linter.unusedVariables false
set_option linter.unusedSimpArgs false
def encR : Option (List Int) → List Int × Int
 | some b => (b, 0)
 | none => ([], 100)
noncomputable def encS (ss : List Sh) (u : Int) : List Int × Int := if Ed ss = true then encR (encC (cs ss) u) else ([], 84)
theorem Qb (ss : List Sh) (u : Int) (hI : InS ss) (hu : (Lit.int .i64 u).wf = true) : Ev (fun k => Ef.f k ss u) (encS ss u) := by
 simp only [Ef.f]; refine Ev.bind (Fz ss hI) ?_; unfold encS; cases h : Ed ss
 ·simp only [Bool.false_eq_true, if_false]; exact Cb _
 ·simp only [if_true]; refine Ev.bind (Tp ss u hI h hu) ?_; cases he : encC (cs ss) u with
  | none => simp only [Option.getD_none, List.length_nil, encR]; rw [if_pos (by rfl)]; exact Cb _
  | some b =>
   have := (Tq h he).2.2; simp only [Option.getD_some, encR, if_neg (show ¬ (b.length : Int) = 0 by omega)]; exact Cb _
def one1 (lo hi : Int) : List Sp := [⟨lo, hi⟩]
theorem Pp {lo hi : Int} (h0 : 0 ≤ lo) (h1 : lo ≤ hi) (h2 : hi ≤ 255) : An 255 (-2) (runs (one1 lo hi)) := ⟨h0, h1, h2, by show (-2 : Int) < lo - 1; omega, trivial⟩
theorem Lq (lo hi : Int) : size (runs (one1 lo hi)) = hi - lo + 1 := by
 show size [(lo, hi)] = _; rw [Gu, Gs]; omega
theorem Sv {lo hi : Int} (h0 : 0 ≤ lo) (h1 : lo ≤ hi) (h2 : hi ≤ 255) : Dc (one1 lo hi) = true := by
 simp only [Dc, (Gk _ _ _).2 (Pp h0 h1 h2)]; rfl
theorem Sx (lo hi : Int) : In1 (one1 lo hi) := by show 1 * 16 ≤ 140737488351232; omega
theorem Rc {lo hi x : Int} (h1 : lo ≤ x) (h2 : x ≤ hi) : memB (runs (one1 lo hi)) x = true := Dh.2 ⟨(lo, hi), List.mem_cons_self, h1, h2⟩
theorem Vm {lo hi x : Int} (h0 : 0 ≤ lo) (h1 : lo ≤ x) (h2 : x ≤ hi) (h3 : hi ≤ 255) : (cd (memB (runs (one1 lo hi))) x.toNat : Int) = x - lo :=
 Gz (r := (lo, hi)) (t := []) (Pp h0 (by omega) h3) h1 (by show x ≤ hi + 1; omega)
def Kh : List Sh := [⟨[one1 194 223, one1 128 191], 128⟩, ⟨[one1 0 127], 0⟩]
theorem c10a : cnt (sets [one1 194 223, one1 128 191]) = 1920 := by
 show cnt [runs (one1 194 223), runs (one1 128 191)] = 1920; rw [Hd, Hd, Hi, Lq, Lq]; rfl
theorem c10b : cnt (sets [one1 0 127]) = 128 := by
 show cnt [runs (one1 0 127)] = 128; rw [Hd, Hi, Lq]; rfl
theorem v10 : Ed Kh = true := by
 have h1 : Cu [one1 194 223, one1 128 191] 128 = true := by
  unfold Cu; rw [c10a]; simp [Sv (show (0 : Int) ≤ 194 by decide) (show (194 : Int) ≤ 223 by decide) (by decide), Sv (show (0 : Int) ≤ 128 by decide) (show (128 : Int) ≤ 191 by decide) (by decide)]
 have h2 : Cu [one1 0 127] 0 = true := by
  unfold Cu; rw [c10b]; simp [Sv (show (0 : Int) ≤ 0 by decide) (show (0 : Int) ≤ 127 by decide) (by decide)]
 have h3 : Fj ⟨[one1 0 127], 0⟩ ⟨[one1 194 223, one1 128 191], 128⟩ = false := by
  simp only [Fj, Gp, c10a, c10b]; decide
 show (decide (2 ≤ 32) && (Cu [one1 194 223, one1 128 191] 128 && (!([] : List Sh).any (Fj _) && (Cu [one1 0 127] 0 && (!([⟨[one1 194 223, one1 128 191], 128⟩] : List Sh).any (Fj ⟨[one1 0 127], 0⟩) && true))))) = true; rw [h1, h2]; simp [h3]
theorem in10 : InS Kh := ⟨by decide, fun p hp => by
 rcases List.mem_cons.1 hp with rfl | hp
 ·refine ⟨by decide, fun q hq => ?_⟩; rcases List.mem_cons.1 hq with rfl | hq
  ·exact Sx _ _
  ·rw [List.mem_singleton.1 hq]; exact Sx _ _
 ·rw [List.mem_singleton.1 hp]; refine ⟨by decide, fun q hq => ?_⟩; rw [List.mem_singleton.1 hq]; exact Sx _ _⟩
theorem rk10 : rnk (sets [one1 194 223, one1 128 191]) [195, 169] = some 105 := by
 show rnk [runs (one1 194 223), runs (one1 128 191)] [195, 169] = some 105; rw [Lp, if_pos (Rc (by decide) (by decide)), Lp, if_pos (Rc (by decide) (by decide)), Qe]; simp only [Option.map_some, Hd, Hi, Lq, Vm (show (0 : Int) ≤ 194 by decide) (show (194 : Int) ≤ 195 by decide) (show (195 : Int) ≤ 223 by decide) (by decide), Vm (show (0 : Int) ≤ 128 by decide) (show (128 : Int) ≤ 169 by decide) (show (169 : Int) ≤ 191 by decide) (by decide)]; rfl
theorem en10 : encC (cs Kh) 233 = some [195, 169] := by
 obtain ⟨_, _, ha, hg⟩ := Ep v10; have hm : ((sets [one1 194 223, one1 128 191], 128) : Cs) ∈ cs Kh := List.mem_cons_self; have h := rnk_hit (hg _ hm) rk10; have e : (128 : Int) + 105 = 233 := rfl; simp only [e] at h; rw [Tr ha hm h.1, ← h.2]
theorem de10 : decC [195, 169] none (cs Kh) = some 233 := by
 have h2 : rnk (sets [one1 0 127]) [195, 169] = none := by
  cases h : rnk (sets [one1 0 127]) [195, 169] with
  | none => rfl
  | some r => have := Oi h; simp [Fp] at this
 show decC [195, 169] (Md [195, 169] (sets [one1 0 127], 0) (Md [195, 169] (sets [one1 194 223, one1 128 191], 128) none)) [] = _; show Md [195, 169] (sets [one1 0 127], 0) (Md [195, 169] (sets [one1 194 223, one1 128 191], 128) none) = _; simp only [Md, rk10, h2]; rfl
theorem fixed10 : Ev (fun k => Dq.f k) true := by
 have hE := Qb Kh 233 in10 (by decide); rw [show encS Kh 233 = ([195, 169], 0) by unfold encS; rw [if_pos v10, en10]; rfl] at hE; have hD := Qc Kh [195, 169] in10 (by decide); rw [show decS Kh [195, 169] = (233, 0) by unfold decS; rw [if_pos v10, de10]; rfl] at hD; simp only [Dq.f, Cl.f, Option.bind_some]; refine Ev.bind hE (Ev.bind hD ?_); have e : (strOfNums [195, 169]).toList = ([195, 169] : List UInt8) := by rw [Lib.strOfNums_toList]; decide
 simp only [if_true, e]; exact Cb _
end Go.Proofs.PBS
end
section
namespace Go.Proofs.PBS
open Go.RowKit Go.Proofs.Zw.PrintWords Go.Proofs.Zw.PrintLast Go.Proofs.Zw.PrintMore Go.Proofs.I Go.Proofs.LT Go.Proofs.PB3
set_option linter.unusedVariables false
set_option linter.unusedSimpArgs false
theorem Vt {p : Sh} (hv : Cu p.f0 p.f1 = true) : 1 ≤ cnt (sets p.f0) ∧ cnt (sets p.f0) ≤ 1073741824 ∧ 0 ≤ p.f1 ∧ p.f1 ≤ 1073741823 ∧ p.f1 + cnt (sets p.f0) - 1 ≤ 1073741823 := by
 obtain ⟨_, h2, _, h4, h5⟩ := De hv; have := Eu h4; omega
theorem Tn {ss : List Sh} (h : Ed ss = true) : ss.Pairwise fun x y => x.f1 ≠ y.f1 := by
 obtain ⟨h0, hv, ha, hg⟩ := Ep h; clear h h0; induction ss with
 | nil => exact List.Pairwise.nil
 | cons p t ih =>
  have ha' : (∀ q ∈ cs t, Jf (C p) < q.2 ∨ Jf q < (C p).2) ∧ No (cs t) := ha; refine List.pairwise_cons.2 ⟨fun q hq e => ?_, ih (fun x hx => hv x (List.mem_cons_of_mem _ hx)) ha'.2 (fun x hx => hg x (List.mem_cons_of_mem _ hx))⟩; have h1 := Vt (hv p List.mem_cons_self); have h2 := Vt (hv q (List.mem_cons_of_mem _ hq)); have := ha'.1 (C q) (List.mem_map.2 ⟨q, hq, rfl⟩); rw [Rg, Rg] at this; have e1 : (C q).2 = q.f1 ∧ (C p).2 = p.f1 := ⟨rfl, rfl⟩; unfold Gp at this; omega
theorem Qy : ∀ {l : List Sh}, l.Pairwise (fun x y => x.f1 < y.f1) → Uc (cs l)
 | [], _ => trivial
 | p :: t, h => by
  have h' := List.pairwise_cons.1 h; refine ⟨fun q hq => ?_, Qy h'.2⟩; obtain ⟨a, ha, rfl⟩ := List.mem_map.1 hq; exact h'.1 a ha
end Go.Proofs.PBS
end
section
namespace Go.Proofs.PBS
open Go.RowKit Go.Proofs.Zw.PrintWords Go.Proofs.Zw.PrintLast Go.Proofs.Zw.PrintMore Go.Proofs.I Go.Proofs.LT Go.Proofs.PB3
set_option linter.unusedVariables false
set_option linter.unusedSimpArgs false
theorem Ts (fr : Int) : ∀ (ls : List Sh), InS ls → (∀ p ∈ ls, Cu p.f0 p.f1 = true) → ∃ K, ∀ k, K ≤ k → CodF k fr ls (allC (cs ls) fr)
 | [], _, _ => ⟨0, fun k _ => rfl⟩
 | p :: t, hI, hv => by
  have hv0 := hv p List.mem_cons_self; have hI0 := hI.2 p List.mem_cons_self; obtain ⟨⟨l1, l2⟩, ⟨a1, a2⟩, hk, hg, hcn⟩ := De hv0; have hcp := Eu hg; obtain ⟨K, ih⟩ := Ts fr t ⟨by have := hI.1; simp only [List.length_cons] at this; omega, fun q hq => hI.2 q (List.mem_cons_of_mem _ hq)⟩ (fun q hq => hv q (List.mem_cons_of_mem _ hq)); obtain ⟨K1, h1⟩ := Ox p.f0 p.f1 hI0; rw [if_pos hv0] at h1; obtain ⟨K2, h2⟩ := Sm p.f0 p.f1 hI0; obtain ⟨K3, L, h3⟩ := allF_ev p.f0 p.f1 (max fr p.f1 - p.f1) hI0; have hcs : cntS p.f0 p.f1 = cnt (sets p.f0) := by unfold cntS; rw [if_pos hv0]
  refine ⟨max (max K K1) (max K2 K3), fun k hk => ⟨cnt (sets p.f0), h1 k (by omega), ⟨a1, a2⟩, ?_⟩⟩; by_cases c : p.f1 < fr ∧ cnt (sets p.f0) ≤ fr - p.f1
  ·left
   refine ⟨c, ?_⟩; have e : lstC (C p) fr = [] := by
    unfold lstC; rw [show (Jf (C p) + 1 - max fr (C p).2).toNat = 0 by show (p.f1 + cnt (sets p.f0) - 1 + 1 - max fr p.f1).toNat = 0; omega]; rfl
   show CodF k fr t (lstC (C p) fr ++ allC (cs t) fr); rw [e, List.nil_append]; exact ih k (by omega)
  ·right
   have hN : (nSq p.f0 p.f1 (max fr p.f1 - p.f1) : Int) = cnt (sets p.f0) - (max fr p.f1 - p.f1) := by
    unfold nSq; rw [hcs]; omega
   refine ⟨c, _, _, nSq p.f0 p.f1 (max fr p.f1 - p.f1), sqOf p.f0 (max fr p.f1 - p.f1), L, allC (cs t) fr, h2 k (by omega), h3 k (by omega), fun _ => by omega, ?_, ih k (by omega)⟩; show lstC (C p) fr ++ allC (cs t) fr = _; congr 1
   unfold lstC; rw [show (Jf (C p) + 1 - max fr (C p).2).toNat = nSq p.f0 p.f1 (max fr p.f1 - p.f1) by show (p.f1 + cnt (sets p.f0) - 1 + 1 - max fr p.f1).toNat = _; omega]; refine List.map_congr_left fun j _ => ?_
   show (max fr p.f1 + (j : Int), unr (sets p.f0) (max fr p.f1 - p.f1 + (j : Int))) = (p.f1 + (max fr p.f1 - p.f1 + (j : Int)), unr (sets p.f0) (max (max fr p.f1 - p.f1) 0 + (j : Int))); rw [show max (max fr p.f1 - p.f1) 0 = max fr p.f1 - p.f1 by omega]; congr 1
   omega
theorem Sn (ss : List Sh) (hI : InS ss) : ∃ r, Ev (fun k => Fc.f k ss) r ∧ InS r ∧ (∀ p ∈ r, Cu p.f0 p.f1 = true) ∧ r.length ≤ 32 ∧ ((Ed ss = false ∧ r = []) ∨ (Ed ss = true ∧ (cs r).Perm (cs ss) ∧ No (cs r) ∧ Nd (cs r) ∧ Uc (cs r))) := by
 cases h : Ed ss
 ·refine ⟨[], ?_, ⟨by simp, fun p hp => (by cases hp)⟩, fun p hp => (by cases hp), by simp, .inl ⟨rfl, rfl⟩⟩; unfold Fc.f; refine Ev.bind (Fz ss hI) ?_; simp only [h, Bool.false_eq_true, if_false]; exact Cb _
 ·obtain ⟨h1, h2, ha, hg⟩ := Ep h; have hne := Tn h; have hso : Bu.f ss = some (ss.mergeSort fun x y => decide (x.f1 ≤ y.f1)) := by
   unfold Bu.f; rw [if_pos (show Bu.ok ss = true by simp only [Bu.ok, Bool.and_eq_true, decide_eq_true_eq]; exact ⟨by omega, hne⟩)]
  obtain ⟨_, m1, m2, _⟩ := Bu.merge hso; generalize (ss.mergeSort fun x y => decide (x.f1 ≤ y.f1)) = ls at hso m1 m2; have hll : ls.length = ss.length := m1.length_eq; have hIl : InS ls := ⟨by rw [hll]; exact hI.1, fun p hp => hI.2 p (m1.subset hp)⟩; have hgl : Nd (cs ls) := fun p hp => hg p ((m1.map C).subset hp)
  have hrf := Qy m2; refine ⟨ls, ?_, hIl, fun p hp => h2 p (m1.subset hp), by omega, .inr ⟨rfl, m1.map C, ?_, hgl, hrf⟩⟩
  ·unfold Fc.f; refine Ev.bind (Fz ss hI) ?_; simp only [h, if_true]; refine Ev.bind (Qw ss hI) ?_; rw [hso]; exact Cb _
  ·refine Ku hrf fun p hp q hq hlt => ?_
   exact Ov ha hg ((m1.map C).subset hp) ((m1.map C).subset hq) hlt
def HitS (l : List Cs) (u : Int) : Prop := ∃ p ∈ l, hitC u p = true
def Ke (l : List Cs) (u : Int) (r : Int × Bool) : Prop := (r = (0, false) ∧ ∀ y, HitS l y → ¬ u ≤ y) ∨ (∃ x, r = (x, true) ∧ HitS l x ∧ u ≤ x ∧ ∀ y, HitS l y → u ≤ y → x ≤ y)
theorem Ke.uniq {l : List Cs} {u : Int} {r s : Int × Bool} (h : Ke l u r) (k : Ke l u s) : r = s := by
 rcases h with ⟨rfl, h⟩ | ⟨x, rfl, h1, h2, h3⟩ <;> rcases k with ⟨rfl, k⟩ | ⟨y, rfl, k1, k2, k3⟩
 ·rfl
 ·exact absurd k2 (h y k1)
 ·exact absurd h2 (k x h1)
 ·have := h3 y k1 k2; have := k3 x h1 h2; rw [show x = y by omega]
theorem Jd (ss : List Sh) (u : Int) (hI : InS ss) (hv : ∀ p ∈ ss, Cu p.f0 p.f1 = true) (hs : ss.length ≤ 32) : ∀ (n i : Nat) (r : Int × Bool), i + n = ss.length → Ke (cs (ss.take i)) u r →
 ∃ r', Ev (fun k => Ae.l0 k u r.1 r.2 (i : Int) ss) r' ∧ Ke (cs ss) u r'
 | 0, i, r, hi, hr => by
  refine ⟨r, Bq ?_, by rwa [List.take_of_length_le (by omega)] at hr⟩; simp only [Ae.l0, if_neg (show ¬ (i : Int) < (ss.length : Int) by omega)]; exact Cb _
 | n + 1, i, r, hi, hr => by
  have hil : i < ss.length := by omega
  have hvi := hv ss[i] (List.getElem_mem _); obtain ⟨⟨l1, l2⟩, ⟨a1, a2⟩, hk, hg, hcn⟩ := De hvi; have hp := Eu hg; have hc := Gm ss[i].f0 ss[i].f1 (hI.2 _ (List.getElem_mem _)) hk l2; rw [show min (cnt (sets ss[i].f0)) 1073741825 = cnt (sets ss[i].f0) by omega] at hc; have hw : Aa (wrap64 (wrap64 (ss[i].f1 + cnt (sets ss[i].f0)) - 1) = ss[i].f1 + cnt (sets ss[i].f0) - 1) := Aa.mk (by rw [w64 (x := ss[i].f1 + cnt (sets ss[i].f0)) (by omega) (by omega), w64 (by omega) (by omega)]); have hw2 := Gq i (by omega); have htk : cs (ss.take (i + 1)) = cs (ss.take i) ++ [C ss[i]] := by unfold cs; rw [List.take_succ_eq_append_getElem hil, List.map_append]; rfl
  have hhit : ∀ y, HitS (cs (ss.take (i + 1))) y ↔ HitS (cs (ss.take i)) y ∨ (ss[i].f1 ≤ y ∧ y - ss[i].f1 < cnt (sets ss[i].f0)) := fun y => by
   unfold HitS; rw [htk]; constructor
   ·rintro ⟨p, hp, h⟩; rcases List.mem_append.1 hp with hp | hp
    ·exact .inl ⟨p, hp, h⟩
    ·rw [List.mem_singleton.1 hp] at h; exact .inr (Fv.1 h)
   ·rintro (⟨p, hp, h⟩ | h)
    ·exact ⟨p, List.mem_append_left _ hp, h⟩
    ·exact ⟨C ss[i], List.mem_append_right _ (List.mem_singleton.2 rfl), Fv.2 h⟩
  by_cases c : max u ss[i].f1 ≤ ss[i].f1 + cnt (sets ss[i].f0) - 1
  ·by_cases c2 : r.2 = true
   ·obtain ⟨x, e, hx1, hx2, hx3⟩ : ∃ x, r = (x, true) ∧ HitS (cs (ss.take i)) x ∧ u ≤ x ∧ ∀ y, HitS (cs (ss.take i)) y → u ≤ y → x ≤ y := by
     rcases hr with ⟨rfl, _⟩ | h
     ·cases c2
     ·exact h
    subst e; by_cases c3 : max u ss[i].f1 < x
    ·obtain ⟨r', q1, q2⟩ := Jd ss u hI hv hs n (i + 1) (max u ss[i].f1, true) (by omega) (.inr ⟨_, rfl, (hhit _).2 (.inr ⟨by omega, by omega⟩), by omega, fun y hy hu => by
      rcases (hhit y).1 hy with h | h
      ·have := hx3 y h hu; omega
      ·omega⟩)
     refine ⟨r', Bq ?_, q2⟩; simp only [Ae.l0, if_pos (show (i : Int) < (ss.length : Int) by omega), if_pos (show (0 : Int) ≤ (i : Int) by omega), Gf ss i hil, Mq]; refine Ev.bind hc ?_; simp only [hw.out, hw2.out, if_pos c, if_true, if_pos c3]; exact q1
    ·obtain ⟨r', q1, q2⟩ := Jd ss u hI hv hs n (i + 1) (x, true) (by omega) (.inr ⟨_, rfl, (hhit _).2 (.inl hx1), hx2, fun y hy hu => by
      rcases (hhit y).1 hy with h | h
      ·exact hx3 y h hu
      ·omega⟩)
     refine ⟨r', Bq ?_, q2⟩; simp only [Ae.l0, if_pos (show (i : Int) < (ss.length : Int) by omega), if_pos (show (0 : Int) ≤ (i : Int) by omega), Gf ss i hil, Mq]; refine Ev.bind hc ?_; simp only [hw.out, hw2.out, if_pos c, if_true, if_neg c3]; exact q1
   ·have hr0 : r = (0, false) ∧ ∀ y, HitS (cs (ss.take i)) y → ¬ u ≤ y := by
     rcases hr with h | ⟨x, rfl, _⟩
     ·exact h
     ·exact absurd rfl c2
    obtain ⟨e, hno⟩ := hr0; subst e; obtain ⟨r', q1, q2⟩ := Jd ss u hI hv hs n (i + 1) (max u ss[i].f1, true) (by omega) (.inr ⟨_, rfl, (hhit _).2 (.inr ⟨by omega, by omega⟩), by omega, fun y hy hu => by
     rcases (hhit y).1 hy with h | h
     ·exact absurd hu (hno y h)
     ·omega⟩)
    refine ⟨r', Bq ?_, q2⟩; simp only [Ae.l0, if_pos (show (i : Int) < (ss.length : Int) by omega), if_pos (show (0 : Int) ≤ (i : Int) by omega), Gf ss i hil, Mq]; refine Ev.bind hc ?_; simp only [hw.out, hw2.out, if_pos c, Bool.false_eq_true, if_false]; exact q1
  ·obtain ⟨r', q1, q2⟩ := Jd ss u hI hv hs n (i + 1) r (by omega) (by
    rcases hr with ⟨e, hno⟩ | ⟨x, e, hx1, hx2, hx3⟩
    ·exact .inl ⟨e, fun y hy hu => by
      rcases (hhit y).1 hy with h | h
      ·exact hno y h hu
      ·omega⟩
    ·exact .inr ⟨x, e, (hhit _).2 (.inl hx1), hx2, fun y hy hu => by
      rcases (hhit y).1 hy with h | h
      ·exact hx3 y h hu
      ·omega⟩)
   refine ⟨r', Bq ?_, q2⟩; simp only [Ae.l0, if_pos (show (i : Int) < (ss.length : Int) by omega), if_pos (show (0 : Int) ≤ (i : Int) by omega), Gf ss i hil, Mq]; refine Ev.bind hc ?_; simp only [hw.out, hw2.out, if_neg c]; exact q1
theorem Rs (ss : List Sh) (u : Int) (hI : InS ss) (h : Ed ss = true) {r : Int × Bool} (hr : Ke (cs ss) u r) : Ev (fun k => Ae.f k ss u) r := by
 obtain ⟨h1, h2, _⟩ := Ep h; obtain ⟨r', q1, q2⟩ := Jd ss u hI h2 h1 ss.length 0 (0, false) (by omega) (.inl ⟨rfl, fun y ⟨p, hp, _⟩ => (by simp [cs] at hp)⟩); obtain rfl := hr.uniq q2; simp only [Ae.f]; refine Ev.bind (Hy ss hI) ?_; simp only [h, if_true]; exact q1
theorem Rq (ss : List Sh) (u : Int) (hI : InS ss) (h : Ed ss = false) : Ev (fun k => Ae.f k ss u) (0, false) := by
 simp only [Ae.f]; refine Ev.bind (Hy ss hI) ?_; simp only [h, Bool.false_eq_true, if_false]; exact Cb _
end Go.Proofs.PBS
end
section
namespace Go.Proofs.PBS
open Go.RowKit Go.Proofs.Zw.PrintWords Go.Proofs.Zw.PrintLast Go.Proofs.Zw.PrintMore Go.Proofs.I Go.Proofs.LT Go.Proofs.PB3
set_option linter.unusedVariables false
set_option linter.unusedSimpArgs false
theorem Pj (ss : List Sh) (u : Int) (hI : InS ss) (hu : (Lit.int .i64 u).wf = true) : Ev (fun k => Ci.f k ss u) (encS ss u) := by
 simp only [Ci.f]; refine Ev.bind (Hy ss hI) ?_; unfold encS; cases h : Ed ss
 ·simp only [Bool.false_eq_true, if_false]; exact Cb _
 ·simp only [if_true]; refine Ev.bind (Uo ss u hI h hu) ?_; cases encC (cs ss) u <;> exact Cb _
theorem Ig (ss : List Sh) (bs : List Int) (hI : InS ss) (hb : ∀ b ∈ bs, 0 ≤ b ∧ b ≤ 255) (hs : ss.length ≤ 32) (hv : ∀ p ∈ ss, Cu p.f0 p.f1 = true) : ∀ (n i : Nat) (best : Option Int), i + n = ss.length →
 Ev (fun k => Aw.l0 k bs (best.getD 0) best.isSome (i : Int) ss) ((decC bs best (cs (ss.drop i))).getD 0, (decC bs best (cs (ss.drop i))).isSome)
 | 0, i, best, hi => by
  refine Bq ?_; simp only [Aw.l0, if_neg (show ¬ (i : Int) < (ss.length : Int) by omega)]; rw [List.drop_of_length_le (by omega)]; exact Cb _
 | n + 1, i, best, hi => by
  have hil : i < ss.length := by omega
  have hw := Gq i (by omega); have vi := hv _ (List.getElem_mem hil); have vg := De vi; rw [Oo ss i hil]; show Ev _ ((decC bs (Md bs (C ss[i]) best) (cs (ss.drop (i + 1)))).getD 0, (decC bs (Md bs (C ss[i]) best) (cs (ss.drop (i + 1)))).isSome); refine Bq ?_; simp only [Aw.l0, if_pos (show (i : Int) < (ss.length : Int) by omega), if_pos (show (0 : Int) ≤ (i : Int) by omega), Gf ss i hil, hw.out]; refine Ev.bind (Qg _ ss[i].f1 bs (hI.2 _ (List.getElem_mem _)) hb) ?_; unfold rkS; rw [if_pos vi]; have e1 : (C ss[i]).2 = ss[i].f1 ∧ (C ss[i]).1 = sets ss[i].f0 := ⟨rfl, rfl⟩; unfold Md; rw [e1.1, e1.2]; cases hr : rnk (sets ss[i].f0) bs with
  | none =>
   simp only [rkR, Bool.false_eq_true, if_false]; exact Ig ss bs hI hb hs hv n (i + 1) best (by omega)
  | some r =>
   obtain ⟨r0, r1, _⟩ := Oc vg.2.2.2.1 hr; have w1 : Aa (wrap64 (ss[i].f1 + r) = ss[i].f1 + r) := Aa.mk (w64 (by omega) (by omega)); simp only [rkR, if_true, w1.out]; cases best with
   | none =>
    simp only [Option.isSome_none, Bool.false_eq_true, if_false]; exact Ig ss bs hI hb hs hv n (i + 1) (some (ss[i].f1 + r)) (by omega)
   | some v =>
    simp only [Option.isSome_some, if_true, Option.getD_some]; by_cases c : ss[i].f1 + r < v
    ·simp only [if_pos c]; exact Ig ss bs hI hb hs hv n (i + 1) (some (ss[i].f1 + r)) (by omega)
    ·simp only [if_neg c]; exact Ig ss bs hI hb hs hv n (i + 1) (some v) (by omega)
theorem Pk (ss : List Sh) (bs : List Int) (hI : InS ss) (hb : ∀ b ∈ bs, 0 ≤ b ∧ b ≤ 255) : Ev (fun k => Bw.f k ss bs) (decS ss bs) := by
 simp only [Bw.f]; refine Ev.bind (Hy ss hI) ?_; unfold decS; cases h : Ed ss
 ·simp only [Bool.false_eq_true, if_false]; exact Cb _
 ·obtain ⟨h1, h2, _⟩ := Ep h; simp only [if_true]; have := Ig ss bs hI hb h1 h2 ss.length 0 none (by omega); rw [List.drop_zero] at this; refine Ev.bind (show Ev (fun k => Aw.f k ss bs) _ from this) ?_; cases decC bs none (cs ss) <;> exact Cb _
theorem Ta {l : List Cs} {L : List (Int × List Int)} {v : Int} {i : Nat} (h : (∃ x, L[i]? = some x ∧ HitS l x.1 ∧ v ≤ x.1 ∧ ∀ y, HitS l y → v ≤ y → x.1 ≤ y) ∨ (L[i]? = none ∧ ∀ y, HitS l y → ¬ v ≤ y)) : Ke l v (nxC L i) := by
 rcases h with ⟨x, e, h1, h2, h3⟩ | ⟨e, h1⟩
 ·exact .inr ⟨x.1, by unfold nxC; rw [e], h1, h2, h3⟩
 ·exact .inl ⟨by unfold nxC; rw [e], h1⟩
theorem next_is (ss : List Sh) (u : Int) (hI : InS ss) (hu : u ≤ 9223372036854775807) : ∃ v, Ev (fun k => Dy.f k ss u) v ∧ Ev (fun k => Ae.f k ss u) v := by
 obtain ⟨r, ⟨K2, h2⟩, hIr, hvr, hlr, hcase⟩ := Sn ss hI; obtain ⟨K3, h3⟩ := Ts u r hIr hvr; have key : Ev (fun k => Ae.f k ss u) (nxC (allC (cs r) u) 0) := by
  rcases hcase with ⟨hv, rfl⟩ | ⟨hv, hp, ha, hg, hr⟩
  ·exact Rq ss u hI hv
  ·have hs := Vw (fr := u) ha hg hr; have hm : ∀ y, (∃ b, (y, b) ∈ allC (cs r) u) ↔ u ≤ y ∧ HitS (cs ss) y := fun y => by
    constructor
    ·rintro ⟨b, h⟩; obtain ⟨q1, p, q2, q3, _⟩ := Ow.1 h; exact ⟨q1, p, hp.subset q2, q3⟩
    ·rintro ⟨q1, p, q2, q3⟩; exact ⟨_, Ow.2 ⟨q1, p, hp.symm.subset q2, q3, rfl⟩⟩
   exact Rs ss u hI hv (Ta (Vd (i := 0) hs hm (fun j h hj => absurd hj (Nat.not_lt_zero _)) (fun j h _ => ((hm _).1 ⟨_, List.getElem_mem h⟩).1) (Int.le_refl _)))
 refine ⟨_, ?_, key⟩; obtain ⟨K4, h4⟩ := key; refine ⟨max K2 K4, fun k hk => ?_⟩; have hn := h4 k (by omega); show Dy.f k ss u = _; unfold Dy.f; rw [if_pos ⟨K3, r, _, h2 k (by omega), h3 _ (Nat.le_refl _), hu, by omega, hn⟩]; exact hn
theorem leadtraillaw10_CodeAnswers_ev (ss : List Sh) (u : Int) (bs : List Int) (hI : InS ss) (hu : (Lit.int .i64 u).wf = true) (hb : ∀ b ∈ bs, 0 ≤ b ∧ b ≤ 255) (hbl : bs.length < 140737488355328) : Ev (fun k => Bo.f k ss u bs) true := by
 have hut := (Ob hu).2; obtain ⟨v, n1, n2⟩ := next_is ss u hI hut; simp only [Bo.f]; refine Ev.bind fixed10 ?_; simp only [if_true]; refine Ev.bind (Vj ss hI) ?_; refine Ev.bind (Qb ss u hI hu) ?_; refine Ev.bind (Pj ss u hI hu) ?_; simp only [Option.bind_some, List.length_nil, Nat.zero_add, List.nil_append, if_pos hbl]; refine Ev.bind (Qc ss bs hI hb) ?_; refine Ev.bind (Pk ss bs hI hb) ?_; refine Ev.bind n1 ?_; refine Ev.bind n2 ?_; simp only [if_true, beq_self_eq_true]; refine Ev.bind (Rz ss hI) ?_; exact Cb _
end Go.Proofs.PBS
namespace Go.Proofs.Pure
open Go.Proofs.I Go.Proofs.Zw.PrintWords
theorem wf_byte {x : Int} (h : (Lit.int .u8 x).wf = true) : 0 ≤ x ∧ x ≤ 255 := by
 have e0 : IntKind.u8.min = 0 := by decide
 have e1 : IntKind.u8.max = 255 := by decide
 simp only [Lit.wf, e0, e1] at h; simp at h; omega
theorem CodeAnswers : ∀ (l0_0 : List S44) (a1 : Int) (l2 : List Int), (l0_0.length * 32 ≤ 140737488351232 ∧ ∀ x ∈ l0_0, ((x.f0.length * 24 ≤ 140737488351232 ∧ ∀ y ∈ x.f0, (y.length * 16 ≤ 140737488351232 ∧ ∀ x ∈ y, ((Lit.int .i64 x.f0).wf = true ∧ (Lit.int .i64 x.f1).wf = true))) ∧ (Lit.int .i64 x.f1).wf = true)) → (Lit.int .i64 a1).wf = true → (l2.length * 1 ≤ 140737488351232 ∧ ∀ x ∈ l2, (Lit.int .u8 x).wf = true) → ∃ k, Bo.f k l0_0 a1 l2 = some true :=
 fun l0 a1 l2 h hu hb => by
  obtain ⟨k, hk⟩ := PBS.leadtraillaw10_CodeAnswers_ev l0 a1 l2 ⟨h.1, fun x hx => ⟨(h.2 x hx).1.1, fun y hy => ((h.2 x hx).1.2 y hy).1⟩⟩ hu (fun b hb2 => wf_byte (hb.2 b hb2)) (by have := hb.1; omega); exact ⟨k, hk k (Nat.le_refl _)⟩
end Go.Proofs.Pure
end
