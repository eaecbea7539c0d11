/- Words and laws of this claim, of 6 texts. -/
import Derived.Test.YtoljcfocgaonpaaKfIx0
import Derived.Test.YtoljcfocgaonpaaKfIx16
import Derived.Test.YtoljcfocgaonpaaKfIx17
import Derived.Test.YtoljcfocgaonpaaKfQP0
import Derived.Test.YtoljcfocgaonpaaKfQP1
import Derived.Test.YtoljcfocgaonpaaKfIx7
import Derived.Test.YtoljcfocgaonpaaKfIx8
import Derived.Test.YtoljcfocgaonpaaKfQP2
import Derived.Test.YtoljcfocgaonpaaKfIx1
import Derived.Test.YtoljcfocgaonpaaKfIx14
import Derived.Test.YtoljcfocgaonpaaKfIx15
import Derived.Test.YtoljcfocgaonpaaKfIx32
import Derived.Test.YtoljcfocgaonpaaKfIx4
import Derived.Test.YtoljcfocgaonpaaKfIx6
import Derived.Test.YtoljcfocgaonpaaKfIx13
import Derived.Test.YtoljcfocgaonpaaKfQW1
import Derived.Test.YtoljcfocgaonpaaKfIx25
import Derived.Test.YtoljcfocgaonpaaKfIx33
import Derived.KernelRfl
import Derived.Lib.Bytes
section
namespace Go.Proofs.Ytoljcfocgaonpaa.PBS
open Go.RowKit Go.Proofs.YtoljcfocgaonpaaW.PrintWords Go.Proofs.YtoljcfocgaonpaaW.PrintLast Go.Proofs.YtoljcfocgaonpaaW.PrintMore Go.Proofs.Ytoljcfocgaonpaa.I Go.Proofs.LT Go.Proofs.Ytoljcfocgaonpaa.PB3
set_option linter.unusedVariables false
set_option linter.unusedSimpArgs false
theorem cloneSpan_is (p : List Sp) (h : In1 p) : cloneSpan.f p = some p := by
 unfold In1 at h; simp only [cloneSpan.f, if_pos (show p.length < 8796093022208 by omega)]
theorem sCopy_in (ss out : List Sh) (i : Nat) (ps : List (List Sp)) (f : Int) (hp : In2 ps) (ho : out.length < 4398046511104) (hi : i ≤ 4398046511104) {r : List Sh} (h : Ev (fun k => scheme_Copy.l0 k ss (ss.length : Int) ((i + 1 : Nat) : Int) (out ++ [⟨ps, f⟩])) r) : ∀ (n j : Nat), j + n = ps.length →
 Ev (fun k => scheme_Copy.l1 k ss (ss.length : Int) (i : Int) ps (ps.length : Int) (j : Int) out (ps.take j) f) r
 | 0, j, hj => by
  obtain rfl : j = ps.length := by omega
  have hw : Aside0 (wrap64 ((i : Int) + 1) = ((i + 1 : Nat) : Int)) := Aside0.mk (by rw [w64 (by omega) (by omega)]; rfl); refine evSucc ?_; simp only [scheme_Copy.l1, if_neg (show ¬ ((ps.length : Nat) : Int) < ((ps.length : Nat) : Int) by omega), if_pos ho, hw.out, List.take_length]; exact h
 | n + 1, j, hj => by
  have hjl : j < ps.length := by omega
  have h1 := hp.1; have hw : Aside0 (wrap64 ((j : Int) + 1) = ((j + 1 : Nat) : Int)) := Aside0.mk (by rw [w64 (by omega) (by omega)]; rfl); have ih := sCopy_in ss out i ps f hp ho hi h n (j + 1) (by omega); have e : ps.take j ++ [ps[j]] = ps.take (j + 1) := (List.take_succ_eq_append_getElem hjl).symm; refine evSucc ?_; simp only [scheme_Copy.l1, if_pos (show (j : Int) < ((ps.length : Nat) : Int) by omega), if_pos (show (0 : Int) ≤ (j : Int) by omega), rdL_at ps j hjl, cloneSpan_is _ (hp.2 _ (List.getElem_mem hjl)), Option.bind_some, if_pos (show (ps.take j).length < 5864062014805 by rw [List.length_take]; omega), hw.out, e]; exact ih
theorem sCopy_loop (ss : List Sh) (hI : InS ss) : ∀ (n i : Nat), i + n = ss.length → Ev (fun k => scheme_Copy.l0 k ss (ss.length : Int) (i : Int) (ss.take i)) ss
 | 0, i, hi => by
  refine evSucc ?_; simp only [scheme_Copy.l0, if_neg (show ¬ (i : Int) < (ss.length : Int) by omega)]; rw [List.take_of_length_le (by omega)]; exact evNow _
 | n + 1, i, hi => by
  have hil : i < ss.length := by omega
  have h1 := hI.1; have ih := sCopy_loop ss hI n (i + 1) (by omega); have er : rd_T47 ss (i : Int) = ss[i] := by simp [rd_T47, List.getD, hil]
  rw [List.take_succ_eq_append_getElem hil] at ih; have h := sCopy_in ss (ss.take i) i (ss[i]).f0 (ss[i]).f1 (hI.2 _ (List.getElem_mem hil)) (by rw [List.length_take]; omega) (by omega) ih (ss[i]).f0.length 0 (by omega); refine evSucc ?_; simp only [scheme_Copy.l0, if_pos (show (i : Int) < (ss.length : Int) by omega), if_pos (show (0 : Int) ≤ (i : Int) by omega), er]; exact h
theorem sCopy_is (ss : List Sh) (hI : InS ss) : Ev (fun k => scheme_Copy.f k ss) ss := sCopy_loop ss hI ss.length 0 (by omega)
theorem sCopy_one (ps : List (List Sp)) (a : Int) (hI : In2 ps) : Ev (fun k => scheme_Copy.f k [⟨ps, a⟩]) [⟨ps, a⟩] := sCopy_is _ ⟨by simp, fun p hp => by rw [List.mem_singleton.1 hp]; exact hI⟩
end Go.Proofs.Ytoljcfocgaonpaa.PBS
end
section
namespace Go.Proofs.Ytoljcfocgaonpaa.PBS
open Go.RowKit Go.Proofs.YtoljcfocgaonpaaW.PrintWords Go.Proofs.YtoljcfocgaonpaaW.PrintLast Go.Proofs.YtoljcfocgaonpaaW.PrintMore Go.Proofs.Ytoljcfocgaonpaa.I Go.Proofs.LT Go.Proofs.Ytoljcfocgaonpaa.PB3
set_option linter.unusedVariables false
set_option linter.unusedSimpArgs false
def C (p : Sh) : Cs := (sets p.f0, p.f1)
def cs (ss : List Sh) : List Cs := ss.map C
theorem last_C (p : Sh) : lastC (C p) = lastOf p := rfl
theorem vS_facts : ∀ (t pre : List Sh), vS pre t = true → (∀ p ∈ t, vShape p.f0 p.f1 = true) ∧ (∀ q ∈ pre, ∀ p ∈ t, meetsB p q = false) ∧ Apart (cs t)
 | [], _, _ => ⟨fun _ h => (by cases h), fun _ _ _ h => (by cases h), trivial⟩
 | p :: t, pre, h => by
  have h' : (vShape p.f0 p.f1 && (!(pre.any (meetsB p)) && vS (pre ++ [p]) t)) = true := h; simp only [Bool.and_eq_true, Bool.not_eq_true'] at h'; obtain ⟨h1, h2, h3⟩ := h'; obtain ⟨k1, k2, k3⟩ := vS_facts t (pre ++ [p]) h3; refine ⟨fun q hq => ?_, fun q hq r hr => ?_, fun r hr => ?_, k3⟩
  ·rcases List.mem_cons.1 hq with rfl | hq
   ·exact h1
   ·exact k1 q hq
  ·rcases List.mem_cons.1 hr with rfl | hr
   ·cases e : meetsB r q
    ·rfl
    ·rw [List.any_eq_true.2 ⟨q, hq, e⟩] at h2; cases h2
   ·exact k2 q (List.mem_append_left _ hq) r hr
  ·obtain ⟨q, hq, rfl⟩ := List.mem_map.1 hr; have e := k2 p (List.mem_append_right _ (List.mem_singleton.2 rfl)) q hq; simp only [meetsB, Bool.and_eq_false_iff, decide_eq_false_iff_not] at e; rw [last_C, last_C]; show lastOf p < q.f1 ∨ lastOf q < p.f1; omega
theorem vScheme_facts {ss : List Sh} (h : vScheme ss = true) : ss.length ≤ 32 ∧ (∀ p ∈ ss, vShape p.f0 p.f1 = true) ∧ Apart (cs ss) ∧ AllGood (cs ss) := by
 simp only [vScheme, Bool.and_eq_true, decide_eq_true_eq] at h; obtain ⟨k1, k2, k3⟩ := vS_facts ss [] h.2; refine ⟨h.1, k1, k3, fun p hp => ?_⟩; obtain ⟨q, hq, rfl⟩ := List.mem_map.1 hp; exact (vShape_good (k1 q hq)).2.2.2.1
theorem rdSh_at (ss : List Sh) (i : Nat) (h : i < ss.length) : rd_T47 ss (i : Int) = ss[i] := by simp [rd_T47, List.getD, h]
theorem succ_wrap (i : Nat) (h : i ≤ 4611686018427387904) : Aside0 (wrap64 ((i : Int) + 1) = ((i + 1 : Nat) : Int)) := Aside0.mk (by rw [w64 (by omega) (by omega)]; simp)
theorem cs_drop (ss : List Sh) (i : Nat) (h : i < ss.length) : cs (ss.drop i) = C ss[i] :: cs (ss.drop (i + 1)) := by rw [List.drop_eq_getElem_cons h]; rfl
theorem enc_range {ss : List Sh} (h : vScheme ss = true) {u : Int} {x : List Int} (he : encC (cs ss) u = some x) : (0 ≤ u ∧ u ≤ 1073741823) ∧ (∀ b ∈ x, 0 ≤ b ∧ b ≤ 255) ∧ 1 ≤ x.length ∧ x.length ≤ 8 := by
 obtain ⟨h1, h2, _, h4⟩ := vScheme_facts h; obtain ⟨p, hp, hh, rfl⟩ := encC_mem he; obtain ⟨q, hq, rfl⟩ := List.mem_map.1 hp; have vg := vShape_good (h2 q hq); have h' := hitC_iff.1 hh; have e1 : (C q).2 = q.f1 ∧ (C q).1 = sets q.f0 := ⟨rfl, rfl⟩; rw [e1.1, e1.2] at h'; rw [e1.1, e1.2]; refine ⟨by omega, unr_range vg.2.2.2.1 (by omega) h'.2, ?_⟩; rw [unr_len, sets_len]; exact vg.1
end Go.Proofs.Ytoljcfocgaonpaa.PBS
end
section
namespace Go.Proofs.Ytoljcfocgaonpaa.PBS
open Go.RowKit Go.Proofs.YtoljcfocgaonpaaW.PrintWords Go.Proofs.YtoljcfocgaonpaaW.PrintLast Go.Proofs.YtoljcfocgaonpaaW.PrintMore Go.Proofs.Ytoljcfocgaonpaa.I Go.Proofs.LT Go.Proofs.Ytoljcfocgaonpaa.PB3
set_option linter.unusedVariables false
set_option linter.unusedSimpArgs false
def one1 (lo hi : Int) : List Sp := [⟨lo, hi⟩]
theorem one_valid {lo hi : Int} (h0 : 0 ≤ lo) (h1 : lo ≤ hi) (h2 : hi ≤ 255) : ValidFrom 255 (-2) (runs (one1 lo hi)) := ⟨h0, h1, h2, by show (-2 : Int) < lo - 1; omega, trivial⟩
theorem one_size (lo hi : Int) : size (runs (one1 lo hi)) = hi - lo + 1 := by
 show size [(lo, hi)] = _; rw [size_cons, size_nil]; omega
theorem one_ok {lo hi : Int} (h0 : 0 ≤ lo) (h1 : lo ≤ hi) (h2 : hi ≤ 255) : okPart (one1 lo hi) = true := by
 simp only [okPart, (validB_iff _ _ _).2 (one_valid h0 h1 h2)]; rfl
def some10 : List Sh := [⟨[one1 194 223, one1 128 191], 128⟩, ⟨[one1 0 127], 0⟩]
theorem c10a : cnt (sets [one1 194 223, one1 128 191]) = 1920 := by
 show cnt [runs (one1 194 223), runs (one1 128 191)] = 1920; rw [cnt_cons, cnt_cons, cnt_nil, one_size, one_size]; rfl
theorem c10b : cnt (sets [one1 0 127]) = 128 := by
 show cnt [runs (one1 0 127)] = 128; rw [cnt_cons, cnt_nil, one_size]; rfl
theorem v10 : vScheme some10 = true := by
 have h1 : vShape [one1 194 223, one1 128 191] 128 = true := by
  unfold vShape; rw [c10a]; simp [one_ok (show (0 : Int) ≤ 194 by decide) (show (194 : Int) ≤ 223 by decide) (by decide), one_ok (show (0 : Int) ≤ 128 by decide) (show (128 : Int) ≤ 191 by decide) (by decide)]
 have h2 : vShape [one1 0 127] 0 = true := by
  unfold vShape; rw [c10b]; simp [one_ok (show (0 : Int) ≤ 0 by decide) (show (0 : Int) ≤ 127 by decide) (by decide)]
 have h3 : meetsB ⟨[one1 0 127], 0⟩ ⟨[one1 194 223, one1 128 191], 128⟩ = false := by
  simp only [meetsB, lastOf, c10a, c10b]; decide
 show (decide (2 ≤ 32) && (vShape [one1 194 223, one1 128 191] 128 && (!([] : List Sh).any (meetsB _) && (vShape [one1 0 127] 0 && (!([⟨[one1 194 223, one1 128 191], 128⟩] : List Sh).any (meetsB ⟨[one1 0 127], 0⟩) && true))))) = true; rw [h1, h2]; simp [h3]
end Go.Proofs.Ytoljcfocgaonpaa.PBS
end
section
namespace Go.Proofs.Ytoljcfocgaonpaa.PBS
open Go.RowKit Go.Proofs.YtoljcfocgaonpaaW.PrintWords Go.Proofs.YtoljcfocgaonpaaW.PrintLast Go.Proofs.YtoljcfocgaonpaaW.PrintMore Go.Proofs.Ytoljcfocgaonpaa.I Go.Proofs.LT Go.Proofs.Ytoljcfocgaonpaa.PB3
set_option linter.unusedVariables false
set_option linter.unusedSimpArgs false
def InB (x : List Int) : Prop := ∀ b ∈ x, 0 ≤ b ∧ b ≤ 255
def cmpR (x y : List Int) : Int := if lexB x y = true then -1 else if lexB y x = true then 1 else 0
theorem cmp_is : ∀ (x y : List Int), InB x → InB y → Lib.compareBytes (Lib.bytesOf x) (Lib.bytesOf y) = cmpR x y
 | [], [], _, _ => rfl
 | [], b :: t, _, _ => rfl
 | a :: s, [], _, _ => rfl
 | a :: s, b :: t, hx, hy => by
  have h1 := hx a List.mem_cons_self; have h2 := hy b List.mem_cons_self; have ih := cmp_is s t (fun z hz => hx z (List.mem_cons_of_mem _ hz)) (fun z hz => hy z (List.mem_cons_of_mem _ hz)); show (if UInt8.ofNat a.toNat < UInt8.ofNat b.toNat then (-1 : Int) else if UInt8.ofNat b.toNat < UInt8.ofNat a.toNat then 1 else Lib.compareBytes (Lib.bytesOf s) (Lib.bytesOf t)) = _; rw [ih]; unfold cmpR; have p1 := byte_lt h1 h2; have p2 := byte_lt h2 h1; rcases (by omega : a < b ∨ a = b ∨ b < a) with h | h | h
  ·rw [if_pos (p1.2 h), if_pos (lexB_cons_iff.2 (.inl h))]
  ·subst h; rw [if_neg (fun q => by have := p1.1 q; omega), if_neg (fun q => by have := p1.1 q; omega), lexB_cons, lexB_cons, decide_eq_false (Int.lt_irrefl a), decide_eq_true rfl]; rfl
  ·rw [if_neg (fun q => by have := p1.1 q; omega), if_pos (p2.2 h), if_neg (fun q => by rcases lexB_cons_iff.1 q with q | q <;> omega), if_pos (lexB_cons_iff.2 (.inl h))]
theorem cmp_neg {x y : List Int} : cmpR x y ≥ 0 ↔ lexB x y = false := by
 unfold cmpR; cases h : lexB x y
 ·simp only [Bool.false_eq_true, if_false]; refine ⟨fun _ => trivial, fun _ => ?_⟩; split <;> decide
 ·simp
theorem cnt_at {p : Sh} (hv : vShape p.f0 p.f1 = true) : 1 ≤ cnt (sets p.f0) ∧ cnt (sets p.f0) ≤ 1073741824 ∧ 0 ≤ p.f1 ∧ p.f1 ≤ 1073741823 ∧ p.f1 + cnt (sets p.f0) - 1 ≤ 1073741823 := by
 obtain ⟨_, h2, _, h4, h5⟩ := vShape_good hv; have := cnt_pos h4; omega
theorem top_is {p : Sh} (hv : vShape p.f0 p.f1 = true) : unS p.f0 p.f1 (cnt (sets p.f0) - 1) = topC (C p) ∧ unS p.f0 p.f1 0 = botC (C p) := by
 have hc := cnt_at hv; have e : cntS p.f0 p.f1 = cnt (sets p.f0) := if_pos hv; have h1 : okB p.f0 p.f1 (cnt (sets p.f0) - 1) = true := decide_eq_true (by rw [e]; omega); have h2 : okB p.f0 p.f1 0 = true := decide_eq_true (by rw [e]; omega); exact ⟨by simp only [unS, h1, if_true]; rfl, by simp only [unS, h2, if_true]; rfl⟩
theorem topbot_in {p : Sh} (hv : vShape p.f0 p.f1 = true) : InB (topC (C p)) ∧ InB (botC (C p)) ∧ (topC (C p)).length ≤ 8 ∧ (botC (C p)).length ≤ 8 := by
 obtain ⟨h1, h2⟩ := top_is hv; have hl := (vShape_good hv).1; refine ⟨by rw [← h1]; exact unS_range _ _ _, by rw [← h2]; exact unS_range _ _ _, ?_, ?_⟩
 ·show (unr (sets p.f0) _).length ≤ 8; rw [unr_len, sets_len]; exact hl.2
 ·show (unr (sets p.f0) _).length ≤ 8; rw [unr_len, sets_len]; exact hl.2
theorem sort_of {l r : List Sh} (hl : l.length < 8796093022208) (hp : r.Perm l) (hs : r.Pairwise fun x y => x.f1 < y.f1) : sortShape.f l = some r := by
 have hne : r.Pairwise fun x y => x.f1 ≠ y.f1 := hs.imp (fun h => by omega)
 have hne2 : l.Pairwise fun x y => x.f1 ≠ y.f1 := (hp.pairwise_iff (fun h => Ne.symm h)).1 hne
 have h1 : sortShape.f l = some (l.mergeSort fun x y => decide (x.f1 ≤ y.f1)) := by
  unfold sortShape.f; rw [if_pos (show sortShape.ok l = true by simp only [sortShape.ok, Bool.and_eq_true, decide_eq_true_eq]; exact ⟨hl, hne2⟩)]
 obtain ⟨_, m1, m2, _⟩ := sortShape.merge h1; rw [h1, sortShape.uniq (m1.trans hp.symm) m2 hs]
theorem firsts_ne {ss : List Sh} (h : vScheme ss = true) : ss.Pairwise fun x y => x.f1 ≠ y.f1 := by
 obtain ⟨h0, hv, ha, hg⟩ := vScheme_facts h; clear h h0; induction ss with
 | nil => exact List.Pairwise.nil
 | cons p t ih =>
  have ha' : (∀ q ∈ cs t, lastC (C p) < q.2 ∨ lastC q < (C p).2) ∧ Apart (cs t) := ha; refine List.pairwise_cons.2 ⟨fun q hq e => ?_, ih (fun x hx => hv x (List.mem_cons_of_mem _ hx)) ha'.2 (fun x hx => hg x (List.mem_cons_of_mem _ hx))⟩; have h1 := cnt_at (hv p List.mem_cons_self); have h2 := cnt_at (hv q (List.mem_cons_of_mem _ hq)); have := ha'.1 (C q) (List.mem_map.2 ⟨q, hq, rfl⟩); rw [last_C, last_C] at this; have e1 : (C q).2 = q.f1 ∧ (C p).2 = p.f1 := ⟨rfl, rfl⟩; unfold lastOf at this; omega
theorem riseF_of : ∀ {l : List Sh}, l.Pairwise (fun x y => x.f1 < y.f1) → RiseF (cs l)
 | [], _ => trivial
 | p :: t, h => by
  have h' := List.pairwise_cons.1 h; refine ⟨fun q hq => ?_, riseF_of h'.2⟩; obtain ⟨a, ha, rfl⟩ := List.mem_map.1 hq; exact h'.1 a ha
theorem ord_loop (ls : List Sh) (hI : InS ls) (hl : ls.length ≤ 32) (hv : ∀ p ∈ ls, vShape p.f0 p.f1 = true) : ∀ (n i : Nat), i + 1 + n = ls.length →
 ∃ r, Ev (fun k => order_Check.l0 k ls ((i + 1 : Nat) : Int)) r ∧ ((adjB (cs (ls.drop i)) = true ∧ r = (true, 0, 0, 0)) ∨ (adjB (cs (ls.drop i)) = false ∧ ∃ (j : Nat) (hj : j + 1 < ls.length), lexB (topC (C ls[j])) (botC (C ls[j + 1])) = false ∧ r = (false, lastOf ls[j], ls[j + 1].f1, 0)))
 | 0, i, hi => by
  have hil : i < ls.length := by omega
  refine ⟨_, evSucc ?_, .inl ⟨?_, rfl⟩⟩
  ·simp only [order_Check.l0, if_neg (show ¬ ((i + 1 : Nat) : Int) < (ls.length : Int) by omega)]; exact evNow _
  ·rw [cs_drop ls i hil, List.drop_of_length_le (show ls.length ≤ i + 1 by omega)]; rfl
 | n + 1, i, hi => by
  have hil : i < ls.length := by omega
  have hil1 : i + 1 < ls.length := by omega
  have hw := succ_wrap (i + 1) (by omega); have w0 : Aside0 (wrap64 (((i + 1 : Nat) : Int) - 1) = (i : Int)) := Aside0.mk (by rw [w64 (by omega) (by omega)]; omega); have vi := hv _ (List.getElem_mem hil); have vj := hv _ (List.getElem_mem hil1); have ai := cnt_at vi; have ci := Count_is ls[i].f0 ls[i].f1 (hI.2 _ (List.getElem_mem _)); rw [if_pos vi] at ci; have w1 : Aside0 (wrap64 (cnt (sets ls[i].f0) - 1) = cnt (sets ls[i].f0) - 1) := Aside0.mk (w64 (by omega) (by omega)); have w2 : Aside0 (wrap64 (ls[i].f1 + (cnt (sets ls[i].f0) - 1)) = lastOf ls[i]) := Aside0.mk (by rw [w64 (by omega) (by omega)]; unfold lastOf; omega); have eAdj : adjB (cs (ls.drop i)) = (lexB (topC (C ls[i])) (botC (C ls[i + 1])) && adjB (cs (ls.drop (i + 1)))) := by
   rw [cs_drop ls i hil, cs_drop ls (i + 1) hil1]; rfl
  have ti := topbot_in vi; have tj := topbot_in vj; have hcmp := cmp_is _ _ ti.1 tj.2.1; cases hx : lexB (topC (C ls[i])) (botC (C ls[i + 1]))
  ·have hge : cmpR (topC (C ls[i])) (botC (C ls[i + 1])) ≥ 0 := cmp_neg.2 hx; refine ⟨_, evSucc ?_, .inr ⟨by rw [eAdj, hx]; rfl, i, hil1, hx, rfl⟩⟩; simp only [order_Check.l0, if_pos (show ((i + 1 : Nat) : Int) < (ls.length : Int) by omega), w0.out, if_pos (show (0 : Int) ≤ (i : Int) by omega), if_pos (show (i : Int) < (ls.length : Int) by omega), rdSh_at ls i hil, rdSh_at ls (i + 1) hil1]; refine Ev.bind ci ?_; simp only [w1.out, w2.out]; refine Ev.bind (Unrank_is _ _ _ (hI.2 _ (List.getElem_mem _))) ?_; simp only [if_pos (show (0 : Int) ≤ ((i + 1 : Nat) : Int) by omega)]; refine Ev.bind (Unrank_is _ _ _ (hI.2 _ (List.getElem_mem _))) ?_; simp only [bytes_Compare.f, Option.bind_some, (top_is vi).1, (top_is vj).2, hcmp, if_pos hge]; exact evNow _
  ·have hge : ¬ cmpR (topC (C ls[i])) (botC (C ls[i + 1])) ≥ 0 := fun h => by have := cmp_neg.1 h; rw [hx] at this; cases this
   obtain ⟨r, r1, r2⟩ := ord_loop ls hI hl hv n (i + 1) (by omega); refine ⟨r, evSucc ?_, ?_⟩
   ·simp only [order_Check.l0, if_pos (show ((i + 1 : Nat) : Int) < (ls.length : Int) by omega), w0.out, if_pos (show (0 : Int) ≤ (i : Int) by omega), if_pos (show (i : Int) < (ls.length : Int) by omega), rdSh_at ls i hil, rdSh_at ls (i + 1) hil1]; refine Ev.bind ci ?_; simp only [w1.out, w2.out]; refine Ev.bind (Unrank_is _ _ _ (hI.2 _ (List.getElem_mem _))) ?_; simp only [if_pos (show (0 : Int) ≤ ((i + 1 : Nat) : Int) by omega)]; refine Ev.bind (Unrank_is _ _ _ (hI.2 _ (List.getElem_mem _))) ?_; simp only [bytes_Compare.f, Option.bind_some, (top_is vi).1, (top_is vj).2, hcmp, if_neg hge, hw.out]; exact r1
   ·rw [eAdj, hx, Bool.true_and]; exact r2
def SpecO (ss : List Sh) (r : Bool × Int × Int × Int) : Prop :=
 (vScheme ss = false ∧ r = (false, 0, 0, 84)) ∨ (vScheme ss = true ∧ ((RisesC (cs ss) ∧ r = (true, 0, 0, 0)) ∨ (¬ RisesC (cs ss) ∧ ∃ U V x y, U < V ∧ encC (cs ss) U = some x ∧ encC (cs ss) V = some y ∧ lexB x y = false ∧ r = (false, U, V, 0))))
theorem orderCheck_is (ss : List Sh) (hI : InS ss) : ∃ r, Ev (fun k => order_Check.f k ss) r ∧ SpecO ss r := by
 simp only [order_Check.f]; cases h : vScheme ss
 ·refine ⟨_, Ev.bind (schemeValid_is ss hI) ?_, .inl ⟨h, rfl⟩⟩; simp only [h, Bool.false_eq_true, if_false]; exact evNow _
 ·obtain ⟨h1, h2, ha, hg⟩ := vScheme_facts h; have hne := firsts_ne h; have hcl : cloneShape.f ss = some ss := by unfold cloneShape.f; rw [if_pos (by omega)]
  have hso : sortShape.f ss = some (ss.mergeSort fun x y => decide (x.f1 ≤ y.f1)) := by
   unfold sortShape.f; rw [if_pos (show sortShape.ok ss = true by simp only [sortShape.ok, Bool.and_eq_true, decide_eq_true_eq]; exact ⟨by omega, hne⟩)]
  obtain ⟨_, m1, m2, _⟩ := sortShape.merge hso; generalize (ss.mergeSort fun x y => decide (x.f1 ≤ y.f1)) = ls at hso m1 m2; have hll : ls.length = ss.length := m1.length_eq; have hIl : InS ls := ⟨by rw [hll]; exact hI.1, fun p hp => hI.2 p (m1.subset hp)⟩; have hvl : ∀ p ∈ ls, vShape p.f0 p.f1 = true := fun p hp => h2 p (m1.subset hp)
  have hgl : AllGood (cs ls) := fun p hp => hg p ((m1.map C).subset hp)
  have hadj : adjB (cs ls) = true ↔ RisesC (cs ss) := by
   exact ⟨fun q => (rises_perm (m1.map C)).1 (adj_rises hgl (riseF_of m2) q), fun q => rises_adj (riseF_of m2) ((rises_perm (m1.map C)).2 q)⟩
  have key : ∃ r, Ev (fun k => order_Check.l0 k ls 1) r ∧ SpecO ss r := by
   by_cases h0 : ls.length = 0
   ·have e : ls = [] := List.eq_nil_of_length_eq_zero h0; subst e; refine ⟨_, evSucc ?_, .inr ⟨h, .inl ⟨hadj.1 rfl, rfl⟩⟩⟩; simp only [order_Check.l0, List.length_nil, if_neg (show ¬ (1 : Int) < ((0 : Nat) : Int) by omega)]; exact evNow _
   ·obtain ⟨r, r1, r2⟩ := ord_loop ls hIl (by omega) hvl (ls.length - 1) 0 (by omega); rw [List.drop_zero] at r2; refine ⟨r, r1, .inr ⟨h, ?_⟩⟩; rcases r2 with ⟨r2, rfl⟩ | ⟨r2, j, hj, r3, rfl⟩
    ·exact .inl ⟨hadj.1 r2, rfl⟩
    ·refine .inr ⟨fun q => (by rw [hadj.2 q] at r2; cases r2), _, _, topC (C ls[j]), botC (C ls[j + 1]), ?_, ?_, ?_, r3, rfl⟩
     ·have hlt : ls[j].f1 < ls[j + 1].f1 := (List.pairwise_iff_getElem.1 m2) j (j + 1) (by omega) hj (by omega); exact apart_lt ha hg (p := C ls[j]) (q := C ls[j + 1]) ((m1.map C).subset (List.mem_map.2 ⟨_, List.getElem_mem _, rfl⟩)) ((m1.map C).subset (List.mem_map.2 ⟨_, List.getElem_mem _, rfl⟩)) hlt
     ·have mj : C ls[j] ∈ cs ss := (m1.map C).subset (List.mem_map.2 ⟨_, List.getElem_mem _, rfl⟩); have := hit_last (hg _ mj); rw [encC_of ha mj (u := lastOf ls[j]) this.1]; exact congrArg some this.2
     ·have mj : C ls[j + 1] ∈ cs ss := (m1.map C).subset (List.mem_map.2 ⟨_, List.getElem_mem _, rfl⟩); have := hit_first (hg _ mj); rw [encC_of ha mj (u := ls[j + 1].f1) this.1]; exact congrArg some this.2
  obtain ⟨r, r1, r2⟩ := key; refine ⟨r, Ev.bind (schemeValid_is ss hI) ?_, r2⟩; simp only [h, if_true, hcl, hso, Option.bind_some]; exact r1
def o12a : List Sh := [⟨[one1 80 81], 10⟩, ⟨[one1 65 66], 0⟩]
def o12a' : List Sh := [⟨[one1 65 66], 0⟩, ⟨[one1 80 81], 10⟩]
def o12b : List Sh := [⟨[one1 65 65], 10⟩, ⟨[one1 66 66], 0⟩]
def o12b' : List Sh := [⟨[one1 66 66], 0⟩, ⟨[one1 65 65], 10⟩]
theorem check_at (l l' : List Sh) (v : Bool × Int × Int × Int) (hl : l.length ≤ 4) (h1 : Ev (fun k => scheme_Valid.f k l) true) (h2 : sortShape.f l = some l') (h3 : Ev (fun k => order_Check.l0 k l' 1) v) : Ev (fun k => order_Check.f k l) v := by
 simp only [order_Check.f]; refine Ev.bind h1 ?_; simp only [if_true, show cloneShape.f l = some l by unfold cloneShape.f; rw [if_pos (by omega)], h2, Option.bind_some]; exact h3
theorem check12a : Ev (fun k => order_Check.f k o12a) (true, 0, 0, 0) :=
 check_at o12a o12a' _ (by decide) (Ev.of (k := 40) (scheme_Valid.mono _) (by kernel_rfl)) (sort_of (by decide) (List.Perm.swap _ _ _) (by
  refine List.pairwise_cons.2 ⟨fun q hq => ?_, List.pairwise_singleton _ _⟩; rw [List.mem_singleton.1 hq]; decide)) (Ev.of (k := 40) (fun k => order_Check.mono_l k _ _) (by kernel_rfl))
theorem check12b : Ev (fun k => order_Check.f k o12b) (false, 0, 10, 0) :=
 check_at o12b o12b' _ (by decide) (Ev.of (k := 40) (scheme_Valid.mono _) (by kernel_rfl)) (sort_of (by decide) (List.Perm.swap _ _ _) (by
  refine List.pairwise_cons.2 ⟨fun q hq => ?_, List.pairwise_singleton _ _⟩; rw [List.mem_singleton.1 hq]; decide)) (Ev.of (k := 40) (fun k => order_Check.mono_l k _ _) (by kernel_rfl))
theorem fixed12 : Ev (fun k => leadtraillaw12_fixed.f k) true := by
 simp only [leadtraillaw12_fixed.f, leadtraillaw12_one.f, Option.bind_some]; refine Ev.bind check12a (Ev.bind check12b ?_); exact evNow _
end Go.Proofs.Ytoljcfocgaonpaa.PBS
end
section
namespace Go.Proofs.Ytoljcfocgaonpaa.PBS
open Go.RowKit Go.Proofs.YtoljcfocgaonpaaW.PrintWords Go.Proofs.YtoljcfocgaonpaaW.PrintLast Go.Proofs.YtoljcfocgaonpaaW.PrintMore Go.Proofs.Ytoljcfocgaonpaa.I Go.Proofs.LT Go.Proofs.Ytoljcfocgaonpaa.PB3
set_option linter.unusedVariables false
set_option linter.unusedSimpArgs false
theorem codF_is (fr : Int) : ∀ (ls : List Sh), InS ls → (∀ p ∈ ls, vShape p.f0 p.f1 = true) → ∃ K, ∀ k, K ≤ k → CodF k fr ls (allC (cs ls) fr)
 | [], _, _ => ⟨0, fun k _ => rfl⟩
 | p :: t, hI, hv => by
  have hv0 := hv p List.mem_cons_self; have hI0 := hI.2 p List.mem_cons_self; obtain ⟨⟨l1, l2⟩, ⟨a1, a2⟩, hk, hg, hcn⟩ := vShape_good hv0; have hcp := cnt_pos hg; obtain ⟨K, ih⟩ := codF_is fr t ⟨by have := hI.1; simp only [List.length_cons] at this; omega, fun q hq => hI.2 q (List.mem_cons_of_mem _ hq)⟩ (fun q hq => hv q (List.mem_cons_of_mem _ hq)); obtain ⟨K1, h1⟩ := Count_is p.f0 p.f1 hI0; rw [if_pos hv0] at h1; obtain ⟨K2, h2⟩ := sCopy_one p.f0 p.f1 hI0; obtain ⟨K3, L, h3⟩ := allF_ev p.f0 p.f1 (max fr p.f1 - p.f1) hI0; have hcs : cntS p.f0 p.f1 = cnt (sets p.f0) := by unfold cntS; rw [if_pos hv0]
  refine ⟨max (max K K1) (max K2 K3), fun k hk => ⟨cnt (sets p.f0), h1 k (by omega), ⟨a1, a2⟩, ?_⟩⟩; by_cases c : p.f1 < fr ∧ cnt (sets p.f0) ≤ fr - p.f1
  ·left
   refine ⟨c, ?_⟩; have e : lstC (C p) fr = [] := by
    unfold lstC; rw [show (lastC (C p) + 1 - max fr (C p).2).toNat = 0 by show (p.f1 + cnt (sets p.f0) - 1 + 1 - max fr p.f1).toNat = 0; omega]; rfl
   show CodF k fr t (lstC (C p) fr ++ allC (cs t) fr); rw [e, List.nil_append]; exact ih k (by omega)
  ·right
   have hN : (nSq p.f0 p.f1 (max fr p.f1 - p.f1) : Int) = cnt (sets p.f0) - (max fr p.f1 - p.f1) := by
    unfold nSq; rw [hcs]; omega
   refine ⟨c, _, _, nSq p.f0 p.f1 (max fr p.f1 - p.f1), sqOf p.f0 (max fr p.f1 - p.f1), L, allC (cs t) fr, h2 k (by omega), h3 k (by omega), fun _ => by omega, ?_, ih k (by omega)⟩; show lstC (C p) fr ++ allC (cs t) fr = _; congr 1
   unfold lstC; rw [show (lastC (C p) + 1 - max fr (C p).2).toNat = nSq p.f0 p.f1 (max fr p.f1 - p.f1) by show (p.f1 + cnt (sets p.f0) - 1 + 1 - max fr p.f1).toNat = _; omega]; refine List.map_congr_left fun j _ => ?_
   show (max fr p.f1 + (j : Int), unr (sets p.f0) (max fr p.f1 - p.f1 + (j : Int))) = (p.f1 + (max fr p.f1 - p.f1 + (j : Int)), unr (sets p.f0) (max (max fr p.f1 - p.f1) 0 + (j : Int))); rw [show max (max fr p.f1 - p.f1) 0 = max fr p.f1 - p.f1 by omega]; congr 1
   omega
theorem rising_is (ss : List Sh) (hI : InS ss) : ∃ r, Ev (fun k => code_rising.f k ss) r ∧ InS r ∧ (∀ p ∈ r, vShape p.f0 p.f1 = true) ∧ r.length ≤ 32 ∧ ((vScheme ss = false ∧ r = []) ∨ (vScheme ss = true ∧ (cs r).Perm (cs ss) ∧ Apart (cs r) ∧ AllGood (cs r) ∧ RiseF (cs r))) := by
 cases h : vScheme ss
 ·refine ⟨[], ?_, ⟨by simp, fun p hp => (by cases hp)⟩, fun p hp => (by cases hp), by simp, .inl ⟨rfl, rfl⟩⟩; unfold code_rising.f; refine Ev.bind (schemeValid_is ss hI) ?_; simp only [h, Bool.false_eq_true, if_false]; exact evNow _
 ·obtain ⟨h1, h2, ha, hg⟩ := vScheme_facts h; have hne := firsts_ne h; have hso : sortShape.f ss = some (ss.mergeSort fun x y => decide (x.f1 ≤ y.f1)) := by
   unfold sortShape.f; rw [if_pos (show sortShape.ok ss = true by simp only [sortShape.ok, Bool.and_eq_true, decide_eq_true_eq]; exact ⟨by omega, hne⟩)]
  obtain ⟨_, m1, m2, _⟩ := sortShape.merge hso; generalize (ss.mergeSort fun x y => decide (x.f1 ≤ y.f1)) = ls at hso m1 m2; have hll : ls.length = ss.length := m1.length_eq; have hIl : InS ls := ⟨by rw [hll]; exact hI.1, fun p hp => hI.2 p (m1.subset hp)⟩; have hgl : AllGood (cs ls) := fun p hp => hg p ((m1.map C).subset hp)
  have hrf := riseF_of m2; refine ⟨ls, ?_, hIl, fun p hp => h2 p (m1.subset hp), by omega, .inr ⟨rfl, m1.map C, ?_, hgl, hrf⟩⟩
  ·unfold code_rising.f; refine Ev.bind (schemeValid_is ss hI) ?_; simp only [h, if_true]; refine Ev.bind (sCopy_is ss hI) ?_; rw [hso]; exact evNow _
  ·refine apart_of_rise hrf fun p hp q hq hlt => ?_
   exact apart_lt ha hg ((m1.map C).subset hp) ((m1.map C).subset hq) hlt
def HitS (l : List Cs) (u : Int) : Prop := ∃ p ∈ l, hitC u p = true
def LeastIn (l : List Cs) (u : Int) (r : Int × Bool) : Prop := (r = (0, false) ∧ ∀ y, HitS l y → ¬ u ≤ y) ∨ (∃ x, r = (x, true) ∧ HitS l x ∧ u ≤ x ∧ ∀ y, HitS l y → u ≤ y → x ≤ y)
theorem LeastIn.uniq {l : List Cs} {u : Int} {r s : Int × Bool} (h : LeastIn l u r) (k : LeastIn l u s) : r = s := by
 rcases h with ⟨rfl, h⟩ | ⟨x, rfl, h1, h2, h3⟩ <;> rcases k with ⟨rfl, k⟩ | ⟨y, rfl, k1, k2, k3⟩
 ·rfl
 ·exact absurd k2 (h y k1)
 ·exact absurd h2 (k x h1)
 ·have := h3 y k1 k2; have := k3 x h1 h2; rw [show x = y by omega]
end Go.Proofs.Ytoljcfocgaonpaa.PBS
end
section
namespace Go.Proofs.Ytoljcfocgaonpaa.PBS
open Go.RowKit Go.Proofs.YtoljcfocgaonpaaW.PrintWords Go.Proofs.YtoljcfocgaonpaaW.PrintLast Go.Proofs.YtoljcfocgaonpaaW.PrintMore Go.Proofs.Ytoljcfocgaonpaa.I Go.Proofs.LT Go.Proofs.Ytoljcfocgaonpaa.PB3
set_option linter.unusedVariables false
set_option linter.unusedSimpArgs false
theorem ltS_is {x y : List Int} (hx : InB x) (hy : InB y) : ltS x y = lexB x y := by
 unfold ltS; rw [Lib.strOfNums_toList, Lib.strOfNums_toList]; exact less_is x y hx hy
theorem rsO_is (L : List (Int × List Int)) (hb : ∀ x ∈ L, InB x.2) : ∀ n, n ≤ L.length → ((rsO L n).1 = true ↔ ∀ i, i + 1 < n → ∀ x y, L[i]? = some x → L[i + 1]? = some y → lexB x.2 y.2 = true) ∧ (∀ x, 0 < n → L[n - 1]? = some x → (rsO L n).2 = x.2)
 | 0, _ => ⟨⟨fun _ i h => absurd h (Nat.not_lt_zero _), fun _ => rfl⟩, fun _ h => absurd h (Nat.lt_irrefl _)⟩
 | n + 1, hn => by
  obtain ⟨ih1, ih2⟩ := rsO_is L hb n (by omega); have hl : n < L.length := by omega
  have e : rsO L (n + 1) = ((rsO L n).1 && (decide (n = 0) || ltS (rsO L n).2 L[n].2), L[n].2) := by rw [rsO, List.getElem?_eq_getElem hl]
  rw [e]; refine ⟨?_, fun x _ hx => by rw [Nat.add_sub_cancel, List.getElem?_eq_getElem hl] at hx; injection hx with hx; rw [← hx]⟩; rw [Bool.and_eq_true, ih1, Bool.or_eq_true, decide_eq_true_iff]; constructor
  ·rintro ⟨h1, h2⟩ i hi x y hx hy; rcases (by omega : i + 1 < n ∨ i + 1 = n) with c | c
   ·exact h1 i c x y hx hy
   ·subst c; rcases h2 with h2 | h2
    ·omega
    ·have := ih2 x (by omega) (by rw [Nat.add_sub_cancel]; exact hx); rw [List.getElem?_eq_getElem hl] at hy; injection hy with hy
     rw [this, hy, ltS_is (hb x (List.mem_of_getElem? hx)) (hb y (by rw [← hy]; exact List.getElem_mem hl))] at h2; exact h2
  ·refine fun h => ⟨fun i hi => h i (by omega), ?_⟩
   by_cases c : n = 0
   ·exact .inl c
   ·right
    have hl1 : n - 1 < L.length := by omega
    rw [ih2 L[n - 1] (by omega) (List.getElem?_eq_getElem hl1), ltS_is (hb _ (List.getElem_mem hl1)) (hb _ (List.getElem_mem hl))]; exact h (n - 1) (by omega) _ _ (List.getElem?_eq_getElem hl1) (by rw [show n - 1 + 1 = n by omega]; exact List.getElem?_eq_getElem hl)
theorem near_far {L : List (Int × List Int)} (h : ∀ i x y, L[i]? = some x → L[i + 1]? = some y → lexB x.2 y.2 = true) : ∀ (d i : Nat) (x y : Int × List Int), L[i]? = some x → L[i + 1 + d]? = some y → lexB x.2 y.2 = true
 | 0, i, x, y, hx, hy => h i x y hx hy
 | d + 1, i, x, y, hx, hy => by
  have hl : i + 1 + d < L.length := by have := (List.getElem?_eq_some_iff.1 hy).1; omega
  exact lexB_trans (near_far h d i x _ hx (List.getElem?_eq_getElem hl)) (h (i + 1 + d) _ y (List.getElem?_eq_getElem hl) hy)
theorem all_rises {l : List Cs} (ha : Apart l) (hg : AllGood l) (hr : RiseF l) (h0 : ∀ p ∈ l, 0 ≤ p.2) : (∀ i x y, (allC l 0)[i]? = some x → (allC l 0)[i + 1]? = some y → lexB x.2 y.2 = true) ↔ RisesC l := by
 have hs := all_lt (fr := 0) ha hg hr; have henc : ∀ x ∈ allC l 0, encC l x.1 = some x.2 := fun x hx => by
  obtain ⟨_, p, hp, h1, h2⟩ := all_mem.1 (show (x.1, x.2) ∈ allC l 0 from hx); rw [encC_of ha hp h1, h2]
 constructor
 ·intro h p hp q hq hlt; have hgp := hg p hp; have hgq := hg q hq; obtain ⟨p1, p2⟩ := hit_last hgp; obtain ⟨q1, q2⟩ := hit_first hgq; have hpl := (hitC_iff.1 p1).1; have hup := h0 p hp; have huq := h0 q hq; have hx : (lastC p, topC p) ∈ allC l 0 := all_mem.2 ⟨by omega, p, hp, p1, p2.symm⟩; have hy : (q.2, botC q) ∈ allC l 0 := all_mem.2 ⟨huq, q, hq, q1, q2.symm⟩; have hu := apart_lt ha hg hp hq hlt; obtain ⟨i, hi, ei⟩ := List.getElem_of_mem hx; obtain ⟨j, hj, ej⟩ := List.getElem_of_mem hy; have hij : i < j := by
   rcases Nat.lt_trichotomy i j with c | c | c
   ·exact c
   ·subst c; rw [ei] at ej; injection ej with e1 e2
    omega
   ·have := (List.pairwise_iff_getElem.1 hs) j i hj hi c; rw [ei, ej] at this; simp only at this; omega
  exact near_far h (j - i - 1) i _ _ (by rw [List.getElem?_eq_getElem hi, ei]) (by rw [show i + 1 + (j - i - 1) = j by omega, List.getElem?_eq_getElem hj, ej])
 ·intro h i x y hx hy; obtain ⟨hi, ei⟩ := List.getElem?_eq_some_iff.1 hx; obtain ⟨hj, ej⟩ := List.getElem?_eq_some_iff.1 hy; have := (List.pairwise_iff_getElem.1 hs) i (i + 1) hi hj (by omega); rw [ei, ej] at this; exact rises_lt ha hg h (henc x (List.mem_of_getElem? hx)) (henc y (List.mem_of_getElem? hy)) this
theorem leadtraillaw12_OrderAll_ev (ss : List Sh) (hI : InS ss) : ∃ k, leadtraillaw12_OrderAll.Good k ss := by
 obtain ⟨K0, h0⟩ := fixed12; obtain ⟨⟨r1, r2, r3, r4⟩, ⟨K1, h1⟩, hc⟩ := orderCheck_is ss hI; obtain ⟨r, ⟨K2, h2⟩, hIr, hvr, hlr, hcase⟩ := rising_is ss hI; obtain ⟨K3, h3⟩ := codF_is 0 r hIr hvr; refine ⟨max (max K0 K1) K2, r1, r2, r3, r4, h0 _ (by omega), h1 _ (by omega), ?_⟩; rcases hc with ⟨hv, e⟩ | ⟨hv, hc⟩
 ·injection e with e1 e2
  injection e2 with e2 e3
  injection e3 with e3 e4
  exact .inl ⟨by omega, e1⟩
 ·rcases hcase with ⟨hv2, _⟩ | ⟨_, hp, ha, hg, hr⟩
  ·rw [hv] at hv2; cases hv2
  ·have hb : ∀ x ∈ allC (cs r) 0, InB x.2 := by
    rintro ⟨u, b⟩ hx; obtain ⟨_, p, q2, q3, q4⟩ := all_mem.1 hx; obtain ⟨_, _, ha', _⟩ := vScheme_facts hv; have he := encC_of ha' (hp.subset q2) q3; rw [← q4] at he; exact (enc_range hv he).2.1
   have hz : ∀ p ∈ cs r, 0 ≤ p.2 := fun p hp => by
    obtain ⟨q, hq, rfl⟩ := List.mem_map.1 hp; exact (vShape_good (hvr q hq)).2.1.1
   have hiff : (rsO (allC (cs r) 0) (allC (cs r) 0).length).1 = true ↔ RisesC (cs ss) := by
    rw [(rsO_is _ hb _ (Nat.le_refl _)).1, ← rises_perm hp, ← all_rises ha hg hr hz]; exact ⟨fun h i x y hx hy => h i (List.getElem?_eq_some_iff.1 hy).1 x y hx hy, fun h i _ x y hx hy => h i x y hx hy⟩
   have hr4 : r4 = 0 ∧ (r1 = true ↔ RisesC (cs ss)) := by
    rcases hc with ⟨hR, e⟩ | ⟨hR, U, V, x, y, _, _, _, _, e⟩
    ·injection e with e1 e2; injection e2 with e2 e3; injection e3 with e3 e4
     exact ⟨e4, fun _ => hR, fun _ => e1⟩
    ·injection e with e1 e2; injection e2 with e2 e3; injection e3 with e3 e4
     exact ⟨e4, ⟨fun h => (by rw [e1] at h; cases h), fun h => absurd h hR⟩⟩
   refine .inr ⟨hr4.1, K3, r, _, h2 _ (by omega), h3 _ (Nat.le_refl _), by omega, fun _ => ?_⟩; rw [Bool.eq_iff_iff, hr4.2, hiff]
end Go.Proofs.Ytoljcfocgaonpaa.PBS
namespace Go.Proofs.Ytoljcfocgaonpaa.Pure
open Go.Proofs.Ytoljcfocgaonpaa.I Go.Proofs.YtoljcfocgaonpaaW.PrintWords
theorem OrderAll : ∀ (l0_0 : List S47), (l0_0.length * 32 ≤ 140737488351232 ∧ ∀ x ∈ l0_0, ((x.f0.length * 24 ≤ 140737488351232 ∧ ∀ y ∈ x.f0, (y.length * 16 ≤ 140737488351232 ∧ ∀ x ∈ y, ((Lit.int .i64 x.f0).wf = true ∧ (Lit.int .i64 x.f1).wf = true))) ∧ (Lit.int .i64 x.f1).wf = true)) → ∃ k, leadtraillaw12_OrderAll.f k l0_0 = some true :=
 fun l0 h => by
  obtain ⟨k, hk⟩ := PBS.leadtraillaw12_OrderAll_ev l0 ⟨h.1, fun x hx => ⟨(h.2 x hx).1.1, fun y hy => ((h.2 x hx).1.2 y hy).1⟩⟩; refine ⟨k, ?_⟩; unfold leadtraillaw12_OrderAll.f; rw [if_pos hk]
end Go.Proofs.Ytoljcfocgaonpaa.Pure
end
