/- Words and laws of this claim, of 2 texts. -/
import Derived.Test.YtkcklnmbeinfkaaKpBx8
import Derived.Test.YtkcklnmbeinfkaaKpBx23
import Derived.Test.YtkcklnmbeinfkaaKpBx24
import Derived.Test.YtkcklnmbeinfkaaKpBx0
import Derived.Test.YtkcklnmbeinfkaaKpBx5
import Derived.Test.YtkcklnmbeinfkaaKpBx9
import Derived.Test.YtkcklnmbeinfkaaKpBx30
import Derived.KernelRfl
import Derived.Test.YtkcklnmbeinfkaaKpQP0
section
namespace Go.Proofs.Ytkcklnmbeinfkaa.PBS
open Go.RowKit Go.Proofs.YtkcklnmbeinfkaaW.PrintWords Go.Proofs.YtkcklnmbeinfkaaW.PrintLast Go.Proofs.YtkcklnmbeinfkaaW.PrintMore Go.Proofs.Ytkcklnmbeinfkaa.B Go.Proofs.LT Go.Proofs.Ytkcklnmbeinfkaa.PB3
set_option linter.unusedVariables false
set_option linter.unusedSimpArgs false
def InB (x : List Int) : Prop := ∀ b ∈ x, 0 ≤ b ∧ b ≤ 255
def cmpR (x y : List Int) : Int := if lexB x y = true then -1 else if lexB y x = true then 1 else 0
theorem cmp_is : ∀ (x y : List Int), InB x → InB y → Lib.compareBytes (Lib.bytesOf x) (Lib.bytesOf y) = cmpR x y
 | [], [], _, _ => rfl
 | [], b :: t, _, _ => rfl
 | a :: s, [], _, _ => rfl
 | a :: s, b :: t, hx, hy => by
  have h1 := hx a List.mem_cons_self; have h2 := hy b List.mem_cons_self; have ih := cmp_is s t (fun z hz => hx z (List.mem_cons_of_mem _ hz)) (fun z hz => hy z (List.mem_cons_of_mem _ hz)); show (if UInt8.ofNat a.toNat < UInt8.ofNat b.toNat then (-1 : Int) else if UInt8.ofNat b.toNat < UInt8.ofNat a.toNat then 1 else Lib.compareBytes (Lib.bytesOf s) (Lib.bytesOf t)) = _; rw [ih]; unfold cmpR; have p1 := byte_lt h1 h2; have p2 := byte_lt h2 h1; rcases (by omega : a < b ∨ a = b ∨ b < a) with h | h | h
  ·rw [if_pos (p1.2 h), if_pos (lexB_cons_iff.2 (.inl h))]
  ·subst h; rw [if_neg (fun q => by have := p1.1 q; omega), if_neg (fun q => by have := p1.1 q; omega), lexB_cons, lexB_cons, decide_eq_false (Int.lt_irrefl a), decide_eq_true rfl]; rfl
  ·rw [if_neg (fun q => by have := p1.1 q; omega), if_pos (p2.2 h), if_neg (fun q => by rcases lexB_cons_iff.1 q with q | q <;> omega), if_pos (lexB_cons_iff.2 (.inl h))]
theorem cmp_neg {x y : List Int} : cmpR x y ≥ 0 ↔ lexB x y = false := by
 unfold cmpR; cases h : lexB x y
 ·simp only [Bool.false_eq_true, if_false]; refine ⟨fun _ => trivial, fun _ => ?_⟩; split <;> decide
 ·simp
theorem cnt_at {p : Sh} (hv : vShape p.f0 p.f1 = true) : 1 ≤ cnt (sets p.f0) ∧ cnt (sets p.f0) ≤ 1073741824 ∧ 0 ≤ p.f1 ∧ p.f1 ≤ 1073741823 ∧ p.f1 + cnt (sets p.f0) - 1 ≤ 1073741823 := by
 obtain ⟨_, h2, _, h4, h5⟩ := vShape_good hv; have := cnt_pos h4; omega
theorem top_is {p : Sh} (hv : vShape p.f0 p.f1 = true) : unS p.f0 p.f1 (cnt (sets p.f0) - 1) = topC (C p) ∧ unS p.f0 p.f1 0 = botC (C p) := by
 have hc := cnt_at hv; have e : cntS p.f0 p.f1 = cnt (sets p.f0) := if_pos hv; have h1 : okB p.f0 p.f1 (cnt (sets p.f0) - 1) = true := decide_eq_true (by rw [e]; omega); have h2 : okB p.f0 p.f1 0 = true := decide_eq_true (by rw [e]; omega); exact ⟨by simp only [unS, h1, if_true]; rfl, by simp only [unS, h2, if_true]; rfl⟩
theorem topbot_in {p : Sh} (hv : vShape p.f0 p.f1 = true) : InB (topC (C p)) ∧ InB (botC (C p)) ∧ (topC (C p)).length ≤ 8 ∧ (botC (C p)).length ≤ 8 := by
 obtain ⟨h1, h2⟩ := top_is hv; have hl := (vShape_good hv).1; refine ⟨by rw [← h1]; exact unS_range _ _ _, by rw [← h2]; exact unS_range _ _ _, ?_, ?_⟩
 ·show (unr (sets p.f0) _).length ≤ 8; rw [unr_len, sets_len]; exact hl.2
 ·show (unr (sets p.f0) _).length ≤ 8; rw [unr_len, sets_len]; exact hl.2
theorem sort_of {l r : List Sh} (hl : l.length < 8796093022208) (hp : r.Perm l) (hs : r.Pairwise fun x y => x.f1 < y.f1) : sortShape.f l = some r := by
 have hne : r.Pairwise fun x y => x.f1 ≠ y.f1 := hs.imp (fun h => by omega)
 have hne2 : l.Pairwise fun x y => x.f1 ≠ y.f1 := (hp.pairwise_iff (fun h => Ne.symm h)).1 hne
 have h1 : sortShape.f l = some (l.mergeSort fun x y => decide (x.f1 ≤ y.f1)) := by
  unfold sortShape.f; rw [if_pos (show sortShape.ok l = true by simp only [sortShape.ok, Bool.and_eq_true, decide_eq_true_eq]; exact ⟨hl, hne2⟩)]
 obtain ⟨_, m1, m2, _⟩ := sortShape.merge h1; rw [h1, sortShape.uniq (m1.trans hp.symm) m2 hs]
theorem firsts_ne {ss : List Sh} (h : vScheme ss = true) : ss.Pairwise fun x y => x.f1 ≠ y.f1 := by
 obtain ⟨h0, hv, ha, hg⟩ := vScheme_facts h; clear h h0; induction ss with
 | nil => exact List.Pairwise.nil
 | cons p t ih =>
  have ha' : (∀ q ∈ cs t, lastC (C p) < q.2 ∨ lastC q < (C p).2) ∧ Apart (cs t) := ha; refine List.pairwise_cons.2 ⟨fun q hq e => ?_, ih (fun x hx => hv x (List.mem_cons_of_mem _ hx)) ha'.2 (fun x hx => hg x (List.mem_cons_of_mem _ hx))⟩; have h1 := cnt_at (hv p List.mem_cons_self); have h2 := cnt_at (hv q (List.mem_cons_of_mem _ hq)); have := ha'.1 (C q) (List.mem_map.2 ⟨q, hq, rfl⟩); rw [last_C, last_C] at this; have e1 : (C q).2 = q.f1 ∧ (C p).2 = p.f1 := ⟨rfl, rfl⟩; unfold lastOf at this; omega
theorem riseF_of : ∀ {l : List Sh}, l.Pairwise (fun x y => x.f1 < y.f1) → RiseF (cs l)
 | [], _ => trivial
 | p :: t, h => by
  have h' := List.pairwise_cons.1 h; refine ⟨fun q hq => ?_, riseF_of h'.2⟩; obtain ⟨a, ha, rfl⟩ := List.mem_map.1 hq; exact h'.1 a ha
theorem ord_loop (ls : List Sh) (hI : InS ls) (hl : ls.length ≤ 32) (hv : ∀ p ∈ ls, vShape p.f0 p.f1 = true) : ∀ (n i : Nat), i + 1 + n = ls.length →
 ∃ r, Ev (fun k => order_Check.l0 k ls ((i + 1 : Nat) : Int)) r ∧ ((adjB (cs (ls.drop i)) = true ∧ r = (true, 0, 0, 0)) ∨ (adjB (cs (ls.drop i)) = false ∧ ∃ (j : Nat) (hj : j + 1 < ls.length), lexB (topC (C ls[j])) (botC (C ls[j + 1])) = false ∧ r = (false, lastOf ls[j], ls[j + 1].f1, 0)))
 | 0, i, hi => by
  have hil : i < ls.length := by omega
  refine ⟨_, evSucc ?_, .inl ⟨?_, rfl⟩⟩
  ·simp only [order_Check.l0, if_neg (show ¬ ((i + 1 : Nat) : Int) < (ls.length : Int) by omega)]; exact evNow _
  ·rw [cs_drop ls i hil, List.drop_of_length_le (show ls.length ≤ i + 1 by omega)]; rfl
 | n + 1, i, hi => by
  have hil : i < ls.length := by omega
  have hil1 : i + 1 < ls.length := by omega
  have hw := succ_wrap (i + 1) (by omega); have w0 : Aside0 (wrap64 (((i + 1 : Nat) : Int) - 1) = (i : Int)) := Aside0.mk (by rw [w64 (by omega) (by omega)]; omega); have vi := hv _ (List.getElem_mem hil); have vj := hv _ (List.getElem_mem hil1); have ai := cnt_at vi; have ci := Count_is ls[i].f0 ls[i].f1 (hI.2 _ (List.getElem_mem _)); rw [if_pos vi] at ci; have w1 : Aside0 (wrap64 (cnt (sets ls[i].f0) - 1) = cnt (sets ls[i].f0) - 1) := Aside0.mk (w64 (by omega) (by omega)); have w2 : Aside0 (wrap64 (ls[i].f1 + (cnt (sets ls[i].f0) - 1)) = lastOf ls[i]) := Aside0.mk (by rw [w64 (by omega) (by omega)]; unfold lastOf; omega); have eAdj : adjB (cs (ls.drop i)) = (lexB (topC (C ls[i])) (botC (C ls[i + 1])) && adjB (cs (ls.drop (i + 1)))) := by
   rw [cs_drop ls i hil, cs_drop ls (i + 1) hil1]; rfl
  have ti := topbot_in vi; have tj := topbot_in vj; have hcmp := cmp_is _ _ ti.1 tj.2.1; cases hx : lexB (topC (C ls[i])) (botC (C ls[i + 1]))
  ·have hge : cmpR (topC (C ls[i])) (botC (C ls[i + 1])) ≥ 0 := cmp_neg.2 hx; refine ⟨_, evSucc ?_, .inr ⟨by rw [eAdj, hx]; rfl, i, hil1, hx, rfl⟩⟩; simp only [order_Check.l0, if_pos (show ((i + 1 : Nat) : Int) < (ls.length : Int) by omega), w0.out, if_pos (show (0 : Int) ≤ (i : Int) by omega), if_pos (show (i : Int) < (ls.length : Int) by omega), rdSh_at ls i hil, rdSh_at ls (i + 1) hil1]; refine Ev.bind ci ?_; simp only [w1.out, w2.out]; refine Ev.bind (Unrank_is _ _ _ (hI.2 _ (List.getElem_mem _))) ?_; simp only [if_pos (show (0 : Int) ≤ ((i + 1 : Nat) : Int) by omega)]; refine Ev.bind (Unrank_is _ _ _ (hI.2 _ (List.getElem_mem _))) ?_; simp only [bytes_Compare.f, Option.bind_some, (top_is vi).1, (top_is vj).2, hcmp, if_pos hge]; exact evNow _
  ·have hge : ¬ cmpR (topC (C ls[i])) (botC (C ls[i + 1])) ≥ 0 := fun h => by have := cmp_neg.1 h; rw [hx] at this; cases this
   obtain ⟨r, r1, r2⟩ := ord_loop ls hI hl hv n (i + 1) (by omega); refine ⟨r, evSucc ?_, ?_⟩
   ·simp only [order_Check.l0, if_pos (show ((i + 1 : Nat) : Int) < (ls.length : Int) by omega), w0.out, if_pos (show (0 : Int) ≤ (i : Int) by omega), if_pos (show (i : Int) < (ls.length : Int) by omega), rdSh_at ls i hil, rdSh_at ls (i + 1) hil1]; refine Ev.bind ci ?_; simp only [w1.out, w2.out]; refine Ev.bind (Unrank_is _ _ _ (hI.2 _ (List.getElem_mem _))) ?_; simp only [if_pos (show (0 : Int) ≤ ((i + 1 : Nat) : Int) by omega)]; refine Ev.bind (Unrank_is _ _ _ (hI.2 _ (List.getElem_mem _))) ?_; simp only [bytes_Compare.f, Option.bind_some, (top_is vi).1, (top_is vj).2, hcmp, if_neg hge, hw.out]; exact r1
   ·rw [eAdj, hx, Bool.true_and]; exact r2
def SpecO (ss : List Sh) (r : Bool × Int × Int × Int) : Prop :=
 (vScheme ss = false ∧ r = (false, 0, 0, 84)) ∨ (vScheme ss = true ∧ ((RisesC (cs ss) ∧ r = (true, 0, 0, 0)) ∨ (¬ RisesC (cs ss) ∧ ∃ U V x y, U < V ∧ encC (cs ss) U = some x ∧ encC (cs ss) V = some y ∧ lexB x y = false ∧ r = (false, U, V, 0))))
theorem orderCheck_is (ss : List Sh) (hI : InS ss) : ∃ r, Ev (fun k => order_Check.f k ss) r ∧ SpecO ss r := by
 simp only [order_Check.f]; cases h : vScheme ss
 ·refine ⟨_, Ev.bind (schemeValid_is ss hI) ?_, .inl ⟨h, rfl⟩⟩; simp only [h, Bool.false_eq_true, if_false]; exact evNow _
 ·obtain ⟨h1, h2, ha, hg⟩ := vScheme_facts h; have hne := firsts_ne h; have hcl : cloneShape.f ss = some ss := by unfold cloneShape.f; rw [if_pos (by omega)]
  have hso : sortShape.f ss = some (ss.mergeSort fun x y => decide (x.f1 ≤ y.f1)) := by
   unfold sortShape.f; rw [if_pos (show sortShape.ok ss = true by simp only [sortShape.ok, Bool.and_eq_true, decide_eq_true_eq]; exact ⟨by omega, hne⟩)]
  obtain ⟨_, m1, m2, _⟩ := sortShape.merge hso; generalize (ss.mergeSort fun x y => decide (x.f1 ≤ y.f1)) = ls at hso m1 m2; have hll : ls.length = ss.length := m1.length_eq; have hIl : InS ls := ⟨by rw [hll]; exact hI.1, fun p hp => hI.2 p (m1.subset hp)⟩; have hvl : ∀ p ∈ ls, vShape p.f0 p.f1 = true := fun p hp => h2 p (m1.subset hp)
  have hgl : AllGood (cs ls) := fun p hp => hg p ((m1.map C).subset hp)
  have hadj : adjB (cs ls) = true ↔ RisesC (cs ss) := by
   exact ⟨fun q => (rises_perm (m1.map C)).1 (adj_rises hgl (riseF_of m2) q), fun q => rises_adj (riseF_of m2) ((rises_perm (m1.map C)).2 q)⟩
  have key : ∃ r, Ev (fun k => order_Check.l0 k ls 1) r ∧ SpecO ss r := by
   by_cases h0 : ls.length = 0
   ·have e : ls = [] := List.eq_nil_of_length_eq_zero h0; subst e; refine ⟨_, evSucc ?_, .inr ⟨h, .inl ⟨hadj.1 rfl, rfl⟩⟩⟩; simp only [order_Check.l0, List.length_nil, if_neg (show ¬ (1 : Int) < ((0 : Nat) : Int) by omega)]; exact evNow _
   ·obtain ⟨r, r1, r2⟩ := ord_loop ls hIl (by omega) hvl (ls.length - 1) 0 (by omega); rw [List.drop_zero] at r2; refine ⟨r, r1, .inr ⟨h, ?_⟩⟩; rcases r2 with ⟨r2, rfl⟩ | ⟨r2, j, hj, r3, rfl⟩
    ·exact .inl ⟨hadj.1 r2, rfl⟩
    ·refine .inr ⟨fun q => (by rw [hadj.2 q] at r2; cases r2), _, _, topC (C ls[j]), botC (C ls[j + 1]), ?_, ?_, ?_, r3, rfl⟩
     ·have hlt : ls[j].f1 < ls[j + 1].f1 := (List.pairwise_iff_getElem.1 m2) j (j + 1) (by omega) hj (by omega); exact apart_lt ha hg (p := C ls[j]) (q := C ls[j + 1]) ((m1.map C).subset (List.mem_map.2 ⟨_, List.getElem_mem _, rfl⟩)) ((m1.map C).subset (List.mem_map.2 ⟨_, List.getElem_mem _, rfl⟩)) hlt
     ·have mj : C ls[j] ∈ cs ss := (m1.map C).subset (List.mem_map.2 ⟨_, List.getElem_mem _, rfl⟩); have := hit_last (hg _ mj); rw [encC_of ha mj (u := lastOf ls[j]) this.1]; exact congrArg some this.2
     ·have mj : C ls[j + 1] ∈ cs ss := (m1.map C).subset (List.mem_map.2 ⟨_, List.getElem_mem _, rfl⟩); have := hit_first (hg _ mj); rw [encC_of ha mj (u := ls[j + 1].f1) this.1]; exact congrArg some this.2
  obtain ⟨r, r1, r2⟩ := key; refine ⟨r, Ev.bind (schemeValid_is ss hI) ?_, r2⟩; simp only [h, if_true, hcl, hso, Option.bind_some]; exact r1
def o12a : List Sh := [⟨[one1 80 81], 10⟩, ⟨[one1 65 66], 0⟩]
def o12a' : List Sh := [⟨[one1 65 66], 0⟩, ⟨[one1 80 81], 10⟩]
def o12b : List Sh := [⟨[one1 65 65], 10⟩, ⟨[one1 66 66], 0⟩]
def o12b' : List Sh := [⟨[one1 66 66], 0⟩, ⟨[one1 65 65], 10⟩]
theorem check_at (l l' : List Sh) (v : Bool × Int × Int × Int) (hl : l.length ≤ 4) (h1 : Ev (fun k => scheme_Valid.f k l) true) (h2 : sortShape.f l = some l') (h3 : Ev (fun k => order_Check.l0 k l' 1) v) : Ev (fun k => order_Check.f k l) v := by
 simp only [order_Check.f]; refine Ev.bind h1 ?_; simp only [if_true, show cloneShape.f l = some l by unfold cloneShape.f; rw [if_pos (by omega)], h2, Option.bind_some]; exact h3
theorem check12a : Ev (fun k => order_Check.f k o12a) (true, 0, 0, 0) :=
 check_at o12a o12a' _ (by decide) (Ev.of (k := 40) (scheme_Valid.mono _) (by kernel_rfl)) (sort_of (by decide) (List.Perm.swap _ _ _) (by
  refine List.pairwise_cons.2 ⟨fun q hq => ?_, List.pairwise_singleton _ _⟩; rw [List.mem_singleton.1 hq]; decide)) (Ev.of (k := 40) (fun k => order_Check.mono_l k _ _) (by kernel_rfl))
theorem check12b : Ev (fun k => order_Check.f k o12b) (false, 0, 10, 0) :=
 check_at o12b o12b' _ (by decide) (Ev.of (k := 40) (scheme_Valid.mono _) (by kernel_rfl)) (sort_of (by decide) (List.Perm.swap _ _ _) (by
  refine List.pairwise_cons.2 ⟨fun q hq => ?_, List.pairwise_singleton _ _⟩; rw [List.mem_singleton.1 hq]; decide)) (Ev.of (k := 40) (fun k => order_Check.mono_l k _ _) (by kernel_rfl))
theorem fixed12 : Ev (fun k => leadtraillaw12_fixed.f k) true := by
 simp only [leadtraillaw12_fixed.f, leadtraillaw12_one.f, Option.bind_some]; refine Ev.bind check12a (Ev.bind check12b ?_); exact evNow _
end Go.Proofs.Ytkcklnmbeinfkaa.PBS
end
section
namespace Go.Proofs.Ytkcklnmbeinfkaa.PBS
open Go.RowKit Go.Proofs.YtkcklnmbeinfkaaW.PrintWords Go.Proofs.YtkcklnmbeinfkaaW.PrintLast Go.Proofs.YtkcklnmbeinfkaaW.PrintMore Go.Proofs.Ytkcklnmbeinfkaa.B Go.Proofs.LT Go.Proofs.Ytkcklnmbeinfkaa.PB3
set_option linter.unusedVariables false
set_option linter.unusedSimpArgs false
theorem leadtraillaw12_OrderFound_ev (ss : List Sh) (u v : Int) (hI : InS ss) (hu : (Lit.int .i64 u).wf = true) (hv : (Lit.int .i64 v).wf = true) : Ev (fun k => leadtraillaw12_OrderFound.f k ss u v) true := by
 obtain ⟨r, r1, r2⟩ := orderCheck_is ss hI; simp only [leadtraillaw12_OrderFound.f]; refine Ev.bind fixed12 ?_; simp only [if_true]; refine Ev.bind r1 (Ev.bind (Encode_is ss u hI hu) (Ev.bind (Encode_is ss v hI hv) ?_)); rcases r2 with ⟨h, rfl⟩ | ⟨h, r2⟩
 ·rw [show encS ss u = ([], 84) by unfold encS; rw [h]; rfl]; simp only [bne_self_eq_false, Bool.false_eq_true, if_false, if_neg (show ¬ (84 : Int) = 0 by omega)]; exact evNow _
 ·obtain ⟨_, _, ha, hg⟩ := vScheme_facts h; have e0 : r.2.2.2 = 0 ∧ (r.1 = true → RisesC (cs ss)) := by
   rcases r2 with ⟨hr, rfl⟩ | ⟨hr, U, V, x, y, _, _, _, _, rfl⟩
   ·exact ⟨rfl, fun _ => hr⟩
   ·exact ⟨rfl, fun h => by cases h⟩
  have n84 : ((0 : Int) == 84) = false := rfl; rw [e0.1]; cases hx : encC (cs ss) u with
  | none =>
   rw [show encS ss u = ([], 100) by unfold encS; rw [if_pos h, hx]; rfl]; simp only [n84, show ((100 : Int) == 84) = false from rfl, bne_self_eq_false, Bool.false_eq_true, if_false, if_neg (show ¬ (100 : Int) = 0 by omega)]; exact evNow _
  | some x =>
   rw [show encS ss u = (x, 0) by unfold encS; rw [if_pos h, hx]; rfl]; simp only [n84, bne_self_eq_false, Bool.false_eq_true, if_false, if_true]; cases hy : encC (cs ss) v with
   | none =>
    rw [show encS ss v = ([], 100) by unfold encS; rw [if_pos h, hy]; rfl]; simp only [if_neg (show ¬ (100 : Int) = 0 by omega)]; exact evNow _
   | some y =>
    rw [show encS ss v = (y, 0) by unfold encS; rw [if_pos h, hy]; rfl]; simp only [if_true]; by_cases c : u ≥ v
    ·simp only [if_pos c]; exact evNow _
    ·simp only [if_neg c]; cases hr : r.1
     ·simp only [Bool.false_eq_true, if_false]; exact evNow _
     ·simp only [if_true, Lib.strOfNums_toList, less_is _ _ (enc_range h hx).2.1 (enc_range h hy).2.1]; rw [rises_lt ha hg (e0.2 hr) hx hy (by omega)]; exact evNow _
end Go.Proofs.Ytkcklnmbeinfkaa.PBS
namespace Go.Proofs.Ytkcklnmbeinfkaa.Pure
open Go.Proofs.Ytkcklnmbeinfkaa.B Go.Proofs.YtkcklnmbeinfkaaW.PrintWords
theorem OrderFound : ∀ (l0_0 : List S50) (a1 : Int) (a2 : Int), (l0_0.length * 32 ≤ 140737488351232 ∧ ∀ x ∈ l0_0, ((x.f0.length * 24 ≤ 140737488351232 ∧ ∀ y ∈ x.f0, (y.length * 16 ≤ 140737488351232 ∧ ∀ x ∈ y, ((Lit.int .i64 x.f0).wf = true ∧ (Lit.int .i64 x.f1).wf = true))) ∧ (Lit.int .i64 x.f1).wf = true)) → (Lit.int .i64 a1).wf = true → (Lit.int .i64 a2).wf = true → ∃ k, leadtraillaw12_OrderFound.f k l0_0 a1 a2 = some true :=
 fun l0 u v h hu hv => Ev.rounds (PBS.leadtraillaw12_OrderFound_ev l0 u v ⟨h.1, fun p hp => ⟨(h.2 p hp).1.1, fun x hx => ((h.2 p hp).1.2 x hx).1⟩⟩ hu hv)
end Go.Proofs.Ytkcklnmbeinfkaa.Pure
end
