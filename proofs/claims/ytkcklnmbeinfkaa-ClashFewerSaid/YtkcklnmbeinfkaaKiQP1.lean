/- Words and laws of this claim, of 4 texts. -/
import Derived.Test.YtkcklnmbeinfkaaKiBx0
import Derived.Test.YtkcklnmbeinfkaaKiBx20
import Derived.Test.YtkcklnmbeinfkaaKiBx13
import Derived.Test.YtkcklnmbeinfkaaKiBx14
import Derived.Test.YtkcklnmbeinfkaaKiBx15
import Derived.Test.YtkcklnmbeinfkaaKiBx3
import Derived.Test.YtkcklnmbeinfkaaKiQP0
import Derived.Test.YtkcklnmbeinfkaaKiBx9
import Derived.Test.YtkcklnmbeinfkaaKiBx11
import Derived.Test.YtkcklnmbeinfkaaKiBx10
import Derived.Lib.Bytes
import Derived.Test.YtkcklnmbeinfkaaKiQW1
import Derived.Test.YtkcklnmbeinfkaaKiBx30
import Derived.Test.YtkcklnmbeinfkaaKiBx31
import Derived.Test.YtkcklnmbeinfkaaKiBx12
import Derived.Test.YtkcklnmbeinfkaaKiBx34
import Derived.Test.YtkcklnmbeinfkaaKiBx32
import Derived.Test.YtkcklnmbeinfkaaKiBx37
section
namespace Go.Proofs.Ytkcklnmbeinfkaa.PBS
open Go.RowKit Go.Proofs.YtkcklnmbeinfkaaW.PrintWords Go.Proofs.YtkcklnmbeinfkaaW.PrintLast Go.Proofs.YtkcklnmbeinfkaaW.PrintMore Go.Proofs.Ytkcklnmbeinfkaa.B Go.Proofs.LT Go.Proofs.Ytkcklnmbeinfkaa.PB3
set_option linter.unusedVariables false
set_option linter.unusedSimpArgs false
open Classical in
noncomputable def comO (n : Nat) (p q : List (List Run)) : Option (List Int) := if h : ∃ b, Com n p q b then some (Classical.choose h) else none
theorem comO_of {n : Nat} {p q : List (List Run)} {b : List Int} (h : Com n p q b) : comO n p q = some b := by
 have h' : ∃ b, Com n p q b := ⟨b, h⟩
 unfold comO
 rw [dif_pos h', Com.uniq (Classical.choose_spec h') h]
theorem comO_some {n : Nat} {p q : List (List Run)} {b : List Int} (h : comO n p q = some b) : Com n p q b := by
 unfold comO at h
 split at h
 ·rename_i h'
  obtain rfl := Option.some.inj h
  exact Classical.choose_spec h'
 ·cases h
theorem comO_none {n : Nat} {p q : List (List Run)} (h : comO n p q = none) (b : List Int) : ¬ Com n p q b := fun hb => by rw [comO_of hb] at h; cases h
theorem comO_no {n : Nat} {p q : List (List Run)} (h : ∀ b, ¬ Com n p q b) : comO n p q = none := by
 cases e : comO n p q with
 | none => rfl
 | some b => exact (h b (comO_some e)).elim
theorem comO_zero (p q : List (List Run)) : comO 0 p q = some [] := comO_of (show Com 0 p q [] from rfl)
theorem comO_yes {n : Nat} {s t : List Run} {p q : List (List Run)} {x : Int} (h1 : Mem s x) (h2 : Mem t x) (h3 : ∀ y, Mem s y → Mem t y → x ≤ y) : comO (n + 1) (s :: p) (t :: q) = (comO n p q).map (x :: ·) := by
 cases e : comO n p q with
 | none =>
  refine comO_no fun b hb => ?_
  cases b with
  | nil => exact hb.elim
  | cons y b => exact comO_none e b hb.2.2.2
 | some b => exact comO_of ⟨h1, h2, h3, comO_some e⟩
theorem comO_bar {n : Nat} {s t : List Run} {p q : List (List Run)} (h : ∀ y, Mem s y → ¬ Mem t y) : comO (n + 1) (s :: p) (t :: q) = none :=
 comO_no fun b hb => by
  cases b with
  | nil => exact hb.elim
  | cons y b => exact h y hb.1 hb.2.1
def cmR (out : List Int) : Option (List Int) → List Int × Bool
 | some b => (out ++ b, true)
 | none => ([], false)
theorem cmR_cons (out : List Int) (x : Int) (r : Option (List Int)) : cmR (out ++ [x]) r = cmR out (r.map (x :: ·)) := by
 cases r with
 | none => rfl
 | some b => simp [cmR]
theorem common_loop (ps qs : List (List Sp)) (a c : Int) (hI : In2 ps) (hJ : In2 qs) (hk : ps.all okPart = true) (hk2 : qs.all okPart = true) (m : Nat) (hm : m ≤ ps.length) (hm2 : m ≤ qs.length) (hl : m ≤ 8) : ∀ (n i : Nat) (out : List Int), i + n = m → out.length = i →
 Ev (fun k => shape_Common.l0 k out (m : Int) (i : Int) ps a qs c) (cmR out (comO n (sets (ps.drop i)) (sets (qs.drop i))))
 | 0, i, out, hi, ho => by
  refine evSucc ?_
  simp only [shape_Common.l0, if_neg (show ¬ (i : Int) < (m : Int) by omega)]
  rw [comO_zero]
  simpa [cmR] using evNow (out, true)
 | n + 1, i, out, hi, ho => by
  have hil : i < ps.length := by omega
  have hjl : i < qs.length := by omega
  have hp := okPart_good (good_part hk hil)
  have hq := okPart_good (good_part hk2 hjl)
  obtain ⟨t, t1, t2⟩ := spans_Meet_is ps[i] qs[i] (hI.2 _ (List.getElem_mem _)) (hJ.2 _ (List.getElem_mem _))
  rw [show ps[i].map L113 = runs ps[i] from rfl, show qs[i].map L113 = runs qs[i] from rfl, setL_of hp.1, setL_of hq.1] at t2
  have hw2 : Aside0 (wrap64 ((i : Int) + 1) = ((i + 1 : Nat) : Int)) := Aside0.mk (by rw [w64 (by omega) (by omega)]; simp)
  rw [show sets (ps.drop i) = runs ps[i] :: sets (ps.drop (i + 1)) by rw [List.drop_eq_getElem_cons hil]; rfl, show sets (qs.drop i) = runs qs[i] :: sets (qs.drop (i + 1)) by rw [List.drop_eq_getElem_cons hjl]; rfl]
  refine evSucc ?_
  simp only [shape_Common.l0, if_pos (show (i : Int) < (m : Int) by omega), if_pos (show (0 : Int) ≤ (i : Int) by omega), if_pos (show (i : Int) < ((ps.length : Nat) : Int) by omega), if_pos (show (i : Int) < ((qs.length : Nat) : Int) by omega), rdL_at ps i hil, rdL_at qs i hjl]
  refine Ev.bind t1 ?_
  cases t with
  | nil =>
   simp only [List.length_nil, if_pos (show ((0 : Nat) : Int) = 0 by omega)]
   rw [comO_bar (fun y h1 h2 => Mem.nil ((t2.2.2 y).2 ⟨h1, h2⟩))]
   exact evNow _
  | cons r u =>
   have hr := t2.1
   have hmem : Mem ((r :: u).map L113) r.f0 := ⟨L113 r, List.mem_cons_self, Int.le_refl _, hr.2.1⟩
   have hb := (t2.2.2 r.f0).1 hmem
   have hrg := hr.range hmem
   have hlow : ∀ y, Mem (runs ps[i]) y → Mem (runs qs[i]) y → r.f0 ≤ y := fun y h1 h2 => by
    rcases mem_cons.1 ((t2.2.2 y).2 ⟨h1, h2⟩) with h | h
    ·exact h.1
    ·have h3 : (L113 r).2 + 1 < y := ValidFrom.gt hr.2.2.2.2 h
     have h4 : (L113 r).1 ≤ (L113 r).2 := hr.2.1
     have h5 : (L113 r).1 = r.f0 := rfl
     omega
   have hrd : (rd_T113 (r :: u) 0).f0 = r.f0 := rfl
   have hmod : r.f0 % 256 = r.f0 := Int.emod_eq_of_lt hrg.1 (by omega)
   have ih := common_loop ps qs a c hI hJ hk hk2 m hm hm2 hl n (i + 1) (out ++ [r.f0]) (by omega) (by simp [ho])
   rw [comO_yes hb.1 hb.2 hlow, ← cmR_cons]
   simp only [List.length_cons, if_neg (show ¬ ((u.length + 1 : Nat) : Int) = 0 by omega), if_pos (show (0 : Int) < ((u.length + 1 : Nat) : Int) by omega), if_pos (show out.length < 140737488355328 by omega), hrd, hmod, hw2.out]
   exact ih
open Classical in
noncomputable def cmS (ps : List (List Sp)) (a : Int) (qs : List (List Sp)) (c n : Int) : List Int × Bool :=
 if vShape ps a = true ∧ vShape qs c = true ∧ 0 ≤ n ∧ n ≤ ps.length ∧ n ≤ qs.length then cmR [] (comO n.toNat (sets ps) (sets qs)) else ([], false)
theorem Common_is (ps : List (List Sp)) (a : Int) (qs : List (List Sp)) (c n : Int) (hI : In2 ps) (hJ : In2 qs) : Ev (fun k => shape_Common.f k ps a qs c n) (cmS ps a qs c n) := by
 have jT : Ev (fun k => shape_Common.j0 k n true ps a qs c) ([], false) := by
  refine evSucc ?_
  simp only [shape_Common.j0, if_true]; exact evNow _
 simp only [shape_Common.f]
 refine Ev.bind (shapeValid_is ps a hI) ?_
 cases hv : vShape ps a
 ·simp only [Bool.false_eq_true, if_false, cmS, hv, false_and]; exact jT
 simp only [if_true]
 refine Ev.bind (shapeValid_is qs c hJ) ?_
 cases hv2 : vShape qs c
 ·simp only [Bool.false_eq_true, if_false, cmS, hv2, false_and, and_false]; exact jT
 simp only [if_true, cmS, hv, hv2, true_and, mn_eq]
 by_cases c0 : n < 0
 ·simp only [if_pos c0, if_neg (show ¬ (0 ≤ n ∧ n ≤ (ps.length : Int) ∧ n ≤ (qs.length : Int)) by omega)]; exact jT
 simp only [if_neg c0]
 by_cases c1 : n ≤ ps.length ∧ n ≤ qs.length
 ·obtain ⟨⟨l1, l2⟩, _, hk, hg, hc⟩ := vShape_good hv
  obtain ⟨⟨l3, l4⟩, _, hk2, hg2, hc2⟩ := vShape_good hv2
  rw [decide_eq_false (show ¬ n > min (ps.length : Int) (qs.length : Int) by omega), if_pos ⟨by omega, c1⟩]
  refine evSucc ?_
  simp only [shape_Common.j0, Bool.false_eq_true, if_false]
  obtain ⟨m, rfl⟩ := Int.eq_ofNat_of_zero_le (show 0 ≤ n by omega)
  simpa using common_loop ps qs a c hI hJ hk hk2 m (by omega) (by omega) (by omega) m 0 [] (by omega) rfl
 ·rw [decide_eq_true (show n > min (ps.length : Int) (qs.length : Int) by omega), if_neg (by omega)]
  exact jT
end Go.Proofs.Ytkcklnmbeinfkaa.PBS
end
section
namespace Go.Proofs.Ytkcklnmbeinfkaa.PBS
open Go.RowKit Go.Proofs.YtkcklnmbeinfkaaW.PrintWords Go.Proofs.YtkcklnmbeinfkaaW.PrintLast Go.Proofs.YtkcklnmbeinfkaaW.PrintMore Go.Proofs.Ytkcklnmbeinfkaa.B Go.Proofs.LT Go.Proofs.Ytkcklnmbeinfkaa.PB3
set_option linter.unusedVariables false
set_option linter.unusedSimpArgs false
theorem low_is {p : List Sp} (h : okPart p = true) : 0 < p.length ∧ (rd_T113 p 0).f0 = lowR (runs p) ∧ 0 ≤ lowR (runs p) ∧ lowR (runs p) ≤ 255 := by
 have hs := okPart_good h
 have hr := hs.1.range (lowR_mem hs)
 cases p with
 | nil => have := hs.2; have e : size (runs []) = 0 := size_nil; omega
 | cons r t => exact ⟨by simp, rfl, hr.1, hr.2⟩
theorem first_loop (ps : List (List Sp)) (a : Int) (hI : In2 ps) (hv : vShape ps a = true) (rs : List (List Sp)) (hrs : rs.all okPart = true) (hl : rs.length ≤ 8) (whole : List Int) (kk : Int) (hw : rnk (sets ps) whole = some kk) : ∀ (n i : Nat) (out : List Int), i + n = rs.length → out.length ≤ 16 → out ++ (sets (rs.drop i)).map lowR = whole →
 Ev (fun k => clash_first.l0 k out rs (rs.length : Int) (i : Int) ps a) (a + kk)
 | 0, i, out, hi, ho, he => by
  have vg := vShape_good hv
  rw [List.drop_of_length_le (by omega)] at he
  have e2 : out = whole := by rw [← he]; simp [sets]
  have hr := unr_rnk vg.2.2.2.1 hw
  have hb : ∀ b ∈ whole, 0 ≤ b ∧ b ≤ 255 := by rw [← hr.2.2]; exact unr_range vg.2.2.2.1 hr.1 hr.2.1
  refine evSucc ?_
  simp only [clash_first.l0, if_neg (show ¬ (i : Int) < (rs.length : Int) by omega)]
  rw [e2]
  refine Ev.bind (Rank_is ps a whole hI hb) ?_
  unfold rkS
  rw [if_pos hv, hw]
  simp only [rkR, w64 (show -9223372036854775808 ≤ a + kk by omega) (show a + kk ≤ 9223372036854775807 by omega)]
  exact evNow _
 | n + 1, i, out, hi, ho, he => by
  have hil : i < rs.length := by omega
  have hp := low_is (good_part hrs hil)
  have hsw := succ_wrap i (by omega)
  have hm : (rd_T113 rs[i] 0).f0 % 256 = lowR (runs rs[i]) := by rw [hp.2.1]; exact Int.emod_eq_of_lt hp.2.2.1 (by omega)
  have hout : out.length ≤ 15 ∨ out.length = 16 := by omega
  refine evSucc ?_
  simp only [clash_first.l0, if_pos (show (i : Int) < (rs.length : Int) by omega), if_pos (show (0 : Int) ≤ (i : Int) by omega), rdL_at rs i hil, if_pos (show (0 : Int) < ((rs[i]).length : Int) by omega), if_pos (show out.length < 140737488355328 by omega), hsw.out, hm]
  have hlen : (out ++ (sets (rs.drop i)).map lowR).length = ps.length := by
   rw [he]; have := rnk_len hw; rwa [sets_len] at this
  have h8 := (vShape_good hv).1.2
  refine first_loop ps a hI hv rs hrs hl whole kk hw n (i + 1) _ (by omega) ?_ ?_
  ·simp [sets] at hlen ⊢; omega
  ·rw [← he, List.append_assoc, List.drop_eq_getElem_cons hil]; rfl
theorem first_is {ps : List (List Sp)} {a : Int} (hI : In2 ps) (hv : vShape ps a = true) {b : List Int} (hb : b.length ≤ ps.length) (hm : ∀ (i : Nat) (s : List Run) (x : Int), (sets ps)[i]? = some s → b[i]? = some x → Mem s x) :
 ∃ kk, rnk (sets ps) (b ++ ((sets ps).drop b.length).map lowR) = some kk ∧ Ev (fun k => clash_first.f k ps a b) (a + kk) := by
 have vg := vShape_good hv
 obtain ⟨kk, hk⟩ := rnk_whole vg.2.2.2.1 (by rw [sets_len]; exact hb) hm
 refine ⟨kk, hk, ?_⟩
 have h8 := vg.1.2
 simp only [clash_first.f, Option.bind_some, List.length_nil, Nat.zero_add, List.nil_append, if_pos (show b.length < 140737488355328 by omega), if_pos (show (0 : Int) ≤ (b.length : Int) by omega), if_pos (show (b.length : Int) ≤ (ps.length : Int) by omega), Int.toNat_natCast]
 refine first_loop ps a hI hv (ps.drop b.length) (List.all_eq_true.2 fun x hx => List.all_eq_true.1 vg.2.2.1 x (List.mem_of_mem_drop hx)) (by rw [List.length_drop]; omega) _ kk hk (ps.drop b.length).length 0 b (by omega) (by omega) ?_
 rw [List.drop_zero, ← sets_drop]
theorem common_self {ps qs : List (List Sp)} {a c : Int} (hv : vShape ps a = true) (hv2 : vShape qs c = true) : cmS ps a qs c (ps.length : Int) = cmR [] (comO ps.length (sets ps) (sets qs)) := by
 unfold cmS
 by_cases h : ps.length ≤ qs.length
 ·rw [if_pos ⟨hv, hv2, by omega, by omega, by omega⟩, Int.toNat_natCast]
 ·rw [if_neg (fun h' => h (by have := h'.2.2.2.2; omega))]
  cases e : comO ps.length (sets ps) (sets qs) with
  | none => rfl
  | some b => have := (comO_some e).both.2; rw [sets_len] at this; exact (h this).elim
def ComIJ (ss : List Sh) (i j : Nat) (b : List Int) : Prop := Com (rd_T50 ss (i : Int)).f0.length (sets (rd_T50 ss (i : Int)).f0) (sets (rd_T50 ss (j : Int)).f0) b
def Shows (ss : List Sh) (i j : Nat) (U V : Int) : Prop := ∃ (b : List Int) (kk kk' : Int), ComIJ ss i j b ∧ rnk (sets (rd_T50 ss (i : Int)).f0) (b ++ ((sets (rd_T50 ss (i : Int)).f0).drop b.length).map lowR) = some kk ∧ rnk (sets (rd_T50 ss (j : Int)).f0) (b ++ ((sets (rd_T50 ss (j : Int)).f0).drop b.length).map lowR) = some kk' ∧ U = (rd_T50 ss (i : Int)).f1 + kk ∧ V = (rd_T50 ss (j : Int)).f1 + kk'
def askP (ss : List Sh) (i j : Nat) : Bool := decide (((rd_T50 ss (i : Int)).f0.length : Int) < ((rd_T50 ss (j : Int)).f0.length : Int))
def askI (ss : List Sh) (i j : Nat) : Bool := decide ((i : Int) < (j : Int)) && decide (((rd_T50 ss (i : Int)).f0.length : Int) = ((rd_T50 ss (j : Int)).f0.length : Int))
def SpecRP (ss : List Sh) (r : Bool × Int × Int × Int) : Prop := (r = (true, 0, 0, 0) ∧ ∀ i j, i < ss.length → j < ss.length → askP ss i j = true → ∀ b, ¬ ComIJ ss i j b) ∨ ∃ i j U V, i < ss.length ∧ j < ss.length ∧ askP ss i j = true ∧ Shows ss i j U V ∧ r = (false, U, V, 0)
theorem searchP_row (ss : List Sh) (hI : InS ss) (hs : ss.length ≤ 32) (hv : ∀ p ∈ ss, vShape p.f0 p.f1 = true) (i : Nat) (hi : i < ss.length) (hno : ∀ i' j, i' < i → j < ss.length → askP ss i' j = true → ∀ b, ¬ ComIJ ss i' j b)
 (next : (∀ i' j, i' < i + 1 → j < ss.length → askP ss i' j = true → ∀ b, ¬ ComIJ ss i' j b) → ∃ r, Ev (fun k => clash_search.l0 k ss (ss.length : Int) ((i + 1 : Nat) : Int) ss true 0 0) r ∧ SpecRP ss r) : ∀ (n j : Nat), j + n = ss.length → (∀ j', j' < j → askP ss i j' = true → ∀ b, ¬ ComIJ ss i j' b) →
 ∃ r, Ev (fun k => clash_search.l1 k (i : Int) ss (ss.length : Int) (i : Int) ss (ss.length : Int) (j : Int) ss true 0 0 (rd_T50 ss (i : Int)).f0 (rd_T50 ss (i : Int)).f1) r ∧ SpecRP ss r
 | 0, j, hj, hnj => by
  obtain ⟨r, r1, r2⟩ := next fun i' j' h1 h2 => by
   rcases (by omega : i' < i ∨ i' = i) with h | rfl
   ·exact hno i' j' h h2
   ·exact hnj j' (by omega)
  refine ⟨r, evSucc ?_, r2⟩
  have hw := succ_wrap i (by omega)
  simp only [clash_search.l1, if_neg (show ¬ (j : Int) < (ss.length : Int) by omega), hw.out]
  exact r1
 | n + 1, j, hj, hnj => by
  have hjl : j < ss.length := by omega
  have hw := succ_wrap j (by omega)
  have vi := hv _ (List.getElem_mem hi)
  have vj := hv _ (List.getElem_mem hjl)
  have hii := rdSh_at ss i hi
  have hjj := rdSh_at ss j hjl
  have go := searchP_row ss hI hs hv i hi hno next n (j + 1) (by omega)
  have hask : asked_P.f ss (i : Int) (j : Int) = some (askP ss i j) := by
   unfold asked_P.f
   rw [if_pos ⟨by omega, by omega, by omega, by omega⟩]; rfl
  have step : ∀ r, (askP ss i j = false → Ev (fun k => clash_search.l1 k (i : Int) ss (ss.length : Int) (i : Int) ss (ss.length : Int) (wrap64 ((j : Int) + 1)) ss true 0 0 (rd_T50 ss (i : Int)).f0 (rd_T50 ss (i : Int)).f1) r) → (askP ss i j = true → Ev (fun k => (shape_Common.f k (rd_T50 ss (i : Int)).f0 (rd_T50 ss (i : Int)).f1 ((rd_T50 ss (j : Int)).f0) ((rd_T50 ss (j : Int)).f1) ((rd_T50 ss (i : Int)).f0.length : Int)).bind fun bt411 => (if bt411.2 = true then ((clash_first.f k (rd_T50 ss (i : Int)).f0 (rd_T50 ss (i : Int)).f1 bt411.1).bind fun t415 => ((clash_first.f k ((rd_T50 ss (j : Int)).f0) ((rd_T50 ss (j : Int)).f1) bt411.1).bind fun t416 => (some (false, t415, t416, 0)))) else (clash_search.l1 k (i : Int) ss (ss.length : Int) (i : Int) ss (ss.length : Int) (wrap64 ((j : Int) + 1)) ss true 0 0 (rd_T50 ss (i : Int)).f0 (rd_T50 ss (i : Int)).f1))) r) →
   Ev (fun k => clash_search.l1 k (i : Int) ss (ss.length : Int) (i : Int) ss (ss.length : Int) (j : Int) ss true 0 0 (rd_T50 ss (i : Int)).f0 (rd_T50 ss (i : Int)).f1) r := fun r h1 h2 => by
   refine evSucc ?_
   simp only [clash_search.l1, if_pos (show (j : Int) < (ss.length : Int) by omega), if_pos (show (0 : Int) ≤ (j : Int) by omega), hask, Option.bind_some]
   cases ha : askP ss i j
   ·simp only [Bool.false_eq_true, if_false]; exact h1 ha
   ·simp only [if_true]; exact h2 ha
  cases ha : askP ss i j
  ·obtain ⟨r, r1, r2⟩ := go fun j' h => by
    rcases (by omega : j' < j ∨ j' = j) with h' | rfl
    ·exact hnj j' h'
    ·intro h3; rw [ha] at h3; cases h3
   exact ⟨r, step r (fun _ => by rw [hw.out]; exact r1) (fun h => by rw [ha] at h; cases h), r2⟩
  ·have hC := Common_is ss[i].f0 ss[i].f1 ss[j].f0 ss[j].f1 (ss[i].f0.length : Int) (hI.2 _ (List.getElem_mem _)) (hI.2 _ (List.getElem_mem _))
   rw [common_self vi vj] at hC
   cases hc : comO ss[i].f0.length (sets ss[i].f0) (sets ss[j].f0) with
   | none =>
    obtain ⟨r, r1, r2⟩ := go fun j' h => by
     rcases (by omega : j' < j ∨ j' = j) with h' | rfl
     ·exact hnj j' h'
     ·intro _ b hb
      unfold ComIJ at hb
      rw [hii, hjj] at hb
      exact comO_none hc b hb
    refine ⟨r, step r (fun h => by rw [ha] at h; cases h) (fun _ => ?_), r2⟩
    rw [hii, hjj]
    refine Ev.bind hC ?_
    rw [hc]
    simp only [cmR, Bool.false_eq_true, if_false]
    rw [hii] at r1
    rw [hw.out]; exact r1
   | some b =>
    have hb := comO_some hc
    have hl := hb.len
    have hbo := hb.both
    rw [sets_len, sets_len] at hbo
    obtain ⟨kk, k1, k2⟩ := first_is (hI.2 _ (List.getElem_mem hi)) vi (b := b) (by omega) hb.left
    obtain ⟨kk', l1, l2⟩ := first_is (hI.2 _ (List.getElem_mem hjl)) vj (b := b) (by omega) hb.symm.left
    refine ⟨(false, ss[i].f1 + kk, ss[j].f1 + kk', 0), step _ (fun h => by rw [ha] at h; cases h) (fun _ => ?_), .inr ⟨i, j, _, _, hi, hjl, ha, ⟨b, kk, kk', ?_⟩, rfl⟩⟩
    ·rw [hii, hjj]
     refine Ev.bind hC ?_
     rw [hc]
     simp only [cmR, if_true, List.nil_append]
     exact Ev.bind k2 (Ev.bind l2 (evNow _))
    ·unfold ComIJ
     rw [hii, hjj]
     exact ⟨hb, k1, l1, rfl, rfl⟩
theorem searchP_loop (ss : List Sh) (hI : InS ss) (hs : ss.length ≤ 32) (hv : ∀ p ∈ ss, vShape p.f0 p.f1 = true) : ∀ (n i : Nat), i + n = ss.length → (∀ i' j, i' < i → j < ss.length → askP ss i' j = true → ∀ b, ¬ ComIJ ss i' j b) →
 ∃ r, Ev (fun k => clash_search.l0 k ss (ss.length : Int) (i : Int) ss true 0 0) r ∧ SpecRP ss r
 | 0, i, hi, hno => by
  refine ⟨(true, 0, 0, 0), evSucc ?_, .inl ⟨rfl, fun i' j h => hno i' j (by omega)⟩⟩
  simp only [clash_search.l0, if_neg (show ¬ (i : Int) < (ss.length : Int) by omega)]; exact evNow _
 | n + 1, i, hi, hno => by
  have hil : i < ss.length := by omega
  obtain ⟨r, r1, r2⟩ := searchP_row ss hI hs hv i hil hno (searchP_loop ss hI hs hv n (i + 1) (by omega)) ss.length 0 (by omega) (fun j h => by omega)
  refine ⟨r, evSucc ?_, r2⟩
  simp only [clash_search.l0, if_pos (show (i : Int) < (ss.length : Int) by omega), if_pos (show (0 : Int) ≤ (i : Int) by omega)]
  exact r1
theorem clash_Prefix_is (ss : List Sh) (hI : InS ss) : ∃ r, Ev (fun k => clash_Prefix.f k ss) r ∧ ((vScheme ss = false ∧ r = (false, 0, 0, 84)) ∨ (vScheme ss = true ∧ SpecRP ss r)) := by
 cases h : vScheme ss
 ·refine ⟨(false, 0, 0, 84), ?_, .inl ⟨rfl, rfl⟩⟩
  simp only [clash_Prefix.f, clash_search.f]
  refine Ev.bind (a := ((false, 0, 0, 84) : Bool × Int × Int × Int)) (Ev.bind (schemeValid_is ss hI) ?_) (evNow _)
  simp only [h, Bool.false_eq_true, if_false]; exact evNow _
 ·obtain ⟨h1, h2, _⟩ := vScheme_facts h
  obtain ⟨r, r1, r2⟩ := searchP_loop ss hI h1 h2 ss.length 0 (by omega) (fun i' j h => by omega)
  refine ⟨r, ?_, .inr ⟨rfl, r2⟩⟩
  simp only [clash_Prefix.f, clash_search.f]
  refine Ev.bind (Ev.bind (schemeValid_is ss hI) ?_) (evNow _)
  simp only [h, if_true]; exact r1
def SpecRI (ss : List Sh) (r : Bool × Int × Int × Int) : Prop := (r = (true, 0, 0, 0) ∧ ∀ i j, i < ss.length → j < ss.length → askI ss i j = true → ∀ b, ¬ ComIJ ss i j b) ∨ ∃ i j U V, i < ss.length ∧ j < ss.length ∧ askI ss i j = true ∧ Shows ss i j U V ∧ r = (false, U, V, 0)
theorem searchI_row (ss : List Sh) (hI : InS ss) (hs : ss.length ≤ 32) (hv : ∀ p ∈ ss, vShape p.f0 p.f1 = true) (i : Nat) (hi : i < ss.length) (hno : ∀ i' j, i' < i → j < ss.length → askI ss i' j = true → ∀ b, ¬ ComIJ ss i' j b)
 (next : (∀ i' j, i' < i + 1 → j < ss.length → askI ss i' j = true → ∀ b, ¬ ComIJ ss i' j b) → ∃ r, Ev (fun k => clash_searchI.l0 k ss (ss.length : Int) ((i + 1 : Nat) : Int) ss true 0 0) r ∧ SpecRI ss r) : ∀ (n j : Nat), j + n = ss.length → (∀ j', j' < j → askI ss i j' = true → ∀ b, ¬ ComIJ ss i j' b) →
 ∃ r, Ev (fun k => clash_searchI.l1 k (i : Int) ss (ss.length : Int) (i : Int) ss (ss.length : Int) (j : Int) ss true 0 0 (rd_T50 ss (i : Int)).f0 (rd_T50 ss (i : Int)).f1) r ∧ SpecRI ss r
 | 0, j, hj, hnj => by
  obtain ⟨r, r1, r2⟩ := next fun i' j' h1 h2 => by
   rcases (by omega : i' < i ∨ i' = i) with h | rfl
   ·exact hno i' j' h h2
   ·exact hnj j' (by omega)
  refine ⟨r, evSucc ?_, r2⟩
  have hw := succ_wrap i (by omega)
  simp only [clash_searchI.l1, if_neg (show ¬ (j : Int) < (ss.length : Int) by omega), hw.out]
  exact r1
 | n + 1, j, hj, hnj => by
  have hjl : j < ss.length := by omega
  have hw := succ_wrap j (by omega)
  have vi := hv _ (List.getElem_mem hi)
  have vj := hv _ (List.getElem_mem hjl)
  have hii := rdSh_at ss i hi
  have hjj := rdSh_at ss j hjl
  have go := searchI_row ss hI hs hv i hi hno next n (j + 1) (by omega)
  have hask : asked_I.f ss (i : Int) (j : Int) = some (askI ss i j) := by
   unfold asked_I.f
   rw [if_pos ⟨by omega, by omega, by omega, by omega⟩]; rfl
  have step : ∀ r, (askI ss i j = false → Ev (fun k => clash_searchI.l1 k (i : Int) ss (ss.length : Int) (i : Int) ss (ss.length : Int) (wrap64 ((j : Int) + 1)) ss true 0 0 (rd_T50 ss (i : Int)).f0 (rd_T50 ss (i : Int)).f1) r) → (askI ss i j = true → Ev (fun k => (shape_Common.f k (rd_T50 ss (i : Int)).f0 (rd_T50 ss (i : Int)).f1 ((rd_T50 ss (j : Int)).f0) ((rd_T50 ss (j : Int)).f1) ((rd_T50 ss (i : Int)).f0.length : Int)).bind fun bt411 => (if bt411.2 = true then ((clash_first.f k (rd_T50 ss (i : Int)).f0 (rd_T50 ss (i : Int)).f1 bt411.1).bind fun t415 => ((clash_first.f k ((rd_T50 ss (j : Int)).f0) ((rd_T50 ss (j : Int)).f1) bt411.1).bind fun t416 => (some (false, t415, t416, 0)))) else (clash_searchI.l1 k (i : Int) ss (ss.length : Int) (i : Int) ss (ss.length : Int) (wrap64 ((j : Int) + 1)) ss true 0 0 (rd_T50 ss (i : Int)).f0 (rd_T50 ss (i : Int)).f1))) r) →
   Ev (fun k => clash_searchI.l1 k (i : Int) ss (ss.length : Int) (i : Int) ss (ss.length : Int) (j : Int) ss true 0 0 (rd_T50 ss (i : Int)).f0 (rd_T50 ss (i : Int)).f1) r := fun r h1 h2 => by
   refine evSucc ?_
   simp only [clash_searchI.l1, if_pos (show (j : Int) < (ss.length : Int) by omega), if_pos (show (0 : Int) ≤ (j : Int) by omega), hask, Option.bind_some]
   cases ha : askI ss i j
   ·simp only [Bool.false_eq_true, if_false]; exact h1 ha
   ·simp only [if_true]; exact h2 ha
  cases ha : askI ss i j
  ·obtain ⟨r, r1, r2⟩ := go fun j' h => by
    rcases (by omega : j' < j ∨ j' = j) with h' | rfl
    ·exact hnj j' h'
    ·intro h3; rw [ha] at h3; cases h3
   exact ⟨r, step r (fun _ => by rw [hw.out]; exact r1) (fun h => by rw [ha] at h; cases h), r2⟩
  ·have hC := Common_is ss[i].f0 ss[i].f1 ss[j].f0 ss[j].f1 (ss[i].f0.length : Int) (hI.2 _ (List.getElem_mem _)) (hI.2 _ (List.getElem_mem _))
   rw [common_self vi vj] at hC
   cases hc : comO ss[i].f0.length (sets ss[i].f0) (sets ss[j].f0) with
   | none =>
    obtain ⟨r, r1, r2⟩ := go fun j' h => by
     rcases (by omega : j' < j ∨ j' = j) with h' | rfl
     ·exact hnj j' h'
     ·intro _ b hb
      unfold ComIJ at hb
      rw [hii, hjj] at hb
      exact comO_none hc b hb
    refine ⟨r, step r (fun h => by rw [ha] at h; cases h) (fun _ => ?_), r2⟩
    rw [hii, hjj]
    refine Ev.bind hC ?_
    rw [hc]
    simp only [cmR, Bool.false_eq_true, if_false]
    rw [hii] at r1
    rw [hw.out]; exact r1
   | some b =>
    have hb := comO_some hc
    have hl := hb.len
    have hbo := hb.both
    rw [sets_len, sets_len] at hbo
    obtain ⟨kk, k1, k2⟩ := first_is (hI.2 _ (List.getElem_mem hi)) vi (b := b) (by omega) hb.left
    obtain ⟨kk', l1, l2⟩ := first_is (hI.2 _ (List.getElem_mem hjl)) vj (b := b) (by omega) hb.symm.left
    refine ⟨(false, ss[i].f1 + kk, ss[j].f1 + kk', 0), step _ (fun h => by rw [ha] at h; cases h) (fun _ => ?_), .inr ⟨i, j, _, _, hi, hjl, ha, ⟨b, kk, kk', ?_⟩, rfl⟩⟩
    ·rw [hii, hjj]
     refine Ev.bind hC ?_
     rw [hc]
     simp only [cmR, if_true, List.nil_append]
     exact Ev.bind k2 (Ev.bind l2 (evNow _))
    ·unfold ComIJ
     rw [hii, hjj]
     exact ⟨hb, k1, l1, rfl, rfl⟩
theorem searchI_loop (ss : List Sh) (hI : InS ss) (hs : ss.length ≤ 32) (hv : ∀ p ∈ ss, vShape p.f0 p.f1 = true) : ∀ (n i : Nat), i + n = ss.length → (∀ i' j, i' < i → j < ss.length → askI ss i' j = true → ∀ b, ¬ ComIJ ss i' j b) →
 ∃ r, Ev (fun k => clash_searchI.l0 k ss (ss.length : Int) (i : Int) ss true 0 0) r ∧ SpecRI ss r
 | 0, i, hi, hno => by
  refine ⟨(true, 0, 0, 0), evSucc ?_, .inl ⟨rfl, fun i' j h => hno i' j (by omega)⟩⟩
  simp only [clash_searchI.l0, if_neg (show ¬ (i : Int) < (ss.length : Int) by omega)]; exact evNow _
 | n + 1, i, hi, hno => by
  have hil : i < ss.length := by omega
  obtain ⟨r, r1, r2⟩ := searchI_row ss hI hs hv i hil hno (searchI_loop ss hI hs hv n (i + 1) (by omega)) ss.length 0 (by omega) (fun j h => by omega)
  refine ⟨r, evSucc ?_, r2⟩
  simp only [clash_searchI.l0, if_pos (show (i : Int) < (ss.length : Int) by omega), if_pos (show (0 : Int) ≤ (i : Int) by omega)]
  exact r1
theorem clash_Inject_is (ss : List Sh) (hI : InS ss) : ∃ r, Ev (fun k => clash_Inject.f k ss) r ∧ ((vScheme ss = false ∧ r = (false, 0, 0, 84)) ∨ (vScheme ss = true ∧ SpecRI ss r)) := by
 cases h : vScheme ss
 ·refine ⟨(false, 0, 0, 84), ?_, .inl ⟨rfl, rfl⟩⟩
  simp only [clash_Inject.f, clash_searchI.f]
  refine Ev.bind (a := ((false, 0, 0, 84) : Bool × Int × Int × Int)) (Ev.bind (schemeValid_is ss hI) ?_) (evNow _)
  simp only [h, Bool.false_eq_true, if_false]; exact evNow _
 ·obtain ⟨h1, h2, _⟩ := vScheme_facts h
  obtain ⟨r, r1, r2⟩ := searchI_loop ss hI h1 h2 ss.length 0 (by omega) (fun i' j h => by omega)
  refine ⟨r, ?_, .inr ⟨rfl, r2⟩⟩
  simp only [clash_Inject.f, clash_searchI.f]
  refine Ev.bind (Ev.bind (schemeValid_is ss hI) ?_) (evNow _)
  simp only [h, if_true]; exact r1
end Go.Proofs.Ytkcklnmbeinfkaa.PBS
end
section
namespace Go.Proofs.Ytkcklnmbeinfkaa.PBS
open Go.RowKit Go.Proofs.YtkcklnmbeinfkaaW.PrintWords Go.Proofs.YtkcklnmbeinfkaaW.PrintLast Go.Proofs.YtkcklnmbeinfkaaW.PrintMore Go.Proofs.Ytkcklnmbeinfkaa.B Go.Proofs.LT Go.Proofs.Ytkcklnmbeinfkaa.PB3
set_option linter.unusedVariables false
set_option linter.unusedSimpArgs false
def ComPQ (p q : Sh) (b : List Int) : Prop := Com p.f0.length (sets p.f0) (sets q.f0) b
def noP (ss : List Sh) : Prop := ∀ p ∈ ss, ∀ q ∈ ss, p.f0.length < q.f0.length → ∀ b, ¬ ComPQ p q b
def noI (ss : List Sh) : Prop := ss.Pairwise fun p q => p.f0.length = q.f0.length → ∀ b, ¬ ComPQ p q b
theorem comIJ_at {ss : List Sh} {i j : Nat} (hi : i < ss.length) (hj : j < ss.length) {b : List Int} : ComIJ ss i j b ↔ ComPQ ss[i] ss[j] b := by
 unfold ComIJ ComPQ
 rw [rdSh_at ss i hi, rdSh_at ss j hj]
theorem askP_at {ss : List Sh} {i j : Nat} (hi : i < ss.length) (hj : j < ss.length) : askP ss i j = true ↔ ss[i].f0.length < ss[j].f0.length := by
 unfold askP
 rw [rdSh_at ss i hi, rdSh_at ss j hj, decide_eq_true_iff]; omega
theorem askI_at {ss : List Sh} {i j : Nat} (hi : i < ss.length) (hj : j < ss.length) : askI ss i j = true ↔ i < j ∧ ss[i].f0.length = ss[j].f0.length := by
 unfold askI
 rw [rdSh_at ss i hi, rdSh_at ss j hj, Bool.and_eq_true, decide_eq_true_iff, decide_eq_true_iff]; omega
theorem noP_iff (ss : List Sh) : (∀ i j, i < ss.length → j < ss.length → askP ss i j = true → ∀ b, ¬ ComIJ ss i j b) ↔ noP ss := by
 constructor
 ·intro h p hp q hq hl b hb
  obtain ⟨i, hi, rfl⟩ := List.getElem_of_mem hp
  obtain ⟨j, hj, rfl⟩ := List.getElem_of_mem hq
  exact h i j hi hj ((askP_at hi hj).2 hl) b ((comIJ_at hi hj).2 hb)
 ·intro h i j hi hj ha b hb
  exact h _ (List.getElem_mem hi) _ (List.getElem_mem hj) ((askP_at hi hj).1 ha) b ((comIJ_at hi hj).1 hb)
theorem noI_iff (ss : List Sh) : (∀ i j, i < ss.length → j < ss.length → askI ss i j = true → ∀ b, ¬ ComIJ ss i j b) ↔ noI ss := by
 unfold noI
 rw [List.pairwise_iff_getElem]
 constructor
 ·intro h i j hi hj hij hl b hb
  exact h i j hi hj ((askI_at hi hj).2 ⟨hij, hl⟩) b ((comIJ_at hi hj).2 hb)
 ·intro h i j hi hj ha b hb
  have := (askI_at hi hj).1 ha
  exact h i j hi hj this.1 this.2 b ((comIJ_at hi hj).1 hb)
theorem shows_com {ss : List Sh} {i j : Nat} {U V : Int} (h : Shows ss i j U V) : ∃ b, ComIJ ss i j b := by obtain ⟨b, kk, kk', h, _⟩ := h; exact ⟨b, h⟩
theorem specP_yes {ss : List Sh} {r : Bool × Int × Int × Int} (h : SpecRP ss r) : (noP ss ∧ r = (true, 0, 0, 0)) ∨ (¬ noP ss ∧ ∃ i j U V, i < ss.length ∧ j < ss.length ∧ askP ss i j = true ∧ Shows ss i j U V ∧ r = (false, U, V, 0)) := by
 rcases h with ⟨h1, h2⟩ | ⟨i, j, U, V, hi, hj, ha, hs, hr⟩
 ·exact .inl ⟨(noP_iff ss).1 h2, h1⟩
 ·refine .inr ⟨fun hn => ?_, i, j, U, V, hi, hj, ha, hs, hr⟩
  obtain ⟨b, hb⟩ := shows_com hs
  exact (noP_iff ss).2 hn i j hi hj ha b hb
theorem specI_yes {ss : List Sh} {r : Bool × Int × Int × Int} (h : SpecRI ss r) : (noI ss ∧ r = (true, 0, 0, 0)) ∨ (¬ noI ss ∧ ∃ i j U V, i < ss.length ∧ j < ss.length ∧ askI ss i j = true ∧ Shows ss i j U V ∧ r = (false, U, V, 0)) := by
 rcases h with ⟨h1, h2⟩ | ⟨i, j, U, V, hi, hj, ha, hs, hr⟩
 ·exact .inl ⟨(noI_iff ss).1 h2, h1⟩
 ·refine .inr ⟨fun hn => ?_, i, j, U, V, hi, hj, ha, hs, hr⟩
  obtain ⟨b, hb⟩ := shows_com hs
  exact (noI_iff ss).2 hn i j hi hj ha b hb
theorem shapeOf2 (a lo hi : Int) : Ev (fun k => leadtraillaw11_shapeOf.f k a [lo, hi]) ([one1 lo hi], a) := by
 simp only [leadtraillaw11_shapeOf.f]
 refine evSucc ?_
 have w1 : wrap64 ((0 : Int) + 1) = 1 := w64 (by omega) (by omega)
 have w2 : wrap64 ((0 : Int) + 2) = 2 := w64 (by omega) (by omega)
 have w3 : wrap64 ((2 : Int) + 1) = 3 := w64 (by omega) (by omega)
 have l2 : (([lo, hi] : List Int).length : Int) = 2 := rfl
 simp only [leadtraillaw11_shapeOf.l0, w1, w2, l2]
 rw [show (fun k => (if (1 : Int) < 2 then (if (0 : Int) ≤ 0 then (if (0 : Int) < 2 then (if (0 : Int) ≤ 1 then (if ([] : List (List Sp)).length < 5864062014805 then (leadtraillaw11_shapeOf.l0 k [lo, hi] 2 ([] ++ [[(⟨rd [lo, hi] 0, rd [lo, hi] 1⟩ : Sp)]]) a) else (none)) else (none)) else (none)) else (none)) else (some ([], a)))) = (fun k => leadtraillaw11_shapeOf.l0 k [lo, hi] 2 [one1 lo hi] a) from rfl]
 refine evSucc ?_
 simp only [leadtraillaw11_shapeOf.l0, w3, l2]
 exact evNow _
theorem shapeOf4 (a lo hi l2 h2 : Int) : Ev (fun k => leadtraillaw11_shapeOf.f k a [lo, hi, l2, h2]) ([one1 lo hi, one1 l2 h2], a) := by
 simp only [leadtraillaw11_shapeOf.f]
 refine evSucc ?_
 have w1 : wrap64 ((0 : Int) + 1) = 1 := w64 (by omega) (by omega)
 have w2 : wrap64 ((0 : Int) + 2) = 2 := w64 (by omega) (by omega)
 have w3 : wrap64 ((2 : Int) + 1) = 3 := w64 (by omega) (by omega)
 have w4 : wrap64 ((2 : Int) + 2) = 4 := w64 (by omega) (by omega)
 have w5 : wrap64 ((4 : Int) + 1) = 5 := w64 (by omega) (by omega)
 have l4 : (([lo, hi, l2, h2] : List Int).length : Int) = 4 := rfl
 simp only [leadtraillaw11_shapeOf.l0, w1, w2, l4]
 rw [show (fun k => (if (1 : Int) < 4 then (if (0 : Int) ≤ 0 then (if (0 : Int) < 4 then (if (0 : Int) ≤ 1 then (if ([] : List (List Sp)).length < 5864062014805 then (leadtraillaw11_shapeOf.l0 k [lo, hi, l2, h2] 2 ([] ++ [[(⟨rd [lo, hi, l2, h2] 0, rd [lo, hi, l2, h2] 1⟩ : Sp)]]) a) else (none)) else (none)) else (none)) else (none)) else (some ([], a)))) = (fun k => leadtraillaw11_shapeOf.l0 k [lo, hi, l2, h2] 2 [one1 lo hi] a) from rfl]
 refine evSucc ?_
 simp only [leadtraillaw11_shapeOf.l0, w3, w4, l4]
 rw [show (fun k => (if (3 : Int) < 4 then (if (0 : Int) ≤ 2 then (if (2 : Int) < 4 then (if (0 : Int) ≤ 3 then (if ([one1 lo hi] : List (List Sp)).length < 5864062014805 then (leadtraillaw11_shapeOf.l0 k [lo, hi, l2, h2] 4 ([one1 lo hi] ++ [[(⟨rd [lo, hi, l2, h2] 2, rd [lo, hi, l2, h2] 3⟩ : Sp)]]) a) else (none)) else (none)) else (none)) else (none)) else (some ([one1 lo hi], a)))) = (fun k => leadtraillaw11_shapeOf.l0 k [lo, hi, l2, h2] 4 [one1 lo hi, one1 l2 h2] a) from rfl]
 refine evSucc ?_
 simp only [leadtraillaw11_shapeOf.l0, w5, l4]
 exact evNow _
def pA : Sh := ⟨[one1 48 57], 0⟩
def pB : Sh := ⟨[one1 64 65, one1 48 57], 10⟩
def pD : Sh := ⟨[one1 57 57, one1 48 48], 10⟩
theorem cntA : cnt (sets [one1 48 57]) = 10 := by show cnt [runs (one1 48 57)] = 10; rw [cnt_cons, cnt_nil, one_size]; rfl
theorem cntB : cnt (sets [one1 64 65, one1 48 57]) = 20 := by show cnt [runs (one1 64 65), runs (one1 48 57)] = 20; rw [cnt_cons, cnt_cons, cnt_nil, one_size, one_size]; rfl
theorem cntD : cnt (sets [one1 57 57, one1 48 48]) = 1 := by show cnt [runs (one1 57 57), runs (one1 48 48)] = 1; rw [cnt_cons, cnt_cons, cnt_nil, one_size, one_size]; rfl
theorem ok4857 : okPart (one1 48 57) = true := one_ok (by decide) (by decide) (by decide)
theorem vA : vShape pA.f0 pA.f1 = true := by show vShape [one1 48 57] 0 = true; unfold vShape; rw [cntA]; simp [ok4857]
theorem vB : vShape pB.f0 pB.f1 = true := by
 show vShape [one1 64 65, one1 48 57] 10 = true
 unfold vShape; rw [cntB]
 simp [ok4857, one_ok (show (0 : Int) ≤ 64 by decide) (show (64 : Int) ≤ 65 by decide) (by decide)]
theorem vD : vShape pD.f0 pD.f1 = true := by
 show vShape [one1 57 57, one1 48 48] 10 = true
 unfold vShape; rw [cntD]
 simp [one_ok (show (0 : Int) ≤ 57 by decide) (show (57 : Int) ≤ 57 by decide) (by decide), one_ok (show (0 : Int) ≤ 48 by decide) (show (48 : Int) ≤ 48 by decide) (by decide)]
theorem vAB : vScheme [pA, pB] = true := by
 have h3 : meetsB pB pA = false := by show (decide ((10 : Int) ≤ 0 + cnt (sets [one1 48 57]) - 1) && _) = false; rw [cntA]; rfl
 show (decide (2 ≤ 32) && (vShape pA.f0 pA.f1 && (!([] : List Sh).any (meetsB _) && (vShape pB.f0 pB.f1 && (!([pA] : List Sh).any (meetsB pB) && true))))) = true
 rw [vA, vB]; simp [h3]
theorem vAD : vScheme [pA, pD] = true := by
 have h3 : meetsB pD pA = false := by show (decide ((10 : Int) ≤ 0 + cnt (sets [one1 48 57]) - 1) && _) = false; rw [cntA]; rfl
 show (decide (2 ≤ 32) && (vShape pA.f0 pA.f1 && (!([] : List Sh).any (meetsB _) && (vShape pD.f0 pD.f1 && (!([pA] : List Sh).any (meetsB pD) && true))))) = true
 rw [vA, vD]; simp [h3]
theorem inAB (q : Sh) (h : In2 q.f0) : InS [pA, q] := ⟨by show 2 * 32 ≤ 140737488351232; omega, fun p hp => by
 rcases List.mem_cons.1 hp with rfl | hp
 ·exact ⟨by show 1 * 24 ≤ 140737488351232; omega, fun x hx => by rw [List.mem_singleton.1 hx]; exact one_in _ _⟩
 ·rw [List.mem_singleton.1 hp]; exact h⟩
theorem in2two (a b c d : Int) : In2 [one1 a b, one1 c d] := ⟨by show 2 * 24 ≤ 140737488351232; omega, fun x hx => by
 rcases List.mem_cons.1 hx with rfl | hx
 ·exact one_in _ _
 ·rw [List.mem_singleton.1 hx]; exact one_in _ _⟩
theorem one_mem2 {lo hi x : Int} (h : Mem (runs (one1 lo hi)) x) : lo ≤ x ∧ x ≤ hi := by
 obtain ⟨r, hr, h1, h2⟩ := h
 rw [List.mem_singleton.1 hr] at h1 h2
 exact ⟨h1, h2⟩
theorem fixedA : Ev (fun k => clash_Prefix.f k [pA, pB]) (true, 0, 0, 0) := by
 obtain ⟨r, r1, r2⟩ := clash_Prefix_is [pA, pB] (inAB pB (in2two _ _ _ _))
 rcases r2 with ⟨h, _⟩ | ⟨_, h⟩
 ·rw [vAB] at h; cases h
 ·rcases specP_yes h with ⟨_, rfl⟩ | ⟨hn, _⟩
  ·exact r1
  ·refine (hn fun p hp q hq hl b hb => ?_).elim
   rcases List.mem_cons.1 hp with rfl | hp
   ·rcases List.mem_cons.1 hq with rfl | hq
    ·omega
    ·rw [List.mem_singleton.1 hq] at hb
     cases b with
     | nil => exact hb.elim
     | cons x b =>
      have h1 := one_mem2 hb.1
      have h2 := one_mem2 hb.2.1
      omega
   ·rw [List.mem_singleton.1 hp] at hl
    have : q.f0.length ≤ 2 := by
     rcases List.mem_cons.1 hq with rfl | hq
     ·decide
     ·rw [List.mem_singleton.1 hq]; decide
    have e : pB.f0.length = 2 := rfl
    omega
theorem comD : ComPQ pA pD [57] := ⟨⟨(48, 57), List.mem_cons_self, by decide, by decide⟩, ⟨(57, 57), List.mem_cons_self, by decide, by decide⟩, fun y _ h => (one_mem2 h).1, rfl⟩
theorem fixedD : Ev (fun k => clash_Prefix.f k [pA, pD]) (false, 9, 10, 0) := by
 obtain ⟨r, r1, r2⟩ := clash_Prefix_is [pA, pD] (inAB pD (in2two _ _ _ _))
 rcases r2 with ⟨h, _⟩ | ⟨_, h⟩
 ·rw [vAD] at h; cases h
 ·rcases specP_yes h with ⟨hn, _⟩ | ⟨_, i, j, U, V, hi, hj, ha, hs, rfl⟩
  ·exact (hn pA List.mem_cons_self pD (List.mem_cons_of_mem _ List.mem_cons_self) (by decide) [57] comD).elim
  ·have hij : i = 0 ∧ j = 1 := by
    have hi' : i < 2 := hi
    have hj' : j < 2 := hj
    have ha' := (askP_at hi hj).1 ha
    rcases (by omega : i = 0 ∨ i = 1) with rfl | rfl <;> rcases (by omega : j = 0 ∨ j = 1) with rfl | rfl
    ·exact absurd ha' (by show ¬ 1 < 1; omega)
    ·exact ⟨rfl, rfl⟩
    ·exact absurd ha' (by show ¬ 2 < 1; omega)
    ·exact absurd ha' (by show ¬ 2 < 2; omega)
   obtain ⟨rfl, rfl⟩ := hij
   obtain ⟨b, kk, kk', hb, h1, h2, hU, hV⟩ := hs
   have hb' := (comIJ_at hi hj).1 hb
   obtain rfl := Com.uniq hb' comD
   have k1 : rnk [runs (one1 48 57)] [57] = some 9 := by
    rw [rnk_cons, if_pos (one_memB (by decide) (by decide)), rnk_nil]
    simp only [Option.map_some, cnt_nil, one_cd (show (0 : Int) ≤ 48 by decide) (show (48 : Int) ≤ 57 by decide) (show (57 : Int) ≤ 57 by decide) (by decide)]
    rfl
   have k2 : rnk [runs (one1 57 57), runs (one1 48 48)] [57, 48] = some 0 := by
    rw [rnk_cons, if_pos (one_memB (by decide) (by decide)), rnk_cons, if_pos (one_memB (by decide) (by decide)), rnk_nil]
    simp only [Option.map_some, cnt_cons, cnt_nil, one_size, one_cd (show (0 : Int) ≤ 57 by decide) (show (57 : Int) ≤ 57 by decide) (show (57 : Int) ≤ 57 by decide) (by decide), one_cd (show (0 : Int) ≤ 48 by decide) (show (48 : Int) ≤ 48 by decide) (show (48 : Int) ≤ 48 by decide) (by decide)]
    rfl
   have q1 : rnk [runs (one1 48 57)] [57] = some kk := h1
   have q2 : rnk [runs (one1 57 57), runs (one1 48 48)] [57, 48] = some kk' := h2
   rw [k1] at q1
   rw [k2] at q2
   obtain rfl := Option.some.inj q1
   obtain rfl := Option.some.inj q2
   have eU : U = 9 := hU
   have eV : V = 10 := hV
   rw [← eU, ← eV]; exact r1
theorem fixed11 : Ev (fun k => leadtraillaw11_fixed.f k) true := by
 simp only [leadtraillaw11_fixed.f]
 refine Ev.bind (shapeOf2 0 48 57) (Ev.bind (shapeOf4 10 64 65 48 57) (Ev.bind fixedA (Ev.bind (shapeOf2 0 48 57) (Ev.bind (shapeOf4 10 57 57 48 48) (Ev.bind fixedD ?_)))))
 exact evNow _
end Go.Proofs.Ytkcklnmbeinfkaa.PBS
end
section
namespace Go.Proofs.Ytkcklnmbeinfkaa.PBS
open Go.RowKit Go.Proofs.YtkcklnmbeinfkaaW.PrintWords Go.Proofs.YtkcklnmbeinfkaaW.PrintLast Go.Proofs.YtkcklnmbeinfkaaW.PrintMore Go.Proofs.Ytkcklnmbeinfkaa.B Go.Proofs.LT Go.Proofs.Ytkcklnmbeinfkaa.PB3
set_option linter.unusedVariables false
set_option linter.unusedSimpArgs false
theorem vS_iff : ∀ (t pre : List Sh), vS pre t = true ↔ (∀ p ∈ t, vShape p.f0 p.f1 = true ∧ ∀ q ∈ pre, meetsB p q = false) ∧ t.Pairwise (fun a b => meetsB b a = false)
 | [], pre => by simp [vS]
 | p :: t, pre => by
  simp only [vS, Bool.and_eq_true, Bool.not_eq_true', vS_iff t (pre ++ [p]), List.pairwise_cons, List.any_eq_false, List.mem_append, List.mem_singleton, List.mem_cons]
  constructor
  ·rintro ⟨h1, h2, h3, h4⟩
   refine ⟨?_, fun b hb => (h3 b hb).2 p (.inr (.inl rfl)), h4⟩
   rintro x (rfl | hx)
   ·exact ⟨h1, fun q hq => by have := h2 q hq; simpa using this⟩
   ·exact ⟨(h3 x hx).1, fun q hq => (h3 x hx).2 q (.inl hq)⟩
  ·rintro ⟨h1, h2, h3⟩
   refine ⟨(h1 p (.inl rfl)).1, fun q hq => by have := (h1 p (.inl rfl)).2 q hq; simp [this], fun x hx => ⟨(h1 x (.inr hx)).1, ?_⟩, h3⟩
   rintro q (hq | rfl | hq)
   ·exact (h1 x (.inr hx)).2 q hq
   ·exact h2 x hx
   ·cases hq
theorem vScheme_sub {a b : List Sh} (h : a.Sublist b) (hv : vScheme b = true) : vScheme a = true := by
 unfold vScheme at hv ⊢
 rw [Bool.and_eq_true, decide_eq_true_iff, vS_iff] at hv ⊢
 exact ⟨Nat.le_trans h.length_le hv.1, fun p hp => hv.2.1 p (h.subset hp), hv.2.2.sublist h⟩
theorem leadtraillaw11_ClashFewer_ev (ss : List Sh) (a1 : Int) (hI : InS ss) : Ev (fun k => leadtraillaw11_ClashFewer.f k ss a1) true := by
 obtain ⟨r, r1, r2⟩ := clash_Prefix_is ss hI
 obtain ⟨q, q1, q2⟩ := clash_Inject_is ss hI
 simp only [leadtraillaw11_ClashFewer.f]
 refine Ev.bind fixed11 ?_
 simp only [if_true]
 refine Ev.bind r1 (Ev.bind q1 ?_)
 rcases r2 with ⟨h, rfl⟩ | ⟨h, hs⟩
 ·simp only [if_neg (show ¬ (84 : Int) = 0 by omega)]
  refine evSucc ?_
  simp only [leadtraillaw11_ClashFewer.j0, if_true]
  exact evNow _
 ·rcases q2 with ⟨h', _⟩ | ⟨_, hs2⟩
  ·rw [h] at h'; cases h'
  ·have er : r.2.2.2 = 0 ∧ (r.1 = true → noP ss) := by
    rcases specP_yes hs with ⟨hn, rfl⟩ | ⟨hn, i, j, U, V, _, _, _, _, rfl⟩
    ·exact ⟨rfl, fun _ => hn⟩
    ·exact ⟨rfl, fun h => by cases h⟩
   have eq : q.2.2.2 = 0 ∧ (q.1 = true → noI ss) := by
    rcases specI_yes hs2 with ⟨hn, rfl⟩ | ⟨hn, i, j, U, V, _, _, _, _, rfl⟩
    ·exact ⟨rfl, fun _ => hn⟩
    ·exact ⟨rfl, fun h => by cases h⟩
   rw [er.1]
   simp only [if_true]
   by_cases h0 : (ss.length : Int) = 0
   ·rw [h0]
    refine evSucc ?_
    simp only [leadtraillaw11_ClashFewer.j0, show ((0 : Int) == 0) = true from rfl, if_true]
    exact evNow _
   ·rw [show ((ss.length : Int) == 0) = false from by simpa using h0]
    have hn32 : ss.length ≤ 32 := by
     unfold vScheme at h; rw [Bool.and_eq_true, decide_eq_true_iff] at h; exact h.1
    have hpos : (0 : Int) < (ss.length : Int) := by omega
    have b1 := Int.tmod_lt_of_pos a1 hpos
    have b2 : -(ss.length : Int) < Int.tmod a1 (ss.length : Int) := by
     have := Int.tmod_lt_of_pos (-a1) hpos
     rw [Int.neg_tmod] at this
     omega
    have w1 : wrap64 (Int.tmod a1 (ss.length : Int) + (ss.length : Int)) = Int.tmod a1 (ss.length : Int) + (ss.length : Int) := w64 (by omega) (by omega)
    have b3 := Int.tmod_lt_of_pos (Int.tmod a1 (ss.length : Int) + (ss.length : Int)) hpos
    have b4 : 0 ≤ Int.tmod (Int.tmod a1 (ss.length : Int) + (ss.length : Int)) (ss.length : Int) := Int.tmod_nonneg _ (by omega)
    generalize hm : Int.tmod (Int.tmod a1 (ss.length : Int) + (ss.length : Int)) (ss.length : Int) = m at b3 b4
    have w2 : wrap64 (m + 1) = m + 1 := w64 (by omega) (by omega)
    refine evSucc ?_
    simp only [leadtraillaw11_ClashFewer.j0, Bool.false_eq_true, if_false, if_neg h0, w1, hm, w2]
    refine Ev.bind (CopyS_is ss hI) ?_
    simp only [if_pos b4, if_pos (show m ≤ (ss.length : Int) by omega), if_pos (show 0 ≤ m + 1 by omega), if_pos (show m + 1 ≤ (ss.length : Int) by omega), Option.bind_some]
    have hsub : (ss.eraseIdx m.toNat).Sublist ss := List.eraseIdx_sublist ..
    generalize ss.eraseIdx m.toNat = es at hsub
    have hI' : InS es := ⟨by have := hI.1; have := hsub.length_le; omega, fun p hp => hI.2 p (hsub.subset hp)⟩
    have hv' := vScheme_sub hsub h
    obtain ⟨s, s1, s2⟩ := clash_Prefix_is es hI'
    obtain ⟨u, u1, u2⟩ := clash_Inject_is es hI'
    refine Ev.bind s1 (Ev.bind u1 ?_)
    rcases s2 with ⟨h', _⟩ | ⟨_, hs'⟩
    ·rw [hv'] at h'; cases h'
    rcases u2 with ⟨h', _⟩ | ⟨_, hu'⟩
    ·rw [hv'] at h'; cases h'
    have es2 : s.2.2.2 = 0 ∧ (noP es → s.1 = true) := by
     rcases specP_yes hs' with ⟨hn, rfl⟩ | ⟨hn, i, j, U, V, _, _, _, _, rfl⟩
     ·exact ⟨rfl, fun _ => rfl⟩
     ·exact ⟨rfl, fun h => (hn h).elim⟩
    have eu2 : u.2.2.2 = 0 ∧ (noI es → u.1 = true) := by
     rcases specI_yes hu' with ⟨hn, rfl⟩ | ⟨hn, i, j, U, V, _, _, _, _, rfl⟩
     ·exact ⟨rfl, fun _ => rfl⟩
     ·exact ⟨rfl, fun h => (hn h).elim⟩
    simp only [es2.1, eu2.1, if_true]
    have keepP : r.1 = true → s.1 = true := fun h => es2.2 (fun p hp x hx => er.2 h p (hsub.subset hp) x (hsub.subset hx))
    have keepI : q.1 = true → u.1 = true := fun h => eu2.2 ((eq.2 h).sublist hsub)
    cases hr : r.1
    ·cases hq : q.1
     ·simp only [Bool.false_eq_true, if_false]; exact evNow _
     ·simp only [Bool.false_eq_true, if_false, if_true, keepI hq]; exact evNow _
    ·cases hq : q.1
     ·simp only [Bool.false_eq_true, if_false, if_true, keepP hr]; exact evNow _
     ·simp only [if_true, keepI hq, keepP hr]; exact evNow _
end Go.Proofs.Ytkcklnmbeinfkaa.PBS
namespace Go.Proofs.Ytkcklnmbeinfkaa.Pure
open Go.Proofs.Ytkcklnmbeinfkaa.B Go.Proofs.YtkcklnmbeinfkaaW.PrintWords
theorem ClashFewer : ∀ (l0_0 : List S50) (a1 : Int), (l0_0.length * 32 ≤ 140737488351232 ∧ ∀ x ∈ l0_0, ((x.f0.length * 24 ≤ 140737488351232 ∧ ∀ y ∈ x.f0, (y.length * 16 ≤ 140737488351232 ∧ ∀ x ∈ y, ((Lit.int .i64 x.f0).wf = true ∧ (Lit.int .i64 x.f1).wf = true))) ∧ (Lit.int .i64 x.f1).wf = true)) → (Lit.int .i64 a1).wf = true → ∃ k, leadtraillaw11_ClashFewer.f k l0_0 a1 = some true :=
 fun l0 a1 h _ => Ev.rounds (PBS.leadtraillaw11_ClashFewer_ev l0 a1 ⟨h.1, fun p hp => ⟨(h.2 p hp).1.1, fun x hx => ((h.2 p hp).1.2 x hx).1⟩⟩)
end Go.Proofs.Ytkcklnmbeinfkaa.Pure
end
