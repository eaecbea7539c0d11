/- Words and laws of this claim, of 5 texts. -/
import Derived.Test.YtoljcfocgaonpaaKgIx0
import Derived.Test.YtoljcfocgaonpaaKgIx24
import Derived.Test.YtoljcfocgaonpaaKgQP0
import Derived.Test.YtoljcfocgaonpaaKgQP1
import Derived.Test.YtoljcfocgaonpaaKgQP2
import Derived.Test.YtoljcfocgaonpaaKgIx8
import Derived.Test.YtoljcfocgaonpaaKgIx23
import Derived.Test.YtoljcfocgaonpaaKgIx7
import Derived.Test.YtoljcfocgaonpaaKgIx17
import Derived.Test.YtoljcfocgaonpaaKgQP3
import Derived.Test.YtoljcfocgaonpaaKgIx1
import Derived.Test.YtoljcfocgaonpaaKgQW1
import Derived.Test.YtoljcfocgaonpaaKgIx33
import Derived.Test.YtoljcfocgaonpaaKgIx34
import Derived.Test.YtoljcfocgaonpaaKgIx35
import Derived.Lib.Bytes
section
namespace Go.Proofs.Ytoljcfocgaonpaa.PBS
open Go.RowKit Go.Proofs.YtoljcfocgaonpaaW.PrintWords Go.Proofs.YtoljcfocgaonpaaW.PrintLast Go.Proofs.YtoljcfocgaonpaaW.PrintMore Go.Proofs.Ytoljcfocgaonpaa.I Go.Proofs.LT Go.Proofs.Ytoljcfocgaonpaa.PB3
set_option linter.unusedVariables false
set_option linter.unusedSimpArgs false
open Classical in
noncomputable def comO (n : Nat) (p q : List (List Run)) : Option (List Int) := if h : ∃ b, Com n p q b then some (Classical.choose h) else none
theorem comO_of {n : Nat} {p q : List (List Run)} {b : List Int} (h : Com n p q b) : comO n p q = some b := by
 have h' : ∃ b, Com n p q b := ⟨b, h⟩
 unfold comO; rw [dif_pos h', Com.uniq (Classical.choose_spec h') h]
theorem comO_some {n : Nat} {p q : List (List Run)} {b : List Int} (h : comO n p q = some b) : Com n p q b := by
 unfold comO at h; split at h
 ·rename_i h'
  obtain rfl := Option.some.inj h; exact Classical.choose_spec h'
 ·cases h
theorem comO_none {n : Nat} {p q : List (List Run)} (h : comO n p q = none) (b : List Int) : ¬ Com n p q b := fun hb => by rw [comO_of hb] at h; cases h
theorem comO_no {n : Nat} {p q : List (List Run)} (h : ∀ b, ¬ Com n p q b) : comO n p q = none := by
 cases e : comO n p q with
 | none => rfl
 | some b => exact (h b (comO_some e)).elim
theorem comO_zero (p q : List (List Run)) : comO 0 p q = some [] := comO_of (show Com 0 p q [] from rfl)
theorem comO_yes {n : Nat} {s t : List Run} {p q : List (List Run)} {x : Int} (h1 : Mem s x) (h2 : Mem t x) (h3 : ∀ y, Mem s y → Mem t y → x ≤ y) : comO (n + 1) (s :: p) (t :: q) = (comO n p q).map (x :: ·) := by
 cases e : comO n p q with
 | none =>
  refine comO_no fun b hb => ?_
  cases b with
  | nil => exact hb.elim
  | cons y b => exact comO_none e b hb.2.2.2
 | some b => exact comO_of ⟨h1, h2, h3, comO_some e⟩
theorem comO_bar {n : Nat} {s t : List Run} {p q : List (List Run)} (h : ∀ y, Mem s y → ¬ Mem t y) : comO (n + 1) (s :: p) (t :: q) = none :=
 comO_no fun b hb => by
  cases b with
  | nil => exact hb.elim
  | cons y b => exact h y hb.1 hb.2.1
def cmR (out : List Int) : Option (List Int) → List Int × Bool
 | some b => (out ++ b, true)
 | none => ([], false)
theorem cmR_cons (out : List Int) (x : Int) (r : Option (List Int)) : cmR (out ++ [x]) r = cmR out (r.map (x :: ·)) := by
 cases r with
 | none => rfl
 | some b => simp [cmR]
theorem common_loop (ps qs : List (List Sp)) (a c : Int) (hI : In2 ps) (hJ : In2 qs) (hk : ps.all okPart = true) (hk2 : qs.all okPart = true) (m : Nat) (hm : m ≤ ps.length) (hm2 : m ≤ qs.length) (hl : m ≤ 8) : ∀ (n i : Nat) (out : List Int), i + n = m → out.length = i →
 Ev (fun k => shape_Common.l0 k out (m : Int) (i : Int) ps a qs c) (cmR out (comO n (sets (ps.drop i)) (sets (qs.drop i))))
 | 0, i, out, hi, ho => by
  refine evSucc ?_; simp only [shape_Common.l0, if_neg (show ¬ (i : Int) < (m : Int) by omega)]; rw [comO_zero]; simpa [cmR] using evNow (out, true)
 | n + 1, i, out, hi, ho => by
  have hil : i < ps.length := by omega
  have hjl : i < qs.length := by omega
  have hp := okPart_good (good_part hk hil); have hq := okPart_good (good_part hk2 hjl); obtain ⟨t, t1, t2⟩ := spans_Meet_is ps[i] qs[i] (hI.2 _ (List.getElem_mem _)) (hJ.2 _ (List.getElem_mem _)); rw [show ps[i].map L34 = runs ps[i] from rfl, show qs[i].map L34 = runs qs[i] from rfl, setL_of hp.1, setL_of hq.1] at t2; have hw2 : Aside0 (wrap64 ((i : Int) + 1) = ((i + 1 : Nat) : Int)) := Aside0.mk (by rw [w64 (by omega) (by omega)]; simp); rw [show sets (ps.drop i) = runs ps[i] :: sets (ps.drop (i + 1)) by rw [List.drop_eq_getElem_cons hil]; rfl, show sets (qs.drop i) = runs qs[i] :: sets (qs.drop (i + 1)) by rw [List.drop_eq_getElem_cons hjl]; rfl]; refine evSucc ?_; simp only [shape_Common.l0, if_pos (show (i : Int) < (m : Int) by omega), if_pos (show (0 : Int) ≤ (i : Int) by omega), if_pos (show (i : Int) < ((ps.length : Nat) : Int) by omega), if_pos (show (i : Int) < ((qs.length : Nat) : Int) by omega), rdL_at ps i hil, rdL_at qs i hjl]; refine Ev.bind t1 ?_; cases t with
  | nil =>
   simp only [List.length_nil, if_pos (show ((0 : Nat) : Int) = 0 by omega)]; rw [comO_bar (fun y h1 h2 => Mem.nil ((t2.2.2 y).2 ⟨h1, h2⟩))]; exact evNow _
  | cons r u =>
   have hr := t2.1; have hmem : Mem ((r :: u).map L34) r.f0 := ⟨L34 r, List.mem_cons_self, Int.le_refl _, hr.2.1⟩; have hb := (t2.2.2 r.f0).1 hmem; have hrg := hr.range hmem; have hlow : ∀ y, Mem (runs ps[i]) y → Mem (runs qs[i]) y → r.f0 ≤ y := fun y h1 h2 => by
    rcases mem_cons.1 ((t2.2.2 y).2 ⟨h1, h2⟩) with h | h
    ·exact h.1
    ·have h3 : (L34 r).2 + 1 < y := ValidFrom.gt hr.2.2.2.2 h; have h4 : (L34 r).1 ≤ (L34 r).2 := hr.2.1; have h5 : (L34 r).1 = r.f0 := rfl; omega
   have hrd : (rd_T34 (r :: u) 0).f0 = r.f0 := rfl; have hmod : r.f0 % 256 = r.f0 := Int.emod_eq_of_lt hrg.1 (by omega); have ih := common_loop ps qs a c hI hJ hk hk2 m hm hm2 hl n (i + 1) (out ++ [r.f0]) (by omega) (by simp [ho]); rw [comO_yes hb.1 hb.2 hlow, ← cmR_cons]; simp only [List.length_cons, if_neg (show ¬ ((u.length + 1 : Nat) : Int) = 0 by omega), if_pos (show (0 : Int) < ((u.length + 1 : Nat) : Int) by omega), if_pos (show out.length < 140737488355328 by omega), hrd, hmod, hw2.out]; exact ih
open Classical in
noncomputable def cmS (ps : List (List Sp)) (a : Int) (qs : List (List Sp)) (c n : Int) : List Int × Bool :=
 if vShape ps a = true ∧ vShape qs c = true ∧ 0 ≤ n ∧ n ≤ ps.length ∧ n ≤ qs.length then cmR [] (comO n.toNat (sets ps) (sets qs)) else ([], false)
theorem Common_is (ps : List (List Sp)) (a : Int) (qs : List (List Sp)) (c n : Int) (hI : In2 ps) (hJ : In2 qs) : Ev (fun k => shape_Common.f k ps a qs c n) (cmS ps a qs c n) := by
 have jT : Ev (fun k => shape_Common.j0 k n true ps a qs c) ([], false) := by
  refine evSucc ?_; simp only [shape_Common.j0, if_true]; exact evNow _
 simp only [shape_Common.f]; refine Ev.bind (shapeValid_is ps a hI) ?_; cases hv : vShape ps a
 ·simp only [Bool.false_eq_true, if_false, cmS, hv, false_and]; exact jT
 simp only [if_true]; refine Ev.bind (shapeValid_is qs c hJ) ?_; cases hv2 : vShape qs c
 ·simp only [Bool.false_eq_true, if_false, cmS, hv2, false_and, and_false]; exact jT
 simp only [if_true, cmS, hv, hv2, true_and, mn_eq]; by_cases c0 : n < 0
 ·simp only [if_pos c0, if_neg (show ¬ (0 ≤ n ∧ n ≤ (ps.length : Int) ∧ n ≤ (qs.length : Int)) by omega)]; exact jT
 simp only [if_neg c0]; by_cases c1 : n ≤ ps.length ∧ n ≤ qs.length
 ·obtain ⟨⟨l1, l2⟩, _, hk, hg, hc⟩ := vShape_good hv; obtain ⟨⟨l3, l4⟩, _, hk2, hg2, hc2⟩ := vShape_good hv2; rw [decide_eq_false (show ¬ n > min (ps.length : Int) (qs.length : Int) by omega), if_pos ⟨by omega, c1⟩]; refine evSucc ?_; simp only [shape_Common.j0, Bool.false_eq_true, if_false]; obtain ⟨m, rfl⟩ := Int.eq_ofNat_of_zero_le (show 0 ≤ n by omega); simpa using common_loop ps qs a c hI hJ hk hk2 m (by omega) (by omega) (by omega) m 0 [] (by omega) rfl
 ·rw [decide_eq_true (show n > min (ps.length : Int) (qs.length : Int) by omega), if_neg (by omega)]; exact jT
end Go.Proofs.Ytoljcfocgaonpaa.PBS
end
section
namespace Go.Proofs.Ytoljcfocgaonpaa.PBS
open Go.RowKit Go.Proofs.YtoljcfocgaonpaaW.PrintWords Go.Proofs.YtoljcfocgaonpaaW.PrintLast Go.Proofs.YtoljcfocgaonpaaW.PrintMore Go.Proofs.Ytoljcfocgaonpaa.I Go.Proofs.LT Go.Proofs.Ytoljcfocgaonpaa.PB3
set_option linter.unusedVariables false
set_option linter.unusedSimpArgs false
theorem low_is {p : List Sp} (h : okPart p = true) : 0 < p.length ∧ (rd_T34 p 0).f0 = lowR (runs p) ∧ 0 ≤ lowR (runs p) ∧ lowR (runs p) ≤ 255 := by
 have hs := okPart_good h; have hr := hs.1.range (lowR_mem hs); cases p with
 | nil => have := hs.2; have e : size (runs []) = 0 := size_nil; omega
 | cons r t => exact ⟨by simp, rfl, hr.1, hr.2⟩
theorem first_loop (ps : List (List Sp)) (a : Int) (hI : In2 ps) (hv : vShape ps a = true) (rs : List (List Sp)) (hrs : rs.all okPart = true) (hl : rs.length ≤ 8) (whole : List Int) (kk : Int) (hw : rnk (sets ps) whole = some kk) : ∀ (n i : Nat) (out : List Int), i + n = rs.length → out.length ≤ 16 → out ++ (sets (rs.drop i)).map lowR = whole →
 Ev (fun k => clash_first.l0 k out rs (rs.length : Int) (i : Int) ps a) (a + kk)
 | 0, i, out, hi, ho, he => by
  have vg := vShape_good hv; rw [List.drop_of_length_le (by omega)] at he; have e2 : out = whole := by rw [← he]; simp [sets]
  have hr := unr_rnk vg.2.2.2.1 hw; have hb : ∀ b ∈ whole, 0 ≤ b ∧ b ≤ 255 := by rw [← hr.2.2]; exact unr_range vg.2.2.2.1 hr.1 hr.2.1
  refine evSucc ?_; simp only [clash_first.l0, if_neg (show ¬ (i : Int) < (rs.length : Int) by omega)]; rw [e2]; refine Ev.bind (Rank_is ps a whole hI hb) ?_; unfold rkS; rw [if_pos hv, hw]; simp only [rkR, w64 (show -9223372036854775808 ≤ a + kk by omega) (show a + kk ≤ 9223372036854775807 by omega)]; exact evNow _
 | n + 1, i, out, hi, ho, he => by
  have hil : i < rs.length := by omega
  have hp := low_is (good_part hrs hil); have hsw := succ_wrap i (by omega); have hm : (rd_T34 rs[i] 0).f0 % 256 = lowR (runs rs[i]) := by rw [hp.2.1]; exact Int.emod_eq_of_lt hp.2.2.1 (by omega)
  have hout : out.length ≤ 15 ∨ out.length = 16 := by omega
  refine evSucc ?_; simp only [clash_first.l0, if_pos (show (i : Int) < (rs.length : Int) by omega), if_pos (show (0 : Int) ≤ (i : Int) by omega), rdL_at rs i hil, if_pos (show (0 : Int) < ((rs[i]).length : Int) by omega), if_pos (show out.length < 140737488355328 by omega), hsw.out, hm]; have hlen : (out ++ (sets (rs.drop i)).map lowR).length = ps.length := by
   rw [he]; have := rnk_len hw; rwa [sets_len] at this
  have h8 := (vShape_good hv).1.2; refine first_loop ps a hI hv rs hrs hl whole kk hw n (i + 1) _ (by omega) ?_ ?_
  ·simp [sets] at hlen ⊢; omega
  ·rw [← he, List.append_assoc, List.drop_eq_getElem_cons hil]; rfl
theorem first_is {ps : List (List Sp)} {a : Int} (hI : In2 ps) (hv : vShape ps a = true) {b : List Int} (hb : b.length ≤ ps.length) (hm : ∀ (i : Nat) (s : List Run) (x : Int), (sets ps)[i]? = some s → b[i]? = some x → Mem s x) :
 ∃ kk, rnk (sets ps) (b ++ ((sets ps).drop b.length).map lowR) = some kk ∧ Ev (fun k => clash_first.f k ps a b) (a + kk) := by
 have vg := vShape_good hv; obtain ⟨kk, hk⟩ := rnk_whole vg.2.2.2.1 (by rw [sets_len]; exact hb) hm; refine ⟨kk, hk, ?_⟩; have h8 := vg.1.2; simp only [clash_first.f, Option.bind_some, List.length_nil, Nat.zero_add, List.nil_append, if_pos (show b.length < 140737488355328 by omega), if_pos (show (0 : Int) ≤ (b.length : Int) by omega), if_pos (show (b.length : Int) ≤ (ps.length : Int) by omega), Int.toNat_natCast]; refine first_loop ps a hI hv (ps.drop b.length) (List.all_eq_true.2 fun x hx => List.all_eq_true.1 vg.2.2.1 x (List.mem_of_mem_drop hx)) (by rw [List.length_drop]; omega) _ kk hk (ps.drop b.length).length 0 b (by omega) (by omega) ?_; rw [List.drop_zero, ← sets_drop]
theorem common_self {ps qs : List (List Sp)} {a c : Int} (hv : vShape ps a = true) (hv2 : vShape qs c = true) : cmS ps a qs c (ps.length : Int) = cmR [] (comO ps.length (sets ps) (sets qs)) := by
 unfold cmS; by_cases h : ps.length ≤ qs.length
 ·rw [if_pos ⟨hv, hv2, by omega, by omega, by omega⟩, Int.toNat_natCast]
 ·rw [if_neg (fun h' => h (by have := h'.2.2.2.2; omega))]; cases e : comO ps.length (sets ps) (sets qs) with
  | none => rfl
  | some b => have := (comO_some e).both.2; rw [sets_len] at this; exact (h this).elim
def ComIJ (ss : List Sh) (i j : Nat) (b : List Int) : Prop := Com (rd_T47 ss (i : Int)).f0.length (sets (rd_T47 ss (i : Int)).f0) (sets (rd_T47 ss (j : Int)).f0) b
def Shows (ss : List Sh) (i j : Nat) (U V : Int) : Prop := ∃ (b : List Int) (kk kk' : Int), ComIJ ss i j b ∧ rnk (sets (rd_T47 ss (i : Int)).f0) (b ++ ((sets (rd_T47 ss (i : Int)).f0).drop b.length).map lowR) = some kk ∧ rnk (sets (rd_T47 ss (j : Int)).f0) (b ++ ((sets (rd_T47 ss (j : Int)).f0).drop b.length).map lowR) = some kk' ∧ U = (rd_T47 ss (i : Int)).f1 + kk ∧ V = (rd_T47 ss (j : Int)).f1 + kk'
def askP (ss : List Sh) (i j : Nat) : Bool := decide (((rd_T47 ss (i : Int)).f0.length : Int) < ((rd_T47 ss (j : Int)).f0.length : Int))
def askI (ss : List Sh) (i j : Nat) : Bool := decide ((i : Int) < (j : Int)) && decide (((rd_T47 ss (i : Int)).f0.length : Int) = ((rd_T47 ss (j : Int)).f0.length : Int))
def SpecRP (ss : List Sh) (r : Bool × Int × Int × Int) : Prop := (r = (true, 0, 0, 0) ∧ ∀ i j, i < ss.length → j < ss.length → askP ss i j = true → ∀ b, ¬ ComIJ ss i j b) ∨ ∃ i j U V, i < ss.length ∧ j < ss.length ∧ askP ss i j = true ∧ Shows ss i j U V ∧ r = (false, U, V, 0)
theorem searchP_row (ss : List Sh) (hI : InS ss) (hs : ss.length ≤ 32) (hv : ∀ p ∈ ss, vShape p.f0 p.f1 = true) (i : Nat) (hi : i < ss.length) (hno : ∀ i' j, i' < i → j < ss.length → askP ss i' j = true → ∀ b, ¬ ComIJ ss i' j b)
 (next : (∀ i' j, i' < i + 1 → j < ss.length → askP ss i' j = true → ∀ b, ¬ ComIJ ss i' j b) → ∃ r, Ev (fun k => clash_search.l0 k ss (ss.length : Int) ((i + 1 : Nat) : Int) ss true 0 0) r ∧ SpecRP ss r) : ∀ (n j : Nat), j + n = ss.length → (∀ j', j' < j → askP ss i j' = true → ∀ b, ¬ ComIJ ss i j' b) →
 ∃ r, Ev (fun k => clash_search.l1 k (i : Int) ss (ss.length : Int) (i : Int) ss (ss.length : Int) (j : Int) ss true 0 0 (rd_T47 ss (i : Int)).f0 (rd_T47 ss (i : Int)).f1) r ∧ SpecRP ss r
 | 0, j, hj, hnj => by
  obtain ⟨r, r1, r2⟩ := next fun i' j' h1 h2 => by
   rcases (by omega : i' < i ∨ i' = i) with h | rfl
   ·exact hno i' j' h h2
   ·exact hnj j' (by omega)
  refine ⟨r, evSucc ?_, r2⟩; have hw := succ_wrap i (by omega); simp only [clash_search.l1, if_neg (show ¬ (j : Int) < (ss.length : Int) by omega), hw.out]; exact r1
 | n + 1, j, hj, hnj => by
  have hjl : j < ss.length := by omega
  have hw := succ_wrap j (by omega); have vi := hv _ (List.getElem_mem hi); have vj := hv _ (List.getElem_mem hjl); have hii := rdSh_at ss i hi; have hjj := rdSh_at ss j hjl; have go := searchP_row ss hI hs hv i hi hno next n (j + 1) (by omega); have hask : asked_P.f ss (i : Int) (j : Int) = some (askP ss i j) := by
   unfold asked_P.f; rw [if_pos ⟨by omega, by omega, by omega, by omega⟩]; rfl
  have step : ∀ r, (askP ss i j = false → Ev (fun k => clash_search.l1 k (i : Int) ss (ss.length : Int) (i : Int) ss (ss.length : Int) (wrap64 ((j : Int) + 1)) ss true 0 0 (rd_T47 ss (i : Int)).f0 (rd_T47 ss (i : Int)).f1) r) → (askP ss i j = true → Ev (fun k => (shape_Common.f k (rd_T47 ss (i : Int)).f0 (rd_T47 ss (i : Int)).f1 ((rd_T47 ss (j : Int)).f0) ((rd_T47 ss (j : Int)).f1) ((rd_T47 ss (i : Int)).f0.length : Int)).bind fun bt411 => (if bt411.2 = true then ((clash_first.f k (rd_T47 ss (i : Int)).f0 (rd_T47 ss (i : Int)).f1 bt411.1).bind fun t415 => ((clash_first.f k ((rd_T47 ss (j : Int)).f0) ((rd_T47 ss (j : Int)).f1) bt411.1).bind fun t416 => (some (false, t415, t416, 0)))) else (clash_search.l1 k (i : Int) ss (ss.length : Int) (i : Int) ss (ss.length : Int) (wrap64 ((j : Int) + 1)) ss true 0 0 (rd_T47 ss (i : Int)).f0 (rd_T47 ss (i : Int)).f1))) r) →
   Ev (fun k => clash_search.l1 k (i : Int) ss (ss.length : Int) (i : Int) ss (ss.length : Int) (j : Int) ss true 0 0 (rd_T47 ss (i : Int)).f0 (rd_T47 ss (i : Int)).f1) r := fun r h1 h2 => by
   refine evSucc ?_; simp only [clash_search.l1, if_pos (show (j : Int) < (ss.length : Int) by omega), if_pos (show (0 : Int) ≤ (j : Int) by omega), hask, Option.bind_some]; cases ha : askP ss i j
   ·simp only [Bool.false_eq_true, if_false]; exact h1 ha
   ·simp only [if_true]; exact h2 ha
  cases ha : askP ss i j
  ·obtain ⟨r, r1, r2⟩ := go fun j' h => by
    rcases (by omega : j' < j ∨ j' = j) with h' | rfl
    ·exact hnj j' h'
    ·intro h3; rw [ha] at h3; cases h3
   exact ⟨r, step r (fun _ => by rw [hw.out]; exact r1) (fun h => by rw [ha] at h; cases h), r2⟩
  ·have hC := Common_is ss[i].f0 ss[i].f1 ss[j].f0 ss[j].f1 (ss[i].f0.length : Int) (hI.2 _ (List.getElem_mem _)) (hI.2 _ (List.getElem_mem _)); rw [common_self vi vj] at hC; cases hc : comO ss[i].f0.length (sets ss[i].f0) (sets ss[j].f0) with
   | none =>
    obtain ⟨r, r1, r2⟩ := go fun j' h => by
     rcases (by omega : j' < j ∨ j' = j) with h' | rfl
     ·exact hnj j' h'
     ·intro _ b hb; unfold ComIJ at hb; rw [hii, hjj] at hb; exact comO_none hc b hb
    refine ⟨r, step r (fun h => by rw [ha] at h; cases h) (fun _ => ?_), r2⟩; rw [hii, hjj]; refine Ev.bind hC ?_; rw [hc]; simp only [cmR, Bool.false_eq_true, if_false]; rw [hii] at r1; rw [hw.out]; exact r1
   | some b =>
    have hb := comO_some hc; have hl := hb.len; have hbo := hb.both; rw [sets_len, sets_len] at hbo; obtain ⟨kk, k1, k2⟩ := first_is (hI.2 _ (List.getElem_mem hi)) vi (b := b) (by omega) hb.left; obtain ⟨kk', l1, l2⟩ := first_is (hI.2 _ (List.getElem_mem hjl)) vj (b := b) (by omega) hb.symm.left; refine ⟨(false, ss[i].f1 + kk, ss[j].f1 + kk', 0), step _ (fun h => by rw [ha] at h; cases h) (fun _ => ?_), .inr ⟨i, j, _, _, hi, hjl, ha, ⟨b, kk, kk', ?_⟩, rfl⟩⟩
    ·rw [hii, hjj]; refine Ev.bind hC ?_; rw [hc]; simp only [cmR, if_true, List.nil_append]; exact Ev.bind k2 (Ev.bind l2 (evNow _))
    ·unfold ComIJ; rw [hii, hjj]; exact ⟨hb, k1, l1, rfl, rfl⟩
theorem searchP_loop (ss : List Sh) (hI : InS ss) (hs : ss.length ≤ 32) (hv : ∀ p ∈ ss, vShape p.f0 p.f1 = true) : ∀ (n i : Nat), i + n = ss.length → (∀ i' j, i' < i → j < ss.length → askP ss i' j = true → ∀ b, ¬ ComIJ ss i' j b) →
 ∃ r, Ev (fun k => clash_search.l0 k ss (ss.length : Int) (i : Int) ss true 0 0) r ∧ SpecRP ss r
 | 0, i, hi, hno => by
  refine ⟨(true, 0, 0, 0), evSucc ?_, .inl ⟨rfl, fun i' j h => hno i' j (by omega)⟩⟩; simp only [clash_search.l0, if_neg (show ¬ (i : Int) < (ss.length : Int) by omega)]; exact evNow _
 | n + 1, i, hi, hno => by
  have hil : i < ss.length := by omega
  obtain ⟨r, r1, r2⟩ := searchP_row ss hI hs hv i hil hno (searchP_loop ss hI hs hv n (i + 1) (by omega)) ss.length 0 (by omega) (fun j h => by omega); refine ⟨r, evSucc ?_, r2⟩; simp only [clash_search.l0, if_pos (show (i : Int) < (ss.length : Int) by omega), if_pos (show (0 : Int) ≤ (i : Int) by omega)]; exact r1
theorem clash_Prefix_is (ss : List Sh) (hI : InS ss) : ∃ r, Ev (fun k => clash_Prefix.f k ss) r ∧ ((vScheme ss = false ∧ r = (false, 0, 0, 84)) ∨ (vScheme ss = true ∧ SpecRP ss r)) := by
 cases h : vScheme ss
 ·refine ⟨(false, 0, 0, 84), ?_, .inl ⟨rfl, rfl⟩⟩; simp only [clash_Prefix.f, clash_search.f]; refine Ev.bind (a := ((false, 0, 0, 84) : Bool × Int × Int × Int)) (Ev.bind (schemeValid_is ss hI) ?_) (evNow _); simp only [h, Bool.false_eq_true, if_false]; exact evNow _
 ·obtain ⟨h1, h2, _⟩ := vScheme_facts h; obtain ⟨r, r1, r2⟩ := searchP_loop ss hI h1 h2 ss.length 0 (by omega) (fun i' j h => by omega); refine ⟨r, ?_, .inr ⟨rfl, r2⟩⟩; simp only [clash_Prefix.f, clash_search.f]; refine Ev.bind (Ev.bind (schemeValid_is ss hI) ?_) (evNow _); simp only [h, if_true]; exact r1
def SpecRI (ss : List Sh) (r : Bool × Int × Int × Int) : Prop := (r = (true, 0, 0, 0) ∧ ∀ i j, i < ss.length → j < ss.length → askI ss i j = true → ∀ b, ¬ ComIJ ss i j b) ∨ ∃ i j U V, i < ss.length ∧ j < ss.length ∧ askI ss i j = true ∧ Shows ss i j U V ∧ r = (false, U, V, 0)
theorem searchI_row (ss : List Sh) (hI : InS ss) (hs : ss.length ≤ 32) (hv : ∀ p ∈ ss, vShape p.f0 p.f1 = true) (i : Nat) (hi : i < ss.length) (hno : ∀ i' j, i' < i → j < ss.length → askI ss i' j = true → ∀ b, ¬ ComIJ ss i' j b)
 (next : (∀ i' j, i' < i + 1 → j < ss.length → askI ss i' j = true → ∀ b, ¬ ComIJ ss i' j b) → ∃ r, Ev (fun k => clash_searchI.l0 k ss (ss.length : Int) ((i + 1 : Nat) : Int) ss true 0 0) r ∧ SpecRI ss r) : ∀ (n j : Nat), j + n = ss.length → (∀ j', j' < j → askI ss i j' = true → ∀ b, ¬ ComIJ ss i j' b) →
 ∃ r, Ev (fun k => clash_searchI.l1 k (i : Int) ss (ss.length : Int) (i : Int) ss (ss.length : Int) (j : Int) ss true 0 0 (rd_T47 ss (i : Int)).f0 (rd_T47 ss (i : Int)).f1) r ∧ SpecRI ss r
 | 0, j, hj, hnj => by
  obtain ⟨r, r1, r2⟩ := next fun i' j' h1 h2 => by
   rcases (by omega : i' < i ∨ i' = i) with h | rfl
   ·exact hno i' j' h h2
   ·exact hnj j' (by omega)
  refine ⟨r, evSucc ?_, r2⟩; have hw := succ_wrap i (by omega); simp only [clash_searchI.l1, if_neg (show ¬ (j : Int) < (ss.length : Int) by omega), hw.out]; exact r1
 | n + 1, j, hj, hnj => by
  have hjl : j < ss.length := by omega
  have hw := succ_wrap j (by omega); have vi := hv _ (List.getElem_mem hi); have vj := hv _ (List.getElem_mem hjl); have hii := rdSh_at ss i hi; have hjj := rdSh_at ss j hjl; have go := searchI_row ss hI hs hv i hi hno next n (j + 1) (by omega); have hask : asked_I.f ss (i : Int) (j : Int) = some (askI ss i j) := by
   unfold asked_I.f; rw [if_pos ⟨by omega, by omega, by omega, by omega⟩]; rfl
  have step : ∀ r, (askI ss i j = false → Ev (fun k => clash_searchI.l1 k (i : Int) ss (ss.length : Int) (i : Int) ss (ss.length : Int) (wrap64 ((j : Int) + 1)) ss true 0 0 (rd_T47 ss (i : Int)).f0 (rd_T47 ss (i : Int)).f1) r) → (askI ss i j = true → Ev (fun k => (shape_Common.f k (rd_T47 ss (i : Int)).f0 (rd_T47 ss (i : Int)).f1 ((rd_T47 ss (j : Int)).f0) ((rd_T47 ss (j : Int)).f1) ((rd_T47 ss (i : Int)).f0.length : Int)).bind fun bt411 => (if bt411.2 = true then ((clash_first.f k (rd_T47 ss (i : Int)).f0 (rd_T47 ss (i : Int)).f1 bt411.1).bind fun t415 => ((clash_first.f k ((rd_T47 ss (j : Int)).f0) ((rd_T47 ss (j : Int)).f1) bt411.1).bind fun t416 => (some (false, t415, t416, 0)))) else (clash_searchI.l1 k (i : Int) ss (ss.length : Int) (i : Int) ss (ss.length : Int) (wrap64 ((j : Int) + 1)) ss true 0 0 (rd_T47 ss (i : Int)).f0 (rd_T47 ss (i : Int)).f1))) r) →
   Ev (fun k => clash_searchI.l1 k (i : Int) ss (ss.length : Int) (i : Int) ss (ss.length : Int) (j : Int) ss true 0 0 (rd_T47 ss (i : Int)).f0 (rd_T47 ss (i : Int)).f1) r := fun r h1 h2 => by
   refine evSucc ?_; simp only [clash_searchI.l1, if_pos (show (j : Int) < (ss.length : Int) by omega), if_pos (show (0 : Int) ≤ (j : Int) by omega), hask, Option.bind_some]; cases ha : askI ss i j
   ·simp only [Bool.false_eq_true, if_false]; exact h1 ha
   ·simp only [if_true]; exact h2 ha
  cases ha : askI ss i j
  ·obtain ⟨r, r1, r2⟩ := go fun j' h => by
    rcases (by omega : j' < j ∨ j' = j) with h' | rfl
    ·exact hnj j' h'
    ·intro h3; rw [ha] at h3; cases h3
   exact ⟨r, step r (fun _ => by rw [hw.out]; exact r1) (fun h => by rw [ha] at h; cases h), r2⟩
  ·have hC := Common_is ss[i].f0 ss[i].f1 ss[j].f0 ss[j].f1 (ss[i].f0.length : Int) (hI.2 _ (List.getElem_mem _)) (hI.2 _ (List.getElem_mem _)); rw [common_self vi vj] at hC; cases hc : comO ss[i].f0.length (sets ss[i].f0) (sets ss[j].f0) with
   | none =>
    obtain ⟨r, r1, r2⟩ := go fun j' h => by
     rcases (by omega : j' < j ∨ j' = j) with h' | rfl
     ·exact hnj j' h'
     ·intro _ b hb; unfold ComIJ at hb; rw [hii, hjj] at hb; exact comO_none hc b hb
    refine ⟨r, step r (fun h => by rw [ha] at h; cases h) (fun _ => ?_), r2⟩; rw [hii, hjj]; refine Ev.bind hC ?_; rw [hc]; simp only [cmR, Bool.false_eq_true, if_false]; rw [hii] at r1; rw [hw.out]; exact r1
   | some b =>
    have hb := comO_some hc; have hl := hb.len; have hbo := hb.both; rw [sets_len, sets_len] at hbo; obtain ⟨kk, k1, k2⟩ := first_is (hI.2 _ (List.getElem_mem hi)) vi (b := b) (by omega) hb.left; obtain ⟨kk', l1, l2⟩ := first_is (hI.2 _ (List.getElem_mem hjl)) vj (b := b) (by omega) hb.symm.left; refine ⟨(false, ss[i].f1 + kk, ss[j].f1 + kk', 0), step _ (fun h => by rw [ha] at h; cases h) (fun _ => ?_), .inr ⟨i, j, _, _, hi, hjl, ha, ⟨b, kk, kk', ?_⟩, rfl⟩⟩
    ·rw [hii, hjj]; refine Ev.bind hC ?_; rw [hc]; simp only [cmR, if_true, List.nil_append]; exact Ev.bind k2 (Ev.bind l2 (evNow _))
    ·unfold ComIJ; rw [hii, hjj]; exact ⟨hb, k1, l1, rfl, rfl⟩
theorem searchI_loop (ss : List Sh) (hI : InS ss) (hs : ss.length ≤ 32) (hv : ∀ p ∈ ss, vShape p.f0 p.f1 = true) : ∀ (n i : Nat), i + n = ss.length → (∀ i' j, i' < i → j < ss.length → askI ss i' j = true → ∀ b, ¬ ComIJ ss i' j b) →
 ∃ r, Ev (fun k => clash_searchI.l0 k ss (ss.length : Int) (i : Int) ss true 0 0) r ∧ SpecRI ss r
 | 0, i, hi, hno => by
  refine ⟨(true, 0, 0, 0), evSucc ?_, .inl ⟨rfl, fun i' j h => hno i' j (by omega)⟩⟩; simp only [clash_searchI.l0, if_neg (show ¬ (i : Int) < (ss.length : Int) by omega)]; exact evNow _
 | n + 1, i, hi, hno => by
  have hil : i < ss.length := by omega
  obtain ⟨r, r1, r2⟩ := searchI_row ss hI hs hv i hil hno (searchI_loop ss hI hs hv n (i + 1) (by omega)) ss.length 0 (by omega) (fun j h => by omega); refine ⟨r, evSucc ?_, r2⟩; simp only [clash_searchI.l0, if_pos (show (i : Int) < (ss.length : Int) by omega), if_pos (show (0 : Int) ≤ (i : Int) by omega)]; exact r1
theorem clash_Inject_is (ss : List Sh) (hI : InS ss) : ∃ r, Ev (fun k => clash_Inject.f k ss) r ∧ ((vScheme ss = false ∧ r = (false, 0, 0, 84)) ∨ (vScheme ss = true ∧ SpecRI ss r)) := by
 cases h : vScheme ss
 ·refine ⟨(false, 0, 0, 84), ?_, .inl ⟨rfl, rfl⟩⟩; simp only [clash_Inject.f, clash_searchI.f]; refine Ev.bind (a := ((false, 0, 0, 84) : Bool × Int × Int × Int)) (Ev.bind (schemeValid_is ss hI) ?_) (evNow _); simp only [h, Bool.false_eq_true, if_false]; exact evNow _
 ·obtain ⟨h1, h2, _⟩ := vScheme_facts h; obtain ⟨r, r1, r2⟩ := searchI_loop ss hI h1 h2 ss.length 0 (by omega) (fun i' j h => by omega); refine ⟨r, ?_, .inr ⟨rfl, r2⟩⟩; simp only [clash_Inject.f, clash_searchI.f]; refine Ev.bind (Ev.bind (schemeValid_is ss hI) ?_) (evNow _); simp only [h, if_true]; exact r1
end Go.Proofs.Ytoljcfocgaonpaa.PBS
end
section
namespace Go.Proofs.Ytoljcfocgaonpaa.PBS
open Go.RowKit Go.Proofs.YtoljcfocgaonpaaW.PrintWords Go.Proofs.YtoljcfocgaonpaaW.PrintLast Go.Proofs.YtoljcfocgaonpaaW.PrintMore Go.Proofs.Ytoljcfocgaonpaa.I Go.Proofs.LT Go.Proofs.Ytoljcfocgaonpaa.PB3
set_option linter.unusedVariables false
set_option linter.unusedSimpArgs false
def ComPQ (p q : Sh) (b : List Int) : Prop := Com p.f0.length (sets p.f0) (sets q.f0) b
def noP (ss : List Sh) : Prop := ∀ p ∈ ss, ∀ q ∈ ss, p.f0.length < q.f0.length → ∀ b, ¬ ComPQ p q b
def noI (ss : List Sh) : Prop := ss.Pairwise fun p q => p.f0.length = q.f0.length → ∀ b, ¬ ComPQ p q b
theorem comIJ_at {ss : List Sh} {i j : Nat} (hi : i < ss.length) (hj : j < ss.length) {b : List Int} : ComIJ ss i j b ↔ ComPQ ss[i] ss[j] b := by
 unfold ComIJ ComPQ; rw [rdSh_at ss i hi, rdSh_at ss j hj]
theorem askP_at {ss : List Sh} {i j : Nat} (hi : i < ss.length) (hj : j < ss.length) : askP ss i j = true ↔ ss[i].f0.length < ss[j].f0.length := by
 unfold askP; rw [rdSh_at ss i hi, rdSh_at ss j hj, decide_eq_true_iff]; omega
theorem askI_at {ss : List Sh} {i j : Nat} (hi : i < ss.length) (hj : j < ss.length) : askI ss i j = true ↔ i < j ∧ ss[i].f0.length = ss[j].f0.length := by
 unfold askI; rw [rdSh_at ss i hi, rdSh_at ss j hj, Bool.and_eq_true, decide_eq_true_iff, decide_eq_true_iff]; omega
theorem noP_iff (ss : List Sh) : (∀ i j, i < ss.length → j < ss.length → askP ss i j = true → ∀ b, ¬ ComIJ ss i j b) ↔ noP ss := by
 constructor
 ·intro h p hp q hq hl b hb; obtain ⟨i, hi, rfl⟩ := List.getElem_of_mem hp; obtain ⟨j, hj, rfl⟩ := List.getElem_of_mem hq; exact h i j hi hj ((askP_at hi hj).2 hl) b ((comIJ_at hi hj).2 hb)
 ·intro h i j hi hj ha b hb; exact h _ (List.getElem_mem hi) _ (List.getElem_mem hj) ((askP_at hi hj).1 ha) b ((comIJ_at hi hj).1 hb)
theorem noI_iff (ss : List Sh) : (∀ i j, i < ss.length → j < ss.length → askI ss i j = true → ∀ b, ¬ ComIJ ss i j b) ↔ noI ss := by
 unfold noI; rw [List.pairwise_iff_getElem]; constructor
 ·intro h i j hi hj hij hl b hb; exact h i j hi hj ((askI_at hi hj).2 ⟨hij, hl⟩) b ((comIJ_at hi hj).2 hb)
 ·intro h i j hi hj ha b hb; have := (askI_at hi hj).1 ha; exact h i j hi hj this.1 this.2 b ((comIJ_at hi hj).1 hb)
theorem shows_com {ss : List Sh} {i j : Nat} {U V : Int} (h : Shows ss i j U V) : ∃ b, ComIJ ss i j b := by obtain ⟨b, kk, kk', h, _⟩ := h; exact ⟨b, h⟩
theorem specP_yes {ss : List Sh} {r : Bool × Int × Int × Int} (h : SpecRP ss r) : (noP ss ∧ r = (true, 0, 0, 0)) ∨ (¬ noP ss ∧ ∃ i j U V, i < ss.length ∧ j < ss.length ∧ askP ss i j = true ∧ Shows ss i j U V ∧ r = (false, U, V, 0)) := by
 rcases h with ⟨h1, h2⟩ | ⟨i, j, U, V, hi, hj, ha, hs, hr⟩
 ·exact .inl ⟨(noP_iff ss).1 h2, h1⟩
 ·refine .inr ⟨fun hn => ?_, i, j, U, V, hi, hj, ha, hs, hr⟩; obtain ⟨b, hb⟩ := shows_com hs; exact (noP_iff ss).2 hn i j hi hj ha b hb
theorem specI_yes {ss : List Sh} {r : Bool × Int × Int × Int} (h : SpecRI ss r) : (noI ss ∧ r = (true, 0, 0, 0)) ∨ (¬ noI ss ∧ ∃ i j U V, i < ss.length ∧ j < ss.length ∧ askI ss i j = true ∧ Shows ss i j U V ∧ r = (false, U, V, 0)) := by
 rcases h with ⟨h1, h2⟩ | ⟨i, j, U, V, hi, hj, ha, hs, hr⟩
 ·exact .inl ⟨(noI_iff ss).1 h2, h1⟩
 ·refine .inr ⟨fun hn => ?_, i, j, U, V, hi, hj, ha, hs, hr⟩; obtain ⟨b, hb⟩ := shows_com hs; exact (noI_iff ss).2 hn i j hi hj ha b hb
theorem shows_enc {ss : List Sh} (h : vScheme ss = true) {i j : Nat} {U V : Int} (hi : i < ss.length) (hj : j < ss.length) (hs : Shows ss i j U V) :
 ∃ b, ComPQ ss[i] ss[j] b ∧ b.length = ss[i].f0.length ∧ encC (cs ss) U = some b ∧ (∃ t, encC (cs ss) V = some (b ++ t) ∧ (b ++ t).length = ss[j].f0.length) ∧ hitC U (C ss[i]) = true ∧ hitC V (C ss[j]) = true := by
 obtain ⟨_, _, ha, hg⟩ := vScheme_facts h; obtain ⟨b, kk, kk', hb, h1, h2, hU, hV⟩ := hs; rw [rdSh_at ss i hi] at h1 hU; rw [rdSh_at ss j hj] at h2 hV; have hb' := (comIJ_at hi hj).1 hb; have hl := Com.len hb'; have mi : C ss[i] ∈ cs ss := List.mem_map.2 ⟨_, List.getElem_mem hi, rfl⟩; have mj : C ss[j] ∈ cs ss := List.mem_map.2 ⟨_, List.getElem_mem hj, rfl⟩; have r1 := rnk_hit (p := C ss[i]) (hg _ mi) h1; have r2 := rnk_hit (p := C ss[j]) (hg _ mj) h2; have e1 : (C ss[i]).2 + kk = U := hU.symm; have e2 : (C ss[j]).2 + kk' = V := hV.symm; rw [e1] at r1; rw [e2] at r2; have hw : b ++ ((sets ss[i].f0).drop b.length).map lowR = b := by rw [hl, List.drop_of_length_le (by rw [sets_len]; omega)]; simp
 refine ⟨b, hb', hl, ?_, ⟨((sets ss[j].f0).drop b.length).map lowR, ?_, ?_⟩, r1.1, r2.1⟩
 ·have := encC_of ha mi r1.1; rw [this, ← r1.2, hw]
 ·have := encC_of ha mj r2.1; rw [this, ← r2.2]
 ·have := rnk_len h2; rwa [sets_len] at this
theorem least {P : Int → Prop} (h0 : ∀ x, P x → 0 ≤ x) : ∀ (n : Nat) (x : Int), x.toNat ≤ n → P x → ∃ m, P m ∧ ∀ y, P y → m ≤ y
 | 0, x, hx, hp => ⟨x, hp, fun y hy => by have := h0 x hp; have := h0 y hy; omega⟩
 | n + 1, x, hx, hp => by
  by_cases h : ∃ y, P y ∧ y < x
  ·obtain ⟨y, hy, hlt⟩ := h; have := h0 y hy; exact least h0 n y (by omega) hy
  ·exact ⟨x, hp, fun y hy => by
    rcases (by omega : y < x ∨ x ≤ y) with h' | h'
    ·exact (h ⟨y, hy, h'⟩).elim
    ·exact h'⟩
theorem com_of_meet : ∀ {n : Nat} {p q : List (List Run)}, GoodP p → MeetN n p q → ∃ b, Com n p q b
 | 0, _, _, _, _ => ⟨[], rfl⟩
 | n + 1, s :: p, t :: q, hg, h => by
  obtain ⟨⟨x, hx1, hx2⟩, h2⟩ := h; obtain ⟨m, hm, hl⟩ := least (P := fun y => Mem s y ∧ Mem t y) (fun y hy => (hg.head.1.range hy.1).1) x.toNat x (Nat.le_refl _) ⟨hx1, hx2⟩; obtain ⟨b, hb⟩ := com_of_meet hg.tail h2; exact ⟨m :: b, hm.1, hm.2, fun y a c => hl y ⟨a, c⟩, hb⟩
 | n + 1, [], _, _, h => h.elim
 | n + 1, _ :: _, [], _, h => h.elim
theorem nums_size (x : List Int) : (strOfNums x).size = x.length := by
 show (x.map _).toArray.size = _; simp
theorem hasPrefix_is (y x : List Int) (hy : ∀ b ∈ y, 0 ≤ b ∧ b ≤ 255) (hx : ∀ b ∈ x, 0 ≤ b ∧ b ≤ 255) : strings_HasPrefix.f (strOfNums y) (strOfNums x) = some (decide (x.length ≤ y.length ∧ y.take x.length = x)) := by
 have e0 : stringslite_HasPrefix.f (strOfNums y) (strOfNums x) = some (decide (x.length ≤ y.length ∧ y.take x.length = x)) := by
  simp only [stringslite_HasPrefix.f, nums_size]; by_cases c : x.length ≤ y.length
  ·rw [if_pos (show (y.length : Int) ≥ (x.length : Int) by omega), if_pos (show (0 : Int) ≤ (x.length : Int) by omega), if_pos (show (x.length : Int) ≤ (y.length : Int) by omega)]; congr 1
   have e1 : ((strOfNums y).extract 0 ((x.length : Int)).toNat).toList = Lib.bytesOf (y.take x.length) := by
    rw [ByteArray.toList_eq, Int.toNat_natCast]; simp [strOfNums, Lib.bytesOf, ByteArray.data_extract, List.extract_eq_take_drop, List.map_take]
   rw [e1, Lib.strOfNums_toList]; have hb := bytes_inj (y.take x.length) x (fun a ha => hy a (List.mem_of_mem_take ha)) hx; rw [Bool.eq_iff_iff, beq_iff_eq, decide_eq_true_iff, hb]; exact ⟨fun h => ⟨c, h⟩, fun h => h.2⟩
  ·rw [if_neg (show ¬ (y.length : Int) ≥ (x.length : Int) by omega), decide_eq_false (fun h => c h.1)]
 simp only [strings_HasPrefix.f, e0, Option.bind_some]
theorem shapeOf2 (a lo hi : Int) : Ev (fun k => leadtraillaw11_shapeOf.f k a [lo, hi]) ([one1 lo hi], a) := by
 simp only [leadtraillaw11_shapeOf.f]; refine evSucc ?_; have w1 : wrap64 ((0 : Int) + 1) = 1 := w64 (by omega) (by omega); have w2 : wrap64 ((0 : Int) + 2) = 2 := w64 (by omega) (by omega); have w3 : wrap64 ((2 : Int) + 1) = 3 := w64 (by omega) (by omega); have l2 : (([lo, hi] : List Int).length : Int) = 2 := rfl; simp only [leadtraillaw11_shapeOf.l0, w1, w2, l2]; rw [show (fun k => (if (1 : Int) < 2 then (if (0 : Int) ≤ 0 then (if (0 : Int) < 2 then (if (0 : Int) ≤ 1 then (if ([] : List (List Sp)).length < 5864062014805 then (leadtraillaw11_shapeOf.l0 k [lo, hi] 2 ([] ++ [[(⟨rd [lo, hi] 0, rd [lo, hi] 1⟩ : Sp)]]) a) else (none)) else (none)) else (none)) else (none)) else (some ([], a)))) = (fun k => leadtraillaw11_shapeOf.l0 k [lo, hi] 2 [one1 lo hi] a) from rfl]; refine evSucc ?_; simp only [leadtraillaw11_shapeOf.l0, w3, l2]; exact evNow _
theorem shapeOf4 (a lo hi l2 h2 : Int) : Ev (fun k => leadtraillaw11_shapeOf.f k a [lo, hi, l2, h2]) ([one1 lo hi, one1 l2 h2], a) := by
 simp only [leadtraillaw11_shapeOf.f]; refine evSucc ?_; have w1 : wrap64 ((0 : Int) + 1) = 1 := w64 (by omega) (by omega); have w2 : wrap64 ((0 : Int) + 2) = 2 := w64 (by omega) (by omega); have w3 : wrap64 ((2 : Int) + 1) = 3 := w64 (by omega) (by omega); have w4 : wrap64 ((2 : Int) + 2) = 4 := w64 (by omega) (by omega); have w5 : wrap64 ((4 : Int) + 1) = 5 := w64 (by omega) (by omega); have l4 : (([lo, hi, l2, h2] : List Int).length : Int) = 4 := rfl; simp only [leadtraillaw11_shapeOf.l0, w1, w2, l4]; rw [show (fun k => (if (1 : Int) < 4 then (if (0 : Int) ≤ 0 then (if (0 : Int) < 4 then (if (0 : Int) ≤ 1 then (if ([] : List (List Sp)).length < 5864062014805 then (leadtraillaw11_shapeOf.l0 k [lo, hi, l2, h2] 2 ([] ++ [[(⟨rd [lo, hi, l2, h2] 0, rd [lo, hi, l2, h2] 1⟩ : Sp)]]) a) else (none)) else (none)) else (none)) else (none)) else (some ([], a)))) = (fun k => leadtraillaw11_shapeOf.l0 k [lo, hi, l2, h2] 2 [one1 lo hi] a) from rfl]; refine evSucc ?_; simp only [leadtraillaw11_shapeOf.l0, w3, w4, l4]; rw [show (fun k => (if (3 : Int) < 4 then (if (0 : Int) ≤ 2 then (if (2 : Int) < 4 then (if (0 : Int) ≤ 3 then (if ([one1 lo hi] : List (List Sp)).length < 5864062014805 then (leadtraillaw11_shapeOf.l0 k [lo, hi, l2, h2] 4 ([one1 lo hi] ++ [[(⟨rd [lo, hi, l2, h2] 2, rd [lo, hi, l2, h2] 3⟩ : Sp)]]) a) else (none)) else (none)) else (none)) else (none)) else (some ([one1 lo hi], a)))) = (fun k => leadtraillaw11_shapeOf.l0 k [lo, hi, l2, h2] 4 [one1 lo hi, one1 l2 h2] a) from rfl]; refine evSucc ?_; simp only [leadtraillaw11_shapeOf.l0, w5, l4]; exact evNow _
def pA : Sh := ⟨[one1 48 57], 0⟩
def pB : Sh := ⟨[one1 64 65, one1 48 57], 10⟩
def pD : Sh := ⟨[one1 57 57, one1 48 48], 10⟩
theorem cntA : cnt (sets [one1 48 57]) = 10 := by show cnt [runs (one1 48 57)] = 10; rw [cnt_cons, cnt_nil, one_size]; rfl
theorem cntB : cnt (sets [one1 64 65, one1 48 57]) = 20 := by show cnt [runs (one1 64 65), runs (one1 48 57)] = 20; rw [cnt_cons, cnt_cons, cnt_nil, one_size, one_size]; rfl
theorem cntD : cnt (sets [one1 57 57, one1 48 48]) = 1 := by show cnt [runs (one1 57 57), runs (one1 48 48)] = 1; rw [cnt_cons, cnt_cons, cnt_nil, one_size, one_size]; rfl
theorem ok4857 : okPart (one1 48 57) = true := one_ok (by decide) (by decide) (by decide)
theorem vA : vShape pA.f0 pA.f1 = true := by show vShape [one1 48 57] 0 = true; unfold vShape; rw [cntA]; simp [ok4857]
theorem vB : vShape pB.f0 pB.f1 = true := by
 show vShape [one1 64 65, one1 48 57] 10 = true; unfold vShape; rw [cntB]; simp [ok4857, one_ok (show (0 : Int) ≤ 64 by decide) (show (64 : Int) ≤ 65 by decide) (by decide)]
theorem vD : vShape pD.f0 pD.f1 = true := by
 show vShape [one1 57 57, one1 48 48] 10 = true; unfold vShape; rw [cntD]; simp [one_ok (show (0 : Int) ≤ 57 by decide) (show (57 : Int) ≤ 57 by decide) (by decide), one_ok (show (0 : Int) ≤ 48 by decide) (show (48 : Int) ≤ 48 by decide) (by decide)]
theorem vAB : vScheme [pA, pB] = true := by
 have h3 : meetsB pB pA = false := by show (decide ((10 : Int) ≤ 0 + cnt (sets [one1 48 57]) - 1) && _) = false; rw [cntA]; rfl
 show (decide (2 ≤ 32) && (vShape pA.f0 pA.f1 && (!([] : List Sh).any (meetsB _) && (vShape pB.f0 pB.f1 && (!([pA] : List Sh).any (meetsB pB) && true))))) = true; rw [vA, vB]; simp [h3]
theorem vAD : vScheme [pA, pD] = true := by
 have h3 : meetsB pD pA = false := by show (decide ((10 : Int) ≤ 0 + cnt (sets [one1 48 57]) - 1) && _) = false; rw [cntA]; rfl
 show (decide (2 ≤ 32) && (vShape pA.f0 pA.f1 && (!([] : List Sh).any (meetsB _) && (vShape pD.f0 pD.f1 && (!([pA] : List Sh).any (meetsB pD) && true))))) = true; rw [vA, vD]; simp [h3]
theorem inAB (q : Sh) (h : In2 q.f0) : InS [pA, q] := ⟨by show 2 * 32 ≤ 140737488351232; omega, fun p hp => by
 rcases List.mem_cons.1 hp with rfl | hp
 ·exact ⟨by show 1 * 24 ≤ 140737488351232; omega, fun x hx => by rw [List.mem_singleton.1 hx]; exact one_in _ _⟩
 ·rw [List.mem_singleton.1 hp]; exact h⟩
theorem in2two (a b c d : Int) : In2 [one1 a b, one1 c d] := ⟨by show 2 * 24 ≤ 140737488351232; omega, fun x hx => by
 rcases List.mem_cons.1 hx with rfl | hx
 ·exact one_in _ _
 ·rw [List.mem_singleton.1 hx]; exact one_in _ _⟩
theorem one_mem2 {lo hi x : Int} (h : Mem (runs (one1 lo hi)) x) : lo ≤ x ∧ x ≤ hi := by
 obtain ⟨r, hr, h1, h2⟩ := h; rw [List.mem_singleton.1 hr] at h1 h2; exact ⟨h1, h2⟩
theorem fixedA : Ev (fun k => clash_Prefix.f k [pA, pB]) (true, 0, 0, 0) := by
 obtain ⟨r, r1, r2⟩ := clash_Prefix_is [pA, pB] (inAB pB (in2two _ _ _ _)); rcases r2 with ⟨h, _⟩ | ⟨_, h⟩
 ·rw [vAB] at h; cases h
 ·rcases specP_yes h with ⟨_, rfl⟩ | ⟨hn, _⟩
  ·exact r1
  ·refine (hn fun p hp q hq hl b hb => ?_).elim; rcases List.mem_cons.1 hp with rfl | hp
   ·rcases List.mem_cons.1 hq with rfl | hq
    ·omega
    ·rw [List.mem_singleton.1 hq] at hb; cases b with
     | nil => exact hb.elim
     | cons x b =>
      have h1 := one_mem2 hb.1; have h2 := one_mem2 hb.2.1; omega
   ·rw [List.mem_singleton.1 hp] at hl; have : q.f0.length ≤ 2 := by
     rcases List.mem_cons.1 hq with rfl | hq
     ·decide
     ·rw [List.mem_singleton.1 hq]; decide
    have e : pB.f0.length = 2 := rfl; omega
theorem comD : ComPQ pA pD [57] := ⟨⟨(48, 57), List.mem_cons_self, by decide, by decide⟩, ⟨(57, 57), List.mem_cons_self, by decide, by decide⟩, fun y _ h => (one_mem2 h).1, rfl⟩
theorem fixedD : Ev (fun k => clash_Prefix.f k [pA, pD]) (false, 9, 10, 0) := by
 obtain ⟨r, r1, r2⟩ := clash_Prefix_is [pA, pD] (inAB pD (in2two _ _ _ _)); rcases r2 with ⟨h, _⟩ | ⟨_, h⟩
 ·rw [vAD] at h; cases h
 ·rcases specP_yes h with ⟨hn, _⟩ | ⟨_, i, j, U, V, hi, hj, ha, hs, rfl⟩
  ·exact (hn pA List.mem_cons_self pD (List.mem_cons_of_mem _ List.mem_cons_self) (by decide) [57] comD).elim
  ·have hij : i = 0 ∧ j = 1 := by
    have hi' : i < 2 := hi; have hj' : j < 2 := hj; have ha' := (askP_at hi hj).1 ha; rcases (by omega : i = 0 ∨ i = 1) with rfl | rfl <;> rcases (by omega : j = 0 ∨ j = 1) with rfl | rfl
    ·exact absurd ha' (by show ¬ 1 < 1; omega)
    ·exact ⟨rfl, rfl⟩
    ·exact absurd ha' (by show ¬ 2 < 1; omega)
    ·exact absurd ha' (by show ¬ 2 < 2; omega)
   obtain ⟨rfl, rfl⟩ := hij; obtain ⟨b, kk, kk', hb, h1, h2, hU, hV⟩ := hs; have hb' := (comIJ_at hi hj).1 hb; obtain rfl := Com.uniq hb' comD; have k1 : rnk [runs (one1 48 57)] [57] = some 9 := by
    rw [rnk_cons, if_pos (one_memB (by decide) (by decide)), rnk_nil]; simp only [Option.map_some, cnt_nil, one_cd (show (0 : Int) ≤ 48 by decide) (show (48 : Int) ≤ 57 by decide) (show (57 : Int) ≤ 57 by decide) (by decide)]; rfl
   have k2 : rnk [runs (one1 57 57), runs (one1 48 48)] [57, 48] = some 0 := by
    rw [rnk_cons, if_pos (one_memB (by decide) (by decide)), rnk_cons, if_pos (one_memB (by decide) (by decide)), rnk_nil]; simp only [Option.map_some, cnt_cons, cnt_nil, one_size, one_cd (show (0 : Int) ≤ 57 by decide) (show (57 : Int) ≤ 57 by decide) (show (57 : Int) ≤ 57 by decide) (by decide), one_cd (show (0 : Int) ≤ 48 by decide) (show (48 : Int) ≤ 48 by decide) (show (48 : Int) ≤ 48 by decide) (by decide)]; rfl
   have q1 : rnk [runs (one1 48 57)] [57] = some kk := h1; have q2 : rnk [runs (one1 57 57), runs (one1 48 48)] [57, 48] = some kk' := h2; rw [k1] at q1; rw [k2] at q2; obtain rfl := Option.some.inj q1; obtain rfl := Option.some.inj q2; have eU : U = 9 := hU; have eV : V = 10 := hV; rw [← eU, ← eV]; exact r1
theorem fixed11 : Ev (fun k => leadtraillaw11_fixed.f k) true := by
 simp only [leadtraillaw11_fixed.f]; refine Ev.bind (shapeOf2 0 48 57) (Ev.bind (shapeOf4 10 64 65 48 57) (Ev.bind fixedA (Ev.bind (shapeOf2 0 48 57) (Ev.bind (shapeOf4 10 57 57 48 48) (Ev.bind fixedD ?_))))); exact evNow _
end Go.Proofs.Ytoljcfocgaonpaa.PBS
end
section
namespace Go.Proofs.Ytoljcfocgaonpaa.PBS
open Go.RowKit Go.Proofs.YtoljcfocgaonpaaW.PrintWords Go.Proofs.YtoljcfocgaonpaaW.PrintLast Go.Proofs.YtoljcfocgaonpaaW.PrintMore Go.Proofs.Ytoljcfocgaonpaa.I Go.Proofs.LT Go.Proofs.Ytoljcfocgaonpaa.PB3
set_option linter.unusedVariables false
set_option linter.unusedSimpArgs false
theorem apart_get : ∀ {l : List Cs}, Apart l → ∀ {i j : Nat} (hi : i < l.length) (hj : j < l.length), i < j → lastC l[i] < l[j].2 ∨ lastC l[j] < l[i].2
 | [], _, i, _, hi, _, _ => absurd hi (by simp)
 | p :: t, h, 0, j + 1, hi, hj, _ => h.1 _ (List.getElem_mem (show j < t.length by simpa using hj))
 | p :: t, h, i + 1, j + 1, hi, hj, hij => apart_get h.2 (i := i) (j := j) (by simpa using hi) (by simpa using hj) (by omega)
 | p :: t, h, i, 0, _, _, hij => by omega
theorem hits_apart {ss : List Sh} (ha : Apart (cs ss)) {i j : Nat} (hi : i < ss.length) (hj : j < ss.length) (hij : i < j) {U V : Int} (h1 : hitC U (C ss[i]) = true) (h2 : hitC V (C ss[j]) = true) : U ≠ V := by
 have a := hitC_iff.1 h1; have b := hitC_iff.1 h2; have hl : (cs ss).length = ss.length := List.length_map ..; have := apart_get ha (i := i) (j := j) (by omega) (by omega) hij; simp only [cs, List.getElem_map] at this; unfold lastC at this; omega
theorem enc_shape {ss : List Sh} (h : vScheme ss = true) {u : Int} {x : List Int} (he : encC (cs ss) u = some x) : ∃ (i : Nat) (hi : i < ss.length), rnk (sets ss[i].f0) x = some (u - ss[i].f1) ∧ x.length = ss[i].f0.length ∧ GoodP (sets ss[i].f0) := by
 obtain ⟨_, h2, _, hg⟩ := vScheme_facts h; obtain ⟨p, hp, hh, hx⟩ := encC_mem he; obtain ⟨q, hq, rfl⟩ := List.mem_map.1 hp; obtain ⟨i, hi, rfl⟩ := List.getElem_of_mem hq; have hr := encC_hit hg hp hh hx; exact ⟨i, hi, hr, by have := rnk_len hr; rwa [show (C ss[i]).1 = sets ss[i].f0 from rfl, sets_len] at this, hg _ hp⟩
theorem not_noP {ss : List Sh} (h : vScheme ss = true) {u v : Int} {x y : List Int} (hx : encC (cs ss) u = some x) (hy : encC (cs ss) v = some y) (hl : x.length < y.length) (ht : y.take x.length = x) : ¬ noP ss := fun hn => by
 obtain ⟨i, hi, r1, l1, g1⟩ := enc_shape h hx; obtain ⟨j, hj, r2, l2, g2⟩ := enc_shape h hy; have hm := meet_of_seq (n := x.length) r1 r2 (Nat.le_refl _) (by omega) (by rw [ht, List.take_length]); obtain ⟨b, hb⟩ := com_of_meet g1 hm; rw [l1] at hb; exact hn _ (List.getElem_mem hi) _ (List.getElem_mem hj) (by omega) b hb
theorem not_noI {ss : List Sh} (h : vScheme ss = true) {u v : Int} {x : List Int} (hx : encC (cs ss) u = some x) (hy : encC (cs ss) v = some x) (hne : u ≠ v) : ¬ noI ss := fun hn => by
 obtain ⟨i, hi, r1, l1, g1⟩ := enc_shape h hx; obtain ⟨j, hj, r2, l2, g2⟩ := enc_shape h hy; have hp := List.pairwise_iff_getElem.1 hn; rcases Nat.lt_trichotomy i j with hij | rfl | hij
 ·have hm := meet_of_seq (n := x.length) r1 r2 (Nat.le_refl _) (Nat.le_refl _) rfl; obtain ⟨b, hb⟩ := com_of_meet g1 hm; rw [l1] at hb; exact hp i j hi hj hij (by omega) b hb
 ·rw [r1] at r2; have := Option.some.inj r2; omega
 ·have hm := meet_of_seq (n := x.length) r2 r1 (Nat.le_refl _) (Nat.le_refl _) rfl; obtain ⟨b, hb⟩ := com_of_meet g2 hm; rw [l2] at hb; exact hp j i hj hi hij (by omega) b hb
end Go.Proofs.Ytoljcfocgaonpaa.PBS
end
section
namespace Go.Proofs.Ytoljcfocgaonpaa.PBS
open Go.RowKit Go.Proofs.YtoljcfocgaonpaaW.PrintWords Go.Proofs.YtoljcfocgaonpaaW.PrintLast Go.Proofs.YtoljcfocgaonpaaW.PrintMore Go.Proofs.Ytoljcfocgaonpaa.I Go.Proofs.LT Go.Proofs.Ytoljcfocgaonpaa.PB3
set_option linter.unusedVariables false
set_option linter.unusedSimpArgs false
theorem hasPrefix_some (x y : ByteArray) : ∃ b, strings_HasPrefix.f y x = some b := by
 have e0 : ∃ b, stringslite_HasPrefix.f y x = some b := by
  simp only [stringslite_HasPrefix.f]; by_cases c : x.size ≤ y.size
  ·rw [if_pos (show (y.size : Int) ≥ (x.size : Int) by omega), if_pos (show (0 : Int) ≤ (x.size : Int) by omega), if_pos (show (x.size : Int) ≤ (y.size : Int) by omega)]; exact ⟨_, rfl⟩
  ·rw [if_neg (show ¬ (y.size : Int) ≥ (x.size : Int) by omega)]; exact ⟨_, rfl⟩
 obtain ⟨b, e0⟩ := e0; exact ⟨b, by simp only [strings_HasPrefix.f, e0, Option.bind_some]⟩
def PP (x y : ByteArray) : Prop := (x.size : Int) < (y.size : Int) ∧ hpB y x = true
theorem fl2_is (l : List ByteArray) (x : ByteArray) (j : Nat) (f0 : Bool × Bool) : ∀ n : Nat,
 ((fl2 l x j f0 n).1 = true ↔ f0.1 = true ∨ ∃ k, k < n ∧ PP x (rdOf ByteArray.empty l (k : Int))) ∧ ((fl2 l x j f0 n).2 = true ↔ f0.2 = true ∨ ∃ k, k < n ∧ j ≠ k ∧ x.toList = (rdOf ByteArray.empty l (k : Int)).toList)
 | 0 => ⟨⟨.inl, fun h => h.elim id fun ⟨k, h, _⟩ => absurd h (Nat.not_lt_zero _)⟩, ⟨.inl, fun h => h.elim id fun ⟨k, h, _⟩ => absurd h (Nat.not_lt_zero _)⟩⟩
 | n + 1 => by
  obtain ⟨h1, h2⟩ := fl2_is l x j f0 n; rw [fl2, stepF]; constructor
  ·rw [Bool.or_eq_true, h1, Bool.and_eq_true, decide_eq_true_iff]; constructor
   ·rintro ((h | ⟨k, hk, h⟩) | h)
    ·exact .inl h
    ·exact .inr ⟨k, by omega, h⟩
    ·exact .inr ⟨n, by omega, h⟩
   ·rintro (h | ⟨k, hk, h⟩)
    ·exact .inl (.inl h)
    ·rcases (by omega : k < n ∨ k = n) with c | rfl
     ·exact .inl (.inr ⟨k, c, h⟩)
     ·exact .inr h
  ·rw [Bool.or_eq_true, h2, Bool.and_eq_true, decide_eq_true_iff, beq_iff_eq]; constructor
   ·rintro ((h | ⟨k, hk, h⟩) | h)
    ·exact .inl h
    ·exact .inr ⟨k, by omega, h⟩
    ·exact .inr ⟨n, by omega, h⟩
   ·rintro (h | ⟨k, hk, h⟩)
    ·exact .inl (.inl h)
    ·rcases (by omega : k < n ∨ k = n) with c | rfl
     ·exact .inl (.inr ⟨k, c, h⟩)
     ·exact .inr h
theorem fl1_is (l : List ByteArray) : ∀ n : Nat,
 ((fl1 l n).1 = true ↔ ∃ j k, j < n ∧ k < l.length ∧ PP (rdOf ByteArray.empty l (j : Int)) (rdOf ByteArray.empty l (k : Int))) ∧ ((fl1 l n).2 = true ↔ ∃ j k, j < n ∧ k < l.length ∧ j ≠ k ∧ (rdOf ByteArray.empty l (j : Int)).toList = (rdOf ByteArray.empty l (k : Int)).toList)
 | 0 => ⟨⟨fun h => (by cases h), fun ⟨j, k, h, _⟩ => absurd h (Nat.not_lt_zero _)⟩, ⟨fun h => (by cases h), fun ⟨j, k, h, _⟩ => absurd h (Nat.not_lt_zero _)⟩⟩
 | n + 1 => by
  obtain ⟨h1, h2⟩ := fl1_is l n; obtain ⟨g1, g2⟩ := fl2_is l (rdOf ByteArray.empty l (n : Int)) n (fl1 l n) l.length; rw [fl1]; constructor
  ·rw [g1, h1]; constructor
   ·rintro (⟨j, k, h, h3⟩ | ⟨k, h, h3⟩)
    ·exact ⟨j, k, by omega, h3⟩
    ·exact ⟨n, k, by omega, h, h3⟩
   ·rintro ⟨j, k, h, h3⟩; rcases (by omega : j < n ∨ j = n) with c | rfl
    ·exact .inl ⟨j, k, c, h3⟩
    ·exact .inr ⟨k, h3⟩
  ·rw [g2, h2]; constructor
   ·rintro (⟨j, k, h, h3⟩ | ⟨k, h, h3⟩)
    ·exact ⟨j, k, by omega, h3⟩
    ·exact ⟨n, k, by omega, h, h3⟩
   ·rintro ⟨j, k, h, h3⟩; rcases (by omega : j < n ∨ j = n) with c | rfl
    ·exact .inl ⟨j, k, c, h3⟩
    ·exact .inr ⟨k, h3⟩
theorem strS_at {L : List (Int × List Int)} {i : Nat} (h : i < L.length) : rdOf ByteArray.empty (strS L L.length) (i : Int) = strOfNums L[i].2 := by
 unfold rdOf strS; rw [List.take_length, Int.toNat_natCast, List.getD_eq_getElem?_getD, List.getElem?_map, List.getElem?_eq_getElem h]; rfl
theorem PP_is {x y : List Int} (hx : InB x) (hy : InB y) : PP (strOfNums x) (strOfNums y) ↔ x.length < y.length ∧ y.take x.length = x := by
 unfold PP hpB; rw [hasPrefix_is y x hy hx, nums_size, nums_size, Option.getD_some, decide_eq_true_iff]; constructor
 ·rintro ⟨h1, h2, h3⟩; exact ⟨by omega, h3⟩
 ·rintro ⟨h1, h2⟩; exact ⟨by omega, by omega, h2⟩
theorem leadtraillaw11_ClashAll_ev (ss : List Sh) (hI : InS ss) : ∃ k, leadtraillaw11_ClashAll.Good k ss := by
 obtain ⟨K0, h0⟩ := fixed11; obtain ⟨⟨r1, r2, r3, r4⟩, ⟨K1, h1⟩, hc⟩ := clash_Prefix_is ss hI; obtain ⟨⟨s1, s2, s3, s4⟩, ⟨K4, h4⟩, hd⟩ := clash_Inject_is ss hI; obtain ⟨r, ⟨K2, h2⟩, hIr, hvr, hlr, hcase⟩ := rising_is ss hI; obtain ⟨K3, h3⟩ := codF_is 0 r hIr hvr; refine ⟨max (max K0 K1) (max K2 K4), r1, r2, r3, r4, s1, s2, s3, s4, h0 _ (by omega), h1 _ (by omega), h4 _ (by omega), ?_⟩; rcases hc with ⟨hv, e⟩ | ⟨hv, hc⟩
 ·rcases hd with ⟨_, e'⟩ | ⟨hv2, _⟩
  ·injection e with e1 e2; injection e2 with e2 e3; injection e3 with e3 e4
   injection e' with f1 f2; injection f2 with f2 f3; injection f3 with f3 f4
   exact .inl ⟨by omega, by omega, e1, f1⟩
  ·rw [hv] at hv2; cases hv2
 ·rcases hd with ⟨hv2, _⟩ | ⟨_, hd⟩
  ·rw [hv] at hv2; cases hv2
  rcases hcase with ⟨hv2, _⟩ | ⟨_, hp, ha, hg, hr⟩
  ·rw [hv] at hv2; cases hv2
  obtain ⟨_, _, ha', hg'⟩ := vScheme_facts hv; obtain ⟨L, hL⟩ : ∃ L, L = allC (cs r) 0 := ⟨_, rfl⟩
  have hs : L.Pairwise (fun x y => x.1 < y.1) := by rw [hL]; exact all_lt ha hg hr
  have henc : ∀ i (h : i < L.length), encC (cs ss) L[i].1 = some L[i].2 := fun i h => by
   obtain ⟨_, p, q2, q3, q4⟩ := all_mem.1 (show (L[i].1, L[i].2) ∈ allC (cs r) 0 by rw [← hL]; exact List.getElem_mem h); rw [encC_of ha' (hp.subset q2) q3, q4]
  have hin : ∀ {U : Int} {x : List Int}, encC (cs ss) U = some x → ∃ i, ∃ h : i < L.length, L[i].1 = U ∧ L[i].2 = x := fun {U x} he => by
   obtain ⟨p, q2, q3, rfl⟩ := encC_mem he; obtain ⟨i, hi, e⟩ := List.getElem_of_mem (show (U, unr p.1 (U - p.2)) ∈ L by rw [hL]; exact all_mem.2 ⟨(enc_range hv he).1.1, p, hp.symm.subset q2, q3, rfl⟩); exact ⟨i, hi, by rw [e], by rw [e]⟩
  have hb : ∀ i (h : i < L.length), InB L[i].2 := fun i h => (enc_range hv (henc i h)).2.1
  have hll : (strS L L.length).length = L.length := by unfold strS; simp
  have hproper : (fl1 (strS L L.length) L.length).1 = true ↔ ¬ noP ss := by
   rw [(fl1_is _ _).1]; constructor
   ·rintro ⟨j, k, hj, hk, h⟩; rw [hll] at hk; rw [strS_at hj, strS_at hk, PP_is (hb j hj) (hb k hk)] at h; exact not_noP hv (henc j hj) (henc k hk) h.1 h.2
   ·intro hno; rcases specP_yes hc with ⟨h, _⟩ | ⟨_, i, j, U, V, hi, hj, hask, hsh, _⟩
    ·exact absurd h hno
    ·obtain ⟨b, _, hbl, hU, ⟨t, hV, hVl⟩, _⟩ := shows_enc hv hi hj hsh; obtain ⟨a, ha1, _, ha3⟩ := hin hU; obtain ⟨c, hc1, _, hc3⟩ := hin hV; have hlt := (askP_at hi hj).1 hask; refine ⟨a, c, ha1, by rw [hll]; exact hc1, ?_⟩; rw [strS_at ha1, strS_at hc1, PP_is (hb a ha1) (hb c hc1), ha3, hc3]; exact ⟨by rw [hVl, hbl]; exact hlt, by simp⟩
  have hequal : (fl1 (strS L L.length) L.length).2 = true ↔ ¬ noI ss := by
   rw [(fl1_is _ _).2]; constructor
   ·rintro ⟨j, k, hj, hk, hne, h⟩; rw [hll] at hk; rw [strS_at hj, strS_at hk, Lib.strOfNums_toList, Lib.strOfNums_toList, bytes_inj _ _ (hb j hj) (hb k hk)] at h; refine not_noI hv (henc j hj) (by rw [h]; exact henc k hk) (fun e => ?_); rcases Nat.lt_or_gt_of_ne hne with c | c
    ·have := (List.pairwise_iff_getElem.1 hs) j k hj hk c; omega
    ·have := (List.pairwise_iff_getElem.1 hs) k j hk hj c; omega
   ·intro hno; rcases specI_yes hd with ⟨h, _⟩ | ⟨_, i, j, U, V, hi, hj, hask, hsh, _⟩
    ·exact absurd h hno
    ·obtain ⟨b, _, hbl, hU, ⟨t, hV, hVl⟩, q1, q2⟩ := shows_enc hv hi hj hsh; have hij := (askI_at hi hj).1 hask; have ht : t = [] := List.eq_nil_of_length_eq_zero (by rw [List.length_append] at hVl; omega); rw [ht, List.append_nil] at hV; obtain ⟨a, ha1, ha2, ha3⟩ := hin hU; obtain ⟨c, hc1, hc2, hc3⟩ := hin hV; have huv := hits_apart ha' hi hj hij.1 q1 q2; refine ⟨a, c, ha1, by rw [hll]; exact hc1, fun e => huv (by subst e; rw [← ha2, ← hc2]), ?_⟩; rw [strS_at ha1, strS_at hc1, ha3, hc3]
  have hr4 : r4 = 0 ∧ (r1 = true ↔ noP ss) := by
   rcases specP_yes hc with ⟨h, e⟩ | ⟨h, _, _, _, _, _, _, _, _, e⟩
   ·injection e with e1 e2; injection e2 with e2 e3; injection e3 with e3 e4
    exact ⟨e4, ⟨fun _ => h, fun _ => e1⟩⟩
   ·injection e with e1 e2; injection e2 with e2 e3; injection e3 with e3 e4
    exact ⟨e4, ⟨fun q => (by rw [e1] at q; cases q), fun q => absurd q h⟩⟩
  have hs4 : s4 = 0 ∧ (s1 = true ↔ noI ss) := by
   rcases specI_yes hd with ⟨h, e⟩ | ⟨h, _, _, _, _, _, _, _, _, e⟩
   ·injection e with e1 e2; injection e2 with e2 e3; injection e3 with e3 e4
    exact ⟨e4, ⟨fun _ => h, fun _ => e1⟩⟩
   ·injection e with e1 e2; injection e2 with e2 e3; injection e3 with e3 e4
    exact ⟨e4, ⟨fun q => (by rw [e1] at q; cases q), fun q => absurd q h⟩⟩
  refine .inr ⟨hr4.1, hs4.1, K3, r, L, h2 _ (by omega), by rw [hL]; exact h3 _ (Nat.le_refl _), by omega, hasPrefix_some, fun _ => ⟨?_, ?_⟩⟩
  ·cases hf : (fl1 (strS L L.length) L.length).1
   ·exact hr4.2.2 (Classical.byContradiction fun q => by rw [hproper.2 q] at hf; cases hf)
   ·cases hq : r1
    ·rfl
    ·exact absurd (hr4.2.1 hq) (hproper.1 hf)
  ·cases hf : (fl1 (strS L L.length) L.length).2
   ·exact hs4.2.2 (Classical.byContradiction fun q => by rw [hequal.2 q] at hf; cases hf)
   ·cases hq : s1
    ·rfl
    ·exact absurd (hs4.2.1 hq) (hequal.1 hf)
end Go.Proofs.Ytoljcfocgaonpaa.PBS
namespace Go.Proofs.Ytoljcfocgaonpaa.Pure
open Go.Proofs.Ytoljcfocgaonpaa.I Go.Proofs.YtoljcfocgaonpaaW.PrintWords
theorem ClashAll : ∀ (l0_0 : List S47), (l0_0.length * 32 ≤ 140737488351232 ∧ ∀ x ∈ l0_0, ((x.f0.length * 24 ≤ 140737488351232 ∧ ∀ y ∈ x.f0, (y.length * 16 ≤ 140737488351232 ∧ ∀ x ∈ y, ((Lit.int .i64 x.f0).wf = true ∧ (Lit.int .i64 x.f1).wf = true))) ∧ (Lit.int .i64 x.f1).wf = true)) → ∃ k, leadtraillaw11_ClashAll.f k l0_0 = some true :=
 fun l0 h => by
  obtain ⟨k, hk⟩ := PBS.leadtraillaw11_ClashAll_ev l0 ⟨h.1, fun x hx => ⟨(h.2 x hx).1.1, fun y hy => ((h.2 x hx).1.2 y hy).1⟩⟩; refine ⟨k, ?_⟩; unfold leadtraillaw11_ClashAll.f; rw [if_pos hk]
end Go.Proofs.Ytoljcfocgaonpaa.Pure
end
