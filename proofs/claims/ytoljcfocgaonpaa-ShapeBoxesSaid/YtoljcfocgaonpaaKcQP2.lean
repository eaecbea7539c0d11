/- Words and laws of this claim, of 10 texts. -/
import Derived.Test.YtoljcfocgaonpaaKcIx0
import Derived.Test.YtoljcfocgaonpaaKcIx13
import Derived.Test.YtoljcfocgaonpaaKcQP1
import Derived.Test.YtoljcfocgaonpaaKcIx6
import Derived.Test.YtoljcfocgaonpaaKcIx12
import Derived.Test.YtoljcfocgaonpaaKcIx14
import Derived.Test.YtoljcfocgaonpaaKcQW1
import Derived.Test.YtoljcfocgaonpaaKcIx15
import Derived.Test.YtoljcfocgaonpaaKcIx16
import Derived.Lib.Bytes
import Derived.Test.YtoljcfocgaonpaaKcIx7
import Derived.Test.YtoljcfocgaonpaaKcIx8
import Derived.Test.YtoljcfocgaonpaaKcIx19
import Derived.Test.YtoljcfocgaonpaaKcIx17
import Derived.Test.YtoljcfocgaonpaaKcIx18
import Derived.Test.YtoljcfocgaonpaaKcIx20
import Derived.Test.YtoljcfocgaonpaaKcIx21
import Derived.Test.YtoljcfocgaonpaaKcQP0
section
namespace Go.Proofs.Ytoljcfocgaonpaa.PB4
open Go.RowKit Go.Proofs.YtoljcfocgaonpaaW.PrintWords Go.Proofs.YtoljcfocgaonpaaW.PrintLast Go.Proofs.YtoljcfocgaonpaaW.PrintMore Go.Proofs.Ytoljcfocgaonpaa.I Go.Proofs.LT
set_option linter.unusedVariables false
set_option linter.unusedSimpArgs false
theorem meet_loop (N : Nat) (hN : N ≤ 8796093022206) (top : Int) (ht : top ≤ 1073741823) : ∀ (n : Nat) (a b out : List S133) (la lb : Int), a.length + b.length = n → out.length + a.length + b.length ≤ N → ValidFrom top la (a.map L133) → ValidFrom top lb (b.map L133) →
 ∃ m, Ev (fun k => sets_Meet.l0 k a b out) (out ++ m) ∧ m.length ≤ a.length + b.length ∧ ValidFrom top (max la lb) (m.map L133) ∧ ∀ x, Mem (m.map L133) x ↔ Mem (a.map L133) x ∧ Mem (b.map L133) x
 | n, [], b, out, la, lb, _, _, _, _ => by
  refine ⟨[], evSucc (evSucc ?_), by simp, trivial, fun x => ⟨fun h => (Mem.nil h).elim, fun h => (Mem.nil h.1).elim⟩⟩; simp only [sets_Meet.l0, List.length_nil]; simp only [if_neg (show ¬ ((0 : Nat) : Int) > 0 by omega), sets_Meet.j1]; simpa using evNow out
 | n, x :: a, [], out, la, lb, _, _, _, _ => by
  refine ⟨[], evSucc (evSucc ?_), by simp, trivial, fun x => ⟨fun h => (Mem.nil h).elim, fun h => (Mem.nil h.2).elim⟩⟩; simp only [sets_Meet.l0, List.length_nil, List.length_cons]; simp only [if_pos (show ((a.length + 1 : Nat) : Int) > 0 by omega), show decide (((0 : Nat) : Int) > 0) = false by decide, sets_Meet.j1]; simpa using evNow out
 | n, x :: a, y :: b, out, la, lb, hn, hl, ha, hb => by
  obtain ⟨a0, a1, a2, a3, a4⟩ := ha; obtain ⟨b0, b1, b2, b3, b4⟩ := hb; have ex : (L133 x).1 = x.f0 ∧ (L133 x).2 = x.f1 := ⟨rfl, rfl⟩; have ey : (L133 y).1 = y.f0 ∧ (L133 y).2 = y.f1 := ⟨rfl, rfl⟩; have c1 : ((((x :: a).length : Nat) : Int) > 0) := by rw [List.length_cons]; omega
  have c2 : decide ((((y :: b).length : Nat) : Int) > 0) = true := by rw [List.length_cons]; exact decide_eq_true (by omega)
  have c3 : (0 : Int) < (((x :: a).length : Nat) : Int) := c1; have c4 : (0 : Int) < (((y :: b).length : Nat) : Int) := by rw [List.length_cons]; omega
  have c5 : (1 : Int) ≤ (((x :: a).length : Nat) : Int) := by omega
  have c6 : (1 : Int) ≤ (((y :: b).length : Nat) : Int) := by omega
  have r1 : rd_T133 (x :: a) 0 = x := rfl; have r2 : rd_T133 (y :: b) 0 = y := rfl; have hlo : out.length < 8796093022208 := by simp at hl; omega
  simp only [ex.1, ex.2, ey.1, ey.2] at a0 a1 a2 a3 b0 b1 b2 b3; have main : ∀ (out' : List S133) (n' : Nat), out'.length + a.length + b.length + 1 ≤ N →
   ∃ m, Ev (fun k => if x.f1 < y.f1 then (if (1 : Int) ≤ (((x :: a).length : Nat) : Int) then sets_Meet.l0 k ((x :: a).drop 1) (y :: b) out' else none) else (if (1 : Int) ≤ (((y :: b).length : Nat) : Int) then sets_Meet.l0 k (x :: a) ((y :: b).drop 1) out' else none)) (out' ++ m) ∧ m.length ≤ a.length + b.length + 1 ∧ ValidFrom top (if x.f1 < y.f1 then max x.f1 lb else max la y.f1) (m.map L133) ∧
    ∀ z, Mem (m.map L133) z ↔ (if x.f1 < y.f1 then Mem (a.map L133) z ∧ Mem ((y :: b).map L133) z else Mem ((x :: a).map L133) z ∧ Mem (b.map L133) z) := fun out' n' hl' => by
   by_cases d : x.f1 < y.f1
   ·obtain ⟨m, h1, h2, h3, h4⟩ := meet_loop N hN top ht (a.length + (y :: b).length) a (y :: b) out' x.f1 lb rfl (by simp; omega) a4 ⟨b0, b1, b2, b3, b4⟩; refine ⟨m, ?_, by simp at h2; omega, by rw [if_pos d]; exact h3, fun z => by rw [if_pos d]; exact h4 z⟩; simp only [if_pos d, if_pos c5, List.drop_one, List.tail_cons]; exact h1
   ·obtain ⟨m, h1, h2, h3, h4⟩ := meet_loop N hN top ht ((x :: a).length + b.length) (x :: a) b out' la y.f1 rfl (by simp; omega) ⟨a0, a1, a2, a3, a4⟩ b4; refine ⟨m, ?_, by simp at h2; omega, by rw [if_neg d]; exact h3, fun z => by rw [if_neg d]; exact h4 z⟩; simp only [if_neg d, if_pos c6, List.drop_one, List.tail_cons]; exact h1
  by_cases d0 : max x.f0 y.f0 ≤ min x.f1 y.f1
  ·obtain ⟨m, h1, h2, h3, h4⟩ := main (out ++ [⟨max x.f0 y.f0, min x.f1 y.f1⟩]) 0 (by simp at hl ⊢; omega); refine ⟨⟨max x.f0 y.f0, min x.f1 y.f1⟩ :: m, evSucc (evSucc ?_), by simp; omega, ?_, fun z => ?_⟩
   ·simp only [sets_Meet.l0, if_pos c1, c2, sets_Meet.j1, if_true, if_pos c3, if_pos c4, r1, r2, mx_eq, mn_eq, if_pos d0, if_pos hlo, Option.bind_some]; simpa using h1
   ·refine ⟨?_, ?_, ?_, ?_, ?_⟩
    ·show 0 ≤ max x.f0 y.f0; omega
    ·exact d0
    ·show min x.f1 y.f1 ≤ top; omega
    ·show max la lb < max x.f0 y.f0 - 1; omega
    ·refine ValidFrom.mono ?_ h3; show min x.f1 y.f1 ≤ _; split <;> omega
   ·rw [List.map_cons, mem_cons, h4 z]; have e : (L133 ⟨max x.f0 y.f0, min x.f1 y.f1⟩).1 = max x.f0 y.f0 ∧ (L133 ⟨max x.f0 y.f0, min x.f1 y.f1⟩).2 = min x.f1 y.f1 := ⟨rfl, rfl⟩; rw [e.1, e.2]; have ga : ∀ z, Mem (a.map L133) z → x.f1 + 1 < z := fun z h => ValidFrom.gt a4 h
    have gb : ∀ z, Mem (b.map L133) z → y.f1 + 1 < z := fun z h => ValidFrom.gt b4 h
    simp only [List.map_cons, mem_cons, ex.1, ex.2, ey.1, ey.2]; by_cases d : x.f1 < y.f1
    ·simp only [if_pos d]; constructor
     ·rintro (h | ⟨h, h'⟩)
      ·exact ⟨.inl (by omega), .inl (by omega)⟩
      ·exact ⟨.inr h, h'⟩
     ·rintro ⟨h | h, h'⟩
      ·rcases h' with h' | h'
       ·exact .inl (by omega)
       ·have := gb z h'; omega
      ·exact .inr ⟨h, h'⟩
    ·simp only [if_neg d]; constructor
     ·rintro (h | ⟨h, h'⟩)
      ·exact ⟨.inl (by omega), .inl (by omega)⟩
      ·exact ⟨h, .inr h'⟩
     ·rintro ⟨h, h' | h'⟩
      ·rcases h with h | h
       ·exact .inl (by omega)
       ·have := ga z h; omega
      ·exact .inr ⟨h, h'⟩
  ·obtain ⟨m, h1, h2, h3, h4⟩ := main out 0 (by simp at hl; omega); refine ⟨m, evSucc (evSucc ?_), by simp; omega, ?_, fun z => ?_⟩
   ·simp only [sets_Meet.l0, if_pos c1, c2, sets_Meet.j1, if_true, if_pos c3, if_pos c4, r1, r2, mx_eq, mn_eq, if_neg d0]; exact h1
   ·refine ValidFrom.mono ?_ h3; split <;> omega
   ·rw [h4 z]; have ga : ∀ z, Mem (a.map L133) z → x.f1 + 1 < z := fun z h => ValidFrom.gt a4 h
    have gb : ∀ z, Mem (b.map L133) z → y.f1 + 1 < z := fun z h => ValidFrom.gt b4 h
    simp only [List.map_cons, mem_cons, ex.1, ex.2, ey.1, ey.2]; by_cases d : x.f1 < y.f1
    ·simp only [if_pos d]; constructor
     ·rintro ⟨h, h'⟩; exact ⟨.inr h, h'⟩
     ·rintro ⟨h | h, h'⟩
      ·rcases h' with h' | h'
       ·omega
       ·have := gb z h'; omega
      ·exact ⟨h, h'⟩
    ·simp only [if_neg d]; constructor
     ·rintro ⟨h, h'⟩; exact ⟨h, .inr h'⟩
     ·rintro ⟨h, h' | h'⟩
      ·rcases h with h | h
       ·omega
       ·have := ga z h; omega
      ·exact ⟨h, h'⟩
termination_by n a b => a.length + b.length
theorem meet_is (top : Int) (ht : top ≤ 1073741823) (a b : List S133) (hl : a.length + b.length ≤ 8796093022206) (ha : ValidFrom top (-2) (a.map L133)) (hb : ValidFrom top (-2) (b.map L133)) :
 ∃ m, Ev (fun k => sets_Meet.f k a b) m ∧ m.length ≤ a.length + b.length ∧ ValidFrom top (-2) (m.map L133) ∧ ∀ x, Mem (m.map L133) x ↔ Mem (a.map L133) x ∧ Mem (b.map L133) x := by
 obtain ⟨m, h1, h2, h3, h4⟩ := meet_loop (a.length + b.length) hl top ht _ a b [] (-2) (-2) rfl (by simp) ha hb; exact ⟨m, by simpa [sets_Meet.f] using h1, h2, by simpa using h3, h4⟩
theorem scalars_Union_is (a b : List S43) (ha : a.length * 16 ≤ 140737488351232) (hb : b.length * 16 ≤ 140737488351232) : ∃ r, Ev (fun k => scalars_Union.f k a b) r ∧ scalars_IsSet r (fun x => Mem (setL 1073741823 (a.map L43)) x ∨ Mem (setL 1073741823 (b.map L43)) x) := by
 obtain ⟨s, h1, h2⟩ := scalars_set_is a ha; obtain ⟨hv, hn⟩ := scalars_set_facts h2; obtain ⟨t, g1, g2⟩ := scalars_set_is b hb; obtain ⟨gv, gn⟩ := scalars_set_facts g2; obtain ⟨m, w, k1, k2, k3, k4⟩ := norm_is 1073741823 (by omega) (s ++ t) (by simp; omega) (fun r hr => by
  rcases List.mem_append.1 hr with hr | hr
  ·exact hv.each (L133 r) (List.mem_map.2 ⟨r, hr, rfl⟩)
  ·exact gv.each (L133 r) (List.mem_map.2 ⟨r, hr, rfl⟩))
 obtain ⟨r, q1, q2⟩ := scalars_out (p := fun x => Mem (setL 1073741823 (a.map L43)) x ∨ Mem (setL 1073741823 (b.map L43)) x) k3 (fun x => by rw [k4 x, List.map_append, mem_append, h2, g2]); refine ⟨r, Ev.bind h1 (Ev.bind g1 ?_), q2⟩; simp only [if_pos (show s.length + t.length < 8796093022208 by omega)]; exact Ev.bind k1 (Ev.bind q1 (evNow _))
theorem scalars_Meet_is (a b : List S43) (ha : a.length * 16 ≤ 140737488351232) (hb : b.length * 16 ≤ 140737488351232) : ∃ r, Ev (fun k => scalars_Meet.f k a b) r ∧ scalars_IsSet r (fun x => Mem (setL 1073741823 (a.map L43)) x ∧ Mem (setL 1073741823 (b.map L43)) x) := by
 obtain ⟨s, h1, h2⟩ := scalars_set_is a ha; obtain ⟨hv, hn⟩ := scalars_set_facts h2; obtain ⟨t, g1, g2⟩ := scalars_set_is b hb; obtain ⟨gv, gn⟩ := scalars_set_facts g2; obtain ⟨m, k1, k2, k3, k4⟩ := meet_is 1073741823 (by omega) s t (by omega) hv gv; obtain ⟨r, q1, q2⟩ := scalars_out (p := fun x => Mem (setL 1073741823 (a.map L43)) x ∧ Mem (setL 1073741823 (b.map L43)) x) k3 (fun x => by rw [k4 x, h2, g2]); exact ⟨r, Ev.bind h1 (Ev.bind g1 (Ev.bind k1 (Ev.bind q1 (evNow _)))), q2⟩
end Go.Proofs.Ytoljcfocgaonpaa.PB4
end
section
namespace Go.Proofs.Ytoljcfocgaonpaa.PBS
open Go.RowKit Go.Proofs.YtoljcfocgaonpaaW.PrintWords Go.Proofs.YtoljcfocgaonpaaW.PrintLast Go.Proofs.YtoljcfocgaonpaaW.PrintMore Go.Proofs.Ytoljcfocgaonpaa.I Go.Proofs.LT Go.Proofs.Ytoljcfocgaonpaa.PB3
set_option linter.unusedVariables false
set_option linter.unusedSimpArgs false
abbrev Sp := S34
abbrev Ra := S43
abbrev Sh := S47
def runs (p : List Sp) : List Run := p.map L34
def sets (ps : List (List Sp)) : List (List Run) := ps.map runs
def In1 (p : List Sp) : Prop := p.length * 16 ≤ 140737488351232
def In2 (ps : List (List Sp)) : Prop := ps.length * 24 ≤ 140737488351232 ∧ ∀ p ∈ ps, In1 p
def okPart (p : List Sp) : Bool := !(decide (p.length = 0)) && validB 255 (-2) (runs p)
def vShape (ps : List (List Sp)) (a : Int) : Bool := decide (1 ≤ ps.length ∧ ps.length ≤ 8) && (decide (0 ≤ a ∧ a ≤ 1073741823) && (ps.all okPart && decide (a + cnt (sets ps) - 1 ≤ 1073741823)))
theorem okPart_good {p : List Sp} (h : okPart p = true) : ValidFrom 255 (-2) (runs p) ∧ 1 ≤ size (runs p) := by
 simp only [okPart, Bool.and_eq_true, Bool.not_eq_true', decide_eq_false_iff_not] at h; have hv := (validB_iff _ _ _).1 h.2; refine ⟨hv, ?_⟩; have := valid_len hv; have e : (runs p).length = p.length := List.length_map ..; omega
theorem good_of {ps : List (List Sp)} (h : ps.all okPart = true) : GoodP (sets ps) := fun s hs => by
 obtain ⟨p, hp, rfl⟩ := List.mem_map.1 hs; exact okPart_good (List.all_eq_true.1 h p hp)
theorem vShape_good {ps : List (List Sp)} {a : Int} (h : vShape ps a = true) : (1 ≤ ps.length ∧ ps.length ≤ 8) ∧ (0 ≤ a ∧ a ≤ 1073741823) ∧ ps.all okPart = true ∧ GoodP (sets ps) ∧ a + cnt (sets ps) - 1 ≤ 1073741823 := by
 simp only [vShape, Bool.and_eq_true, decide_eq_true_eq] at h; exact ⟨h.1, h.2.1, h.2.2.1, good_of h.2.2.1, h.2.2.2⟩
theorem sets_drop (ps : List (List Sp)) (i : Nat) : (sets ps).drop i = sets (ps.drop i) := (List.map_drop ..).symm
theorem sets_len (ps : List (List Sp)) : (sets ps).length = ps.length := List.length_map ..
theorem none_is (p : List Sp) (hp : In1 p) : Ev (fun k => scheme_none.f k p) (!okPart p) := by
 simp only [scheme_none.f]; by_cases c : (p.length : Int) = 0
 ·simp only [if_pos c]; rw [show okPart p = false by simp only [okPart, decide_eq_true (show p.length = 0 by omega)]; rfl]; exact evNow _
 ·simp only [if_neg c]; have e : okPart p = validB 255 (-2) (runs p) := by simp only [okPart, decide_eq_false (show ¬ p.length = 0 by omega)]; rfl
  rw [e]; exact Ev.bind (spans_Valid_is p hp) (evNow _)
theorem any_go : ∀ (ps : List (List Sp)), (∀ p ∈ ps, In1 p) → Ev (fun k => slices_anyNone.go k ps) (!(ps.all okPart))
 | [], _ => evNow _
 | p :: t, h => by
  have h1 := none_is p (h p List.mem_cons_self); have h2 := any_go t (fun q hq => h q (List.mem_cons_of_mem _ hq)); refine Ev.bind h1 ?_; cases hp : okPart p
  ·simp only [Bool.not_false, if_true]; rw [show (!((p :: t).all okPart)) = true by simp [hp]]; exact evNow _
  ·simp only [Bool.not_true, Bool.false_eq_true, if_false]; rw [show (!((p :: t).all okPart)) = !(t.all okPart) by simp [hp]]; exact h2
theorem any_is (ps : List (List Sp)) (h : In2 ps) : Ev (fun k => slices_anyNone.f k ps) (!(ps.all okPart)) := by
 simp only [slices_anyNone.f, if_pos (show ps.length ≤ 8796093022206 by have := h.1; omega)]; exact any_go ps h.2
theorem size_is3 (p : List Sp) (hp : In1 p) (h : okPart p = true) : Ev (fun k => spans_Size.f k p) (size (runs p)) := by
 have := spans_Size_is p hp; rwa [show p.map L34 = runs p from rfl, setL_of (okPart_good h).1] at this
def capd : Int → List (List Sp) → Int
 | n, [] => n
 | n, p :: t => capd (min (n * size (runs p)) 1073741825) t
theorem capd_is : ∀ (ps : List (List Sp)) (n : Int), ps.all okPart = true → 1 ≤ n → n ≤ 1073741825 → capd n ps = min (n * cnt (sets ps)) 1073741825
 | [], n, _, h0, h1 => by
  show n = min (n * cnt (sets [])) _; rw [show cnt (sets []) = 1 from cnt_nil]; omega
 | p :: t, n, h, h0, h1 => by
  have hp : okPart p = true ∧ t.all okPart = true := by simpa using h
  have hs := okPart_good hp.1; have hc := cnt_pos (good_of hp.2); show capd (min (n * size (runs p)) 1073741825) t = min (n * cnt (runs p :: sets t)) _; have hn1 : 1 ≤ n * size (runs p) := by have := Int.mul_le_mul h0 hs.2 (by omega) (by omega); omega
  rw [capd_is t _ hp.2 (by omega) (by omega), cnt_cons, ← Int.mul_assoc]; generalize n * size (runs p) = m at hn1 ⊢; rcases (by omega : m ≤ 1073741825 ∨ 1073741825 < m) with q | q
  ·rw [show min m 1073741825 = m by omega]
  ·rw [show min m 1073741825 = 1073741825 by omega]; have a1 := Int.mul_le_mul_of_nonneg_left hc (show (0 : Int) ≤ 1073741825 by omega); have a2 := Int.mul_le_mul_of_nonneg_right (show (1073741825 : Int) ≤ m by omega) (show 0 ≤ cnt (sets t) by omega); omega
theorem rdL (pre : List (List Sp)) (p : List Sp) (t : List (List Sp)) : rd_L4 (pre ++ p :: t) (pre.length : Int) = p := by simp [rd_L4]
theorem last_loop (qs : List (List Sp)) (a : Int) : ∀ (t pre : List (List Sp)) (n : Int), (∀ p ∈ t, In1 p) → t.all okPart = true → (pre ++ t).length ≤ 8 → 1 ≤ n → n ≤ 1073741825 → 0 ≤ a → a ≤ 1073741823 →
 Ev (fun k => scheme_last.l0 k n (pre ++ t) (((pre ++ t).length : Nat) : Int) (pre.length : Int) qs a) (a + capd n t - 1)
 | [], pre, n, _, _, hl, h0, h1, a0, a1 => by
  refine evSucc ?_; simp only [scheme_last.l0]; rw [List.append_nil]; have w1 : Aside0 (wrap64 (wrap64 (a + n) - 1) = a + n - 1) := Aside0.mk (by rw [w64 (x := a + n) (by omega) (by omega), w64 (by omega) (by omega)]); simp only [if_neg (show ¬ ((pre.length : Nat) : Int) < ((pre.length : Nat) : Int) by omega), w1.out]; exact evNow _
 | p :: t, pre, n, hi, hk, hl, h0, h1, a0, a1 => by
  have hlc := len_cons pre p t; have hp : okPart p = true ∧ t.all okPart = true := by simpa using hk
  have hs := okPart_good hp.1; have hz := size_256 hs.1; have ih := last_loop qs a t (pre ++ [p]) (min (n * size (runs p)) 1073741825) (fun q hq => hi q (List.mem_cons_of_mem _ hq)) hp.2 (by rw [app_snoc]; exact hl) (by have := Int.mul_le_mul h0 hs.2 (by omega) (by omega); omega) (by omega) a0 a1; rw [app_snoc, snoc_len] at ih; have c1 : (pre.length : Int) < ((pre ++ p :: t).length : Nat) := by rw [hlc]; omega
  have c2 : (0 : Int) ≤ pre.length := by omega
  have hpl : pre.length ≤ 8 := by simp at hl; omega
  have m0 : 0 ≤ n * size (runs p) := Int.mul_nonneg (by omega) (by omega); have m1 : n * size (runs p) ≤ 1073741825 * 256 := Int.mul_le_mul h1 hz (by omega) (by omega); have w1 : Aside0 (wrap64 ((pre.length : Int) + 1) = (pre.length : Int) + 1) := Aside0.mk (w64 (by omega) (by omega)); have w2 : Aside0 (wrap64 (n * size (runs p)) = n * size (runs p)) := Aside0.mk (w64 (by omega) (by omega)); refine evSucc ?_; simp only [scheme_last.l0, if_pos c1, if_pos c2, rdL]; refine Ev.bind (size_is3 p (hi p List.mem_cons_self) hp.1) ?_; simp only [w1.out, w2.out, mn_eq]; exact ih
def lastOf (p : Sh) : Int := p.f1 + cnt (sets p.f0) - 1
theorem last_is (ps : List (List Sp)) (a : Int) (hi : In2 ps) (hk : ps.all okPart = true) (hl : ps.length ≤ 8) (a0 : 0 ≤ a) (a1 : a ≤ 1073741823) :
 Ev (fun k => scheme_last.f k ps a) (a + min (cnt (sets ps)) 1073741825 - 1) := by
 have h := last_loop ps a ps [] 1 hi.2 hk (by simpa using hl) (by omega) (by omega) a0 a1; rw [capd_is ps 1 hk (by omega) (by omega), Int.one_mul] at h; simpa [scheme_last.f] using h
def InS (ss : List Sh) : Prop := ss.length * 32 ≤ 140737488351232 ∧ ∀ p ∈ ss, In2 p.f0
def meetsB (p q : Sh) : Bool := decide (p.f1 ≤ lastOf q) && decide (q.f1 ≤ lastOf p)
def vS : List Sh → List Sh → Bool
 | _, [] => true
 | pre, p :: t => vShape p.f0 p.f1 && (!(pre.any (meetsB p)) && vS (pre ++ [p]) t)
def vScheme (ss : List Sh) : Bool := decide (ss.length ≤ 32) && vS [] ss
theorem rdSh (pre : List Sh) (p : Sh) (t : List Sh) : rd_T47 (pre ++ p :: t) (pre.length : Int) = p := by simp [rd_T47]
theorem one_mem {x y z : Int} : Mem ([(⟨x, y⟩ : Ra)].map PB4.L43) z ↔ (x ≤ z ∧ z ≤ y) := by
 show Mem [(x, y)] z ↔ _; rw [mem_cons]; exact ⟨fun h => by rcases h with h | h; exact h; exact (Mem.nil h).elim, fun h => .inl h⟩
def Taken (pre : List Sh) (x : Int) : Prop := ∃ q ∈ pre, q.f1 ≤ x ∧ x ≤ lastOf q
theorem valid_loop3 (N : Nat) (hN : N ≤ 4398046511103) : ∀ (t pre : List Sh) (tk : List Ra), (pre ++ t).length ≤ N → (∀ p ∈ t, In2 p.f0) → (∀ q ∈ pre, 0 ≤ q.f1 ∧ q.f1 ≤ lastOf q ∧ lastOf q ≤ 1073741823) → PB4.scalars_IsSet tk (Taken pre) →
 Ev (fun k => scheme_Valid.l0 k tk (pre ++ t) (((pre ++ t).length : Nat) : Int) (pre.length : Int)) (vS pre t)
 | [], pre, tk, _, _, _, _ => by
  refine evSucc ?_; simp only [scheme_Valid.l0]; rw [List.append_nil]; simp only [if_neg (show ¬ ((pre.length : Nat) : Int) < ((pre.length : Nat) : Int) by omega)]; exact evNow _
 | p :: t, pre, tk, hl, hi, hq, ht => by
  have hlc := len_cons pre p t; have hpl : pre.length ≤ N := by simp at hl; omega
  have c1 : (pre.length : Int) < ((pre ++ p :: t).length : Nat) := by rw [hlc]; omega
  have c2 : (0 : Int) ≤ pre.length := by omega
  have hw : Aside0 (wrap64 ((pre.length : Int) + 1) = (pre.length : Int) + 1) := Aside0.mk (w64 (by omega) (by omega)); have hip := hi p List.mem_cons_self; have no : vShape p.f0 p.f1 = false → vS pre (p :: t) = false := fun h => by show (vShape p.f0 p.f1 && _) = false; rw [h, Bool.false_and]
  have jT : Ev (fun k => scheme_Valid.j1 k tk (pre ++ p :: t) (((pre ++ p :: t).length : Nat) : Int) (pre.length : Int) true p.f0 p.f1) false := by
   refine evSucc ?_; simp only [scheme_Valid.j1, if_true]; exact evNow _
  refine evSucc ?_; simp only [scheme_Valid.l0, if_pos c1, if_pos c2, rdSh]; by_cases d1 : (p.f0.length : Int) < 1
  ·simp only [if_pos d1]; rw [no (by simp only [vShape, decide_eq_false (show ¬ (1 ≤ p.f0.length ∧ p.f0.length ≤ 8) by omega), Bool.false_and])]; exact jT
  by_cases d2 : (p.f0.length : Int) > 8
  ·simp only [if_neg d1, if_pos d2]; rw [no (by simp only [vShape, decide_eq_false (show ¬ (1 ≤ p.f0.length ∧ p.f0.length ≤ 8) by omega), Bool.false_and])]; exact jT
  by_cases d3 : p.f1 < 0
  ·simp only [if_neg d1, if_neg d2, if_pos d3]; rw [no (by simp only [vShape, decide_eq_false (show ¬ (0 ≤ p.f1 ∧ p.f1 ≤ 1073741823) by omega), Bool.false_and, Bool.and_false])]; exact jT
  by_cases d4 : p.f1 > 1073741823
  ·simp only [if_neg d1, if_neg d2, if_neg d3, if_pos d4]; rw [no (by simp only [vShape, decide_eq_false (show ¬ (0 ≤ p.f1 ∧ p.f1 ≤ 1073741823) by omega), Bool.false_and, Bool.and_false])]; exact jT
  simp only [if_neg d1, if_neg d2, if_neg d3, if_neg d4]; refine Ev.bind (any_is p.f0 hip) ?_; cases ha : p.f0.all okPart
  ·rw [no (by simp only [vShape, ha, Bool.false_and, Bool.and_false])]; exact jT
  have hg := good_of ha; have hc := cnt_pos hg; have hlast := last_is p.f0 p.f1 hip ha (by omega) (by omega) (by omega); refine evSucc ?_; simp only [Bool.not_true, scheme_Valid.j1, Bool.false_eq_true, if_false]; refine Ev.bind hlast ?_; simp only [Option.bind_some]; have c3 : (0 : Int) < (([(⟨p.f1, p.f1 + min (cnt (sets p.f0)) 1073741825 - 1⟩ : Ra)].length : Nat) : Int) := by simp
  simp only [if_pos c3]; have e3 : (rd_T43 [(⟨p.f1, p.f1 + min (cnt (sets p.f0)) 1073741825 - 1⟩ : Ra)] 0).f1 = p.f1 + min (cnt (sets p.f0)) 1073741825 - 1 := rfl; simp only [e3]; by_cases d5 : p.f1 + min (cnt (sets p.f0)) 1073741825 - 1 > 1073741823
  ·simp only [if_pos d5]; rw [no (by simp only [vShape, decide_eq_false (show ¬ (p.f1 + cnt (sets p.f0) - 1 ≤ 1073741823) by omega), Bool.and_false])]; exact evNow _
  have hmin : min (cnt (sets p.f0)) 1073741825 = cnt (sets p.f0) := by omega
  have hvp : vShape p.f0 p.f1 = true := by
   simp only [vShape, ha, Bool.true_and, decide_eq_true (show 1 ≤ p.f0.length ∧ p.f0.length ≤ 8 by omega), decide_eq_true (show 0 ≤ p.f1 ∧ p.f1 ≤ 1073741823 by omega), decide_eq_true (show p.f1 + cnt (sets p.f0) - 1 ≤ 1073741823 by omega)]
  simp only [hmin] at d5 ⊢; simp only [if_neg d5]; have small : tk.length * 16 ≤ 140737488351232 := by have := ht.2.1; omega
  have hvr : ValidFrom 1073741823 (-2) ([(⟨p.f1, p.f1 + cnt (sets p.f0) - 1⟩ : Ra)].map PB4.L43) := ⟨by show 0 ≤ p.f1; omega, by show p.f1 ≤ p.f1 + cnt (sets p.f0) - 1; omega, by show p.f1 + cnt (sets p.f0) - 1 ≤ 1073741823; omega, by show (-2 : Int) < p.f1 - 1; omega, trivial⟩; obtain ⟨m, m1, m2⟩ := PB4.scalars_Meet_is tk [(⟨p.f1, p.f1 + cnt (sets p.f0) - 1⟩ : Ra)] small (by simp); obtain ⟨u, u1, u2⟩ := PB4.scalars_Union_is tk [(⟨p.f1, p.f1 + cnt (sets p.f0) - 1⟩ : Ra)] small (by simp); have mm : ∀ x, Mem (m.map PB4.L43) x ↔ (Taken pre x ∧ p.f1 ≤ x ∧ x ≤ lastOf p) := fun x => by
   have h0 := m2.2.2 x; simp only [PB4.setL_of ht.1, PB4.setL_of hvr, one_mem, ht.2.2 x] at h0; exact h0
  have hmt : (m.length : Int) > 0 ↔ pre.any (meetsB p) = true := by
   constructor
   ·intro hm; cases m with
    | nil => simp at hm
    | cons r s =>
     have hr := m2.1.each (PB4.L43 r) (List.mem_cons_self); obtain ⟨⟨q, hq1, hq2, hq3⟩, h4, h5⟩ := (mm (PB4.L43 r).1).1 ⟨_, List.mem_cons_self, Int.le_refl _, hr.2.1⟩; refine List.any_eq_true.2 ⟨q, hq1, ?_⟩; simp only [meetsB, Bool.and_eq_true, decide_eq_true_eq]; omega
   ·intro hm; obtain ⟨q, hq1, hq2⟩ := List.any_eq_true.1 hm; simp only [meetsB, Bool.and_eq_true, decide_eq_true_eq] at hq2; have hqq := hq q hq1; have hpp : p.f1 ≤ lastOf p := by show p.f1 ≤ p.f1 + cnt (sets p.f0) - 1; omega
    have := (mm (max p.f1 q.f1)).2 ⟨⟨q, hq1, by omega, by omega⟩, by omega, by omega⟩; cases m with
    | nil => exact (Mem.nil this).elim
    | cons r s => simp
  refine Ev.bind m1 ?_; by_cases d6 : (m.length : Int) > 0
  ·simp only [if_pos d6]; rw [show vS pre (p :: t) = false by show (vShape p.f0 p.f1 && (!(pre.any (meetsB p)) && _)) = false; rw [hmt.1 d6]; simp]; exact evNow _
  ·simp only [if_neg d6]; rw [show vS pre (p :: t) = vS (pre ++ [p]) t by
    show (vShape p.f0 p.f1 && (!(pre.any (meetsB p)) && vS (pre ++ [p]) t)) = _; rw [hvp, show pre.any (meetsB p) = false by simpa using fun h => d6 (hmt.2 h)]; rfl]
   refine Ev.bind u1 ?_; simp only [hw.out]; have ih := valid_loop3 N hN t (pre ++ [p]) u (by rw [app_snoc]; exact hl) (fun q hq => hi q (List.mem_cons_of_mem _ hq))
    (fun q hq' => by
     rcases List.mem_append.1 hq' with h | h
     ·exact hq q h
     ·rw [List.mem_singleton.1 h]; show 0 ≤ p.f1 ∧ p.f1 ≤ p.f1 + cnt (sets p.f0) - 1 ∧ p.f1 + cnt (sets p.f0) - 1 ≤ 1073741823; omega)
    ⟨u2.1, u2.2.1, fun x => by
     have h0 := u2.2.2 x; simp only [PB4.setL_of ht.1, PB4.setL_of hvr, one_mem, ht.2.2 x] at h0; rw [h0]; constructor
     ·rintro (⟨q, h1, h2⟩ | h)
      ·exact ⟨q, List.mem_append_left _ h1, h2⟩
      ·exact ⟨p, List.mem_append_right _ (List.mem_singleton.2 rfl), h⟩
     ·rintro ⟨q, h1, h2⟩; rcases List.mem_append.1 h1 with h1 | h1
      ·exact .inl ⟨q, h1, h2⟩
      ·rw [List.mem_singleton.1 h1] at h2; exact .inr h2⟩
   rw [app_snoc, snoc_len] at ih; exact ih
theorem schemeValid_is (ss : List Sh) (h : InS ss) : Ev (fun k => scheme_Valid.f k ss) (vScheme ss) := by
 simp only [scheme_Valid.f]; by_cases c : (ss.length : Int) > 32
 ·simp only [if_pos c]; rw [show vScheme ss = false by simp only [vScheme, decide_eq_false (show ¬ ss.length ≤ 32 by omega), Bool.false_and]]; exact evNow _
 ·simp only [if_neg c]; rw [show vScheme ss = vS [] ss by simp only [vScheme, decide_eq_true (show ss.length ≤ 32 by omega), Bool.true_and]]; have := valid_loop3 32 (by omega) ss [] [] (by simp; omega) h.2 (fun q hq => by cases hq) ⟨trivial, by simp, fun x => ⟨fun h => (Mem.nil h).elim, fun ⟨q, hq, _⟩ => by cases hq⟩⟩; simpa using this
theorem shapeValid_is (ps : List (List Sp)) (a : Int) (h : In2 ps) : Ev (fun k => shape_Valid.f k ps a) (vShape ps a) := by
 simp only [shape_Valid.f]; have := schemeValid_is [⟨ps, a⟩] ⟨by simp, fun p hp => by rw [List.mem_singleton.1 hp]; exact h⟩; refine Ev.bind this ?_; rw [show vScheme [⟨ps, a⟩] = vShape ps a by show (_ && (vShape ps a && (_ && true))) = _; simp]; exact evNow _
end Go.Proofs.Ytoljcfocgaonpaa.PBS
end
section
namespace Go.Proofs.Ytoljcfocgaonpaa.PBS
open Go.RowKit Go.Proofs.YtoljcfocgaonpaaW.PrintWords Go.Proofs.YtoljcfocgaonpaaW.PrintLast Go.Proofs.YtoljcfocgaonpaaW.PrintMore Go.Proofs.Ytoljcfocgaonpaa.I Go.Proofs.LT Go.Proofs.Ytoljcfocgaonpaa.PB3
set_option linter.unusedVariables false
set_option linter.unusedSimpArgs false
theorem wf64 {x : Int} (h0 : -9223372036854775808 ≤ x) (h1 : x ≤ 9223372036854775807) : (Lit.int .i64 x).wf = true := by
 have h := wf_wrap .i64 x; rwa [show IntKind.i64.wrap x = x from by rw [IntKind.wrap_i64]; omega] at h
theorem rdL_at (ps : List (List Sp)) (i : Nat) (h : i < ps.length) : rd_L4 ps (i : Int) = ps[i] := by simp [rd_L4, List.getD, h]
theorem rd_at (l : List Int) (i : Nat) (x : Int) (h : l[i]? = some x) : rd l (i : Int) = x := by simp [rd, List.getD, h]
theorem good_part {ps : List (List Sp)} (h : ps.all okPart = true) {i : Nat} (hi : i < ps.length) : okPart ps[i] = true := List.all_eq_true.1 h _ (List.getElem_mem hi)
theorem cnt_step (ps : List (List Sp)) (i : Nat) (hi : i < ps.length) : cnt (sets (ps.drop i)) = size (runs ps[i]) * cnt (sets (ps.drop (i + 1))) := by
 rw [List.drop_eq_getElem_cons hi]; exact cnt_cons _ _
theorem SP_step (ps : List (List Sp)) (i : Nat) (hi : i < ps.length) : SP (sets (ps.drop i)) = cnt (sets (ps.drop i)) :: SP (sets (ps.drop (i + 1))) := by
 rw [cnt_step ps i hi, List.drop_eq_getElem_cons hi]; exact (by rw [← cnt_cons]; exact SP_cons _)
theorem set_mid (i : Nat) (n : Int) (t : List Int) : (List.replicate (i + 1) 0 ++ t).set i n = List.replicate i 0 ++ n :: t := by
 rw [List.replicate_succ', List.append_assoc, List.set_append, if_neg (by simp), List.length_replicate, Nat.sub_self]; rfl
theorem steps_loop (ps : List (List Sp)) (a : Int) (hI : In2 ps) (hk : ps.all okPart = true) (hl : ps.length ≤ 8) (hc : cnt (sets ps) ≤ 1073741824) : ∀ (i : Nat), i ≤ ps.length →
 Ev (fun k => shape_steps.l0 k (cnt (sets (ps.drop i))) (i : Int) (List.replicate (i + 1) 0 ++ (SP (sets (ps.drop i))).tail) ps a) (SP (sets ps))
 | 0, _ => by
  refine evSucc ?_; rw [List.drop_zero]; have c : (0 : Int) < ((List.replicate (0 + 1) (0 : Int) ++ (SP (sets ps)).tail).length : Nat) := by simp
  simp only [shape_steps.l0, if_neg (show ¬ ((0 : Nat) : Int) > 0 by omega), if_pos c]; have e : (List.replicate (0 + 1) (0 : Int) ++ (SP (sets ps)).tail).set (0 : Int).toNat (cnt (sets ps)) = SP (sets ps) := by
   rw [show (0 : Int).toNat = 0 from rfl, set_mid 0, ← SP_cons]; first | done | rfl
  rw [e]; exact evNow _
 | i + 1, hi => by
  have ih := steps_loop ps a hI hk hl hc i (by omega); have hg := good_of hk; have hp := good_part hk (show i < ps.length by omega); have hs := okPart_good hp; have hz := size_256 hs.1; have hd := cnt_drop i hg; rw [sets_drop, cnt_step ps i (by omega)] at hd; have h1 : 1 ≤ cnt (sets (ps.drop (i + 1))) := by have := cnt_pos (hg.drop (i + 1)); rwa [sets_drop] at this
  have e1 : cnt (sets (ps.drop (i + 1))) * size (runs ps[i]) = cnt (sets (ps.drop i)) := by rw [cnt_step ps i (by omega), Int.mul_comm]
  have hpos : 0 ≤ size (runs ps[i]) * cnt (sets (ps.drop (i + 1))) := Int.mul_nonneg (by omega) (by omega); have hw : Aside0 (wrap64 (cnt (sets (ps.drop (i + 1))) * size (runs ps[i])) = cnt (sets (ps.drop i))) := Aside0.mk (by rw [w64 (by rw [Int.mul_comm]; omega) (by rw [Int.mul_comm]; omega), e1]); have hw2 : Aside0 (wrap64 (((i + 1 : Nat) : Int) - 1) = (i : Int)) := Aside0.mk (by rw [w64 (by omega) (by omega)]; omega); have hlen : ((List.replicate (i + 1 + 1) (0 : Int) ++ (SP (sets (ps.drop (i + 1)))).tail).length : Nat) = ps.length + 1 := by
   simp [SP_len, sets_len]; omega
  have c1 : ((i + 1 : Nat) : Int) < ((List.replicate (i + 1 + 1) (0 : Int) ++ (SP (sets (ps.drop (i + 1)))).tail).length : Nat) := by rw [hlen]; omega
  refine evSucc ?_; simp only [shape_steps.l0, if_pos (show ((i + 1 : Nat) : Int) > 0 by omega), if_pos (show (0 : Int) ≤ ((i + 1 : Nat) : Int) by omega), if_pos c1, hw2.out, if_pos (show (0 : Int) ≤ (i : Int) by omega), if_pos (show (i : Int) < (ps.length : Int) by omega), rdL_at ps i (by omega)]; refine Ev.bind (size_is3 _ (hI.2 _ (List.getElem_mem _)) hp) ?_; simp only [hw.out]; have e2 : (List.replicate (i + 1 + 1) (0 : Int) ++ (SP (sets (ps.drop (i + 1)))).tail).set (((i + 1 : Nat) : Int)).toNat (cnt (sets (ps.drop (i + 1)))) = List.replicate (i + 1) 0 ++ (SP (sets (ps.drop i))).tail := by
   rw [Int.toNat_natCast, set_mid (i + 1), ← SP_cons, SP_step ps i (by omega)]; rfl
  rw [e2]; exact ih
theorem steps_is {ps : List (List Sp)} {a : Int} (hI : In2 ps) (hv : vShape ps a = true) : Ev (fun k => shape_steps.f k ps a) (SP (sets ps)) := by
 obtain ⟨⟨l1, l2⟩, ⟨a1, a2⟩, hk, hg, hc⟩ := vShape_good hv; have h := steps_loop ps a hI hk l2 (by omega) ps.length (Nat.le_refl _); rw [List.drop_length] at h; have hw : Aside0 (wrap64 ((ps.length : Int) + 1) = ((ps.length + 1 : Nat) : Int)) := Aside0.mk (by rw [w64 (by omega) (by omega)]; simp); simp only [shape_steps.f, hw.out, if_pos (show (0 : Int) ≤ ((ps.length + 1 : Nat) : Int) by omega), Int.toNat_natCast, if_pos (show ps.length + 1 ≤ 35184372088832 by omega)]; simpa [sets, SP, cnt_nil] using h
theorem Count_is (ps : List (List Sp)) (a : Int) (hI : In2 ps) : Ev (fun k => shape_Count.f k ps a) (if vShape ps a = true then cnt (sets ps) else 0) := by
 simp only [shape_Count.f]; refine Ev.bind (shapeValid_is ps a hI) ?_; cases hv : vShape ps a
 ·simp only [Bool.false_eq_true, if_false]; exact evNow _
 ·simp only [if_true]; refine Ev.bind (steps_is hI hv) ?_; rw [if_pos (show (0 : Int) < ((SP (sets ps)).length : Nat) by rw [SP_len]; omega), show rd (SP (sets ps)) 0 = cnt (sets ps) by rw [SP_cons]; rfl]; exact evNow _
theorem select_at (p : List Sp) (d : Int) (hi : In1 p) (hk : okPart p = true) (h0 : 0 ≤ d) (h1 : d < size (runs p)) : Ev (fun k => spans_Select.f k p d) (selV (runs p) d, true) := by
 have hs := okPart_good hk; have hz := size_256 hs.1; obtain ⟨r, r1, r2⟩ := spans_Select_is p d (wf64 (by omega) (by omega)) hi; rw [show p.map L34 = runs p from rfl, setL_of hs.1] at r2; have hS := selV_spec hs.1 h0 h1; obtain rfl := Sel.uniq hs.1 r2 (.inl ⟨_, hS.1, hS.2, rfl⟩); exact r1
theorem tail_at (ps : List (List Sp)) (i : Nat) (hi : i < ps.length) : (SP (sets ps)).tail[i]? = some (cnt (sets (ps.drop (i + 1)))) := by
 have := SP_at (sets ps) (i + 1) (by rw [sets_len]; omega); rw [sets_drop] at this; rw [← this, List.getElem?_tail]
theorem unrank_loop (ps : List (List Sp)) (a : Int) (hI : In2 ps) (hk : ps.all okPart = true) (hl : ps.length ≤ 8) (hc : cnt (sets ps) ≤ 1073741824) : ∀ (n i : Nat) (kk : Int) (out : List Int), i + n = ps.length → out.length ≤ i → 0 ≤ kk → kk < cnt (sets (ps.drop i)) →
 Ev (fun k => shape_Unrank.l0 k kk out (SP (sets ps)).tail ((SP (sets ps)).tail.length : Int) (i : Int) ps a) (out ++ unr (sets (ps.drop i)) kk, true)
 | 0, i, kk, out, hi, _, _, _ => by
  refine evSucc ?_; have hlen : (SP (sets ps)).tail.length = ps.length := by rw [List.length_tail, SP_len, sets_len]; rfl
  simp only [shape_Unrank.l0, hlen, if_neg (show ¬ (i : Int) < ((ps.length : Nat) : Int) by omega)]; rw [List.drop_of_length_le (by omega), show unr (sets []) kk = [] from unr_nil _, List.append_nil]; exact evNow _
 | n + 1, i, kk, out, hi, ho, h0, h1 => by
  have hlen : (SP (sets ps)).tail.length = ps.length := by rw [List.length_tail, SP_len, sets_len]; rfl
  have hil : i < ps.length := by omega
  have hg := good_of hk; have hp := good_part hk hil; have hs := okPart_good hp; have hpos : 1 ≤ cnt (sets (ps.drop (i + 1))) := by have := cnt_pos (hg.drop (i + 1)); rwa [sets_drop] at this
  rw [cnt_step ps i hil] at h1; obtain ⟨d0, d1, d2, d3⟩ := digit hpos h0 h1; have hz := size_256 hs.1; have ih := unrank_loop ps a hI hk hl hc n (i + 1) (kk % cnt (sets (ps.drop (i + 1)))) (out ++ [selV (runs ps[i]) (kk / cnt (sets (ps.drop (i + 1))))]) (by omega) (by simp; omega) d2 d3; have hr := hs.1.range (selV_spec hs.1 d0 d1).1; have r1 := rd_at _ i _ (tail_at ps i hil); have t1 : Int.tdiv kk (cnt (sets (ps.drop (i + 1)))) = kk / cnt (sets (ps.drop (i + 1))) := Int.tdiv_eq_ediv_of_nonneg h0; have t2 : Int.tmod kk (cnt (sets (ps.drop (i + 1)))) = kk % cnt (sets (ps.drop (i + 1))) := Int.tmod_eq_emod_of_nonneg h0; have hw : Aside0 (wrap64 (kk / cnt (sets (ps.drop (i + 1)))) = kk / cnt (sets (ps.drop (i + 1)))) := Aside0.mk (w64 (by omega) (by omega)); have hw2 : Aside0 (wrap64 ((i : Int) + 1) = ((i + 1 : Nat) : Int)) := Aside0.mk (by rw [w64 (by omega) (by omega)]; simp); have hm : selV (runs ps[i]) (kk / cnt (sets (ps.drop (i + 1)))) % 256 = selV (runs ps[i]) (kk / cnt (sets (ps.drop (i + 1)))) := Int.emod_eq_of_lt hr.1 (by omega); refine evSucc ?_; simp only [shape_Unrank.l0, hlen, if_pos (show (i : Int) < ((ps.length : Nat) : Int) by omega), if_pos (show (0 : Int) ≤ (i : Int) by omega), r1, if_neg (show ¬ cnt (sets (ps.drop (i + 1))) = 0 by omega), rdL_at ps i hil, t1, t2, hw.out]; refine Ev.bind (select_at _ _ (hI.2 _ (List.getElem_mem _)) hp d0 d1) ?_; simp only [if_pos (show out.length < 140737488355328 by omega), hw2.out, hm]; have e : unr (sets (ps.drop i)) kk = selV (runs ps[i]) (kk / cnt (sets (ps.drop (i + 1)))) :: unr (sets (ps.drop (i + 1))) (kk % cnt (sets (ps.drop (i + 1)))) := by
   rw [List.drop_eq_getElem_cons hil]; exact unr_cons _ _ _
  rw [e]; rw [hlen, List.append_assoc] at ih; exact ih
theorem Unrank_yes {ps : List (List Sp)} {a kk : Int} (hI : In2 ps) (hv : vShape ps a = true) (h0 : 0 ≤ kk) (h1 : kk < cnt (sets ps)) : Ev (fun k => shape_Unrank.f k ps a kk) (unr (sets ps) kk, true) := by
 obtain ⟨⟨l1, l2⟩, ⟨a1, a2⟩, hk, hg, hc⟩ := vShape_good hv; simp only [shape_Unrank.f, if_neg (show ¬ kk < 0 by omega)]; have hC := Count_is ps a hI; rw [if_pos hv] at hC; refine Ev.bind hC ?_; rw [decide_eq_false (show ¬ kk ≥ cnt (sets ps) by omega)]; refine evSucc ?_; simp only [shape_Unrank.j0, Bool.false_eq_true, if_false]; refine Ev.bind (steps_is hI hv) ?_; simp only [if_pos (show (1 : Int) ≤ ((SP (sets ps)).length : Nat) by rw [SP_len]; omega)]; simp only [Option.bind_some, show (1 : Int).toNat = 1 from rfl, List.drop_one]; have := unrank_loop ps a hI hk l2 (by omega) ps.length 0 kk [] (by omega) (by simp) h0 (by rw [List.drop_zero]; exact h1); rw [List.drop_zero, List.nil_append] at this; exact this
def rkR : Option Int → Int × Bool
 | some r => (r, true)
 | none => (0, false)
theorem rank_loop3 (ps : List (List Sp)) (a : Int) (bs : List Int) (hb : ∀ b ∈ bs, 0 ≤ b ∧ b ≤ 255) (hbl : bs.length = ps.length) (hI : In2 ps) (hk : ps.all okPart = true) (hl : ps.length ≤ 8) (hc : cnt (sets ps) ≤ 1073741824) : ∀ (n i : Nat) (acc : Int), i + n = ps.length → 0 ≤ acc → acc + cnt (sets (ps.drop i)) ≤ 1073741824 →
 Ev (fun k => shape_Rank.l0 k bs acc (SP (sets ps)).tail ((SP (sets ps)).tail.length : Int) (i : Int) ps a) (rkR ((rnk (sets (ps.drop i)) (bs.drop i)).map (acc + ·)))
 | 0, i, acc, hi, _, _ => by
  refine evSucc ?_; have hlen : (SP (sets ps)).tail.length = ps.length := by rw [List.length_tail, SP_len, sets_len]; rfl
  simp only [shape_Rank.l0, hlen, if_neg (show ¬ (i : Int) < ((ps.length : Nat) : Int) by omega)]; rw [List.drop_of_length_le (show ps.length ≤ i by omega), List.drop_of_length_le (show bs.length ≤ i by omega), show rnk (sets []) [] = some 0 from rnk_nil]; simpa [rkR] using evNow (acc, true)
 | n + 1, i, acc, hi, h0, h1 => by
  have hlen : (SP (sets ps)).tail.length = ps.length := by rw [List.length_tail, SP_len, sets_len]; rfl
  have hil : i < ps.length := by omega
  have hbi : i < bs.length := by omega
  have hg := good_of hk; have hp := good_part hk hil; have hs := okPart_good hp; have hz := size_256 hs.1; have hpos : 1 ≤ cnt (sets (ps.drop (i + 1))) := by have := cnt_pos (hg.drop (i + 1)); rwa [sets_drop] at this
  have hbb := hb _ (List.getElem_mem hbi); rw [cnt_step ps i hil] at h1; have r1 := rd_at _ i _ (tail_at ps i hil); have r2 := rd_at bs i _ (List.getElem?_eq_getElem hbi); have hw : Aside0 (wrap64 (bs[i]) = bs[i]) := Aside0.mk (w64 (by omega) (by omega)); have hw2 : Aside0 (wrap64 ((i : Int) + 1) = ((i + 1 : Nat) : Int)) := Aside0.mk (by rw [w64 (by omega) (by omega)]; simp); have hR := spans_Rank_is ps[i] bs[i] (wf64 (by omega) (by omega)) (hI.2 _ (List.getElem_mem _)); rw [show ps[i].map L34 = runs ps[i] from rfl, setL_of hs.1] at hR; have e : rnk (sets (ps.drop i)) (bs.drop i) = if memB (runs ps[i]) bs[i] = true then (rnk (sets (ps.drop (i + 1))) (bs.drop (i + 1))).map (fun r => (cd (memB (runs ps[i])) bs[i].toNat : Int) * cnt (sets (ps.drop (i + 1))) + r) else none := by
   rw [List.drop_eq_getElem_cons hil, List.drop_eq_getElem_cons hbi]; exact rnk_cons _ _ _ _
  refine evSucc ?_; simp only [shape_Rank.l0, hlen, if_pos (show (i : Int) < ((ps.length : Nat) : Int) by omega), if_pos (show (0 : Int) ≤ (i : Int) by omega), if_pos (show (i : Int) < ((bs.length : Nat) : Int) by omega), r1, r2, rdL_at ps i hil, hw.out]; refine Ev.bind hR ?_; by_cases hm : memB (runs ps[i]) bs[i] = true
  ·rw [e, if_pos hm]; simp only [rankL, if_pos hm, if_true]; have hd := cd_less hs.1 (memB_iff.1 hm); have m0 : 0 ≤ (cd (memB (runs ps[i])) bs[i].toNat : Int) * cnt (sets (ps.drop (i + 1))) := Int.mul_nonneg (by omega) (by omega); have m1 := Int.mul_le_mul_of_nonneg_right (show (cd (memB (runs ps[i])) bs[i].toNat : Int) + 1 ≤ size (runs ps[i]) by omega) (show 0 ≤ cnt (sets (ps.drop (i + 1))) by omega); rw [Int.add_mul, Int.one_mul] at m1; have w1 : Aside0 (wrap64 (acc + wrap64 ((cd (memB (runs ps[i])) bs[i].toNat : Int) * cnt (sets (ps.drop (i + 1))))) = acc + (cd (memB (runs ps[i])) bs[i].toNat : Int) * cnt (sets (ps.drop (i + 1)))) := Aside0.mk (by
    rw [w64 (x := (cd (memB (runs ps[i])) bs[i].toNat : Int) * cnt (sets (ps.drop (i + 1)))) (by omega) (by omega), w64 (by omega) (by omega)])
   simp only [w1.out, hw2.out]; have ih := rank_loop3 ps a bs hb hbl hI hk hl hc n (i + 1) (acc + (cd (memB (runs ps[i])) bs[i].toNat : Int) * cnt (sets (ps.drop (i + 1)))) (by omega) (by omega) (by omega); rw [hlen] at ih; have e3 : ((rnk (sets (ps.drop (i + 1))) (bs.drop (i + 1))).map (fun r => (cd (memB (runs ps[i])) bs[i].toNat : Int) * cnt (sets (ps.drop (i + 1))) + r)).map (acc + ·) = (rnk (sets (ps.drop (i + 1))) (bs.drop (i + 1))).map (acc + (cd (memB (runs ps[i])) bs[i].toNat : Int) * cnt (sets (ps.drop (i + 1))) + ·) := by
    cases rnk (sets (ps.drop (i + 1))) (bs.drop (i + 1)) with
    | none => rfl
    | some r => simp [Int.add_assoc]
   rw [e3]; exact ih
  ·rw [e, if_neg hm]; simp only [rankL, if_neg hm, Bool.false_eq_true, if_false]; exact evNow _
def rkS (ps : List (List Sp)) (a : Int) (bs : List Int) : Int × Bool := if vShape ps a = true then rkR (rnk (sets ps) bs) else (0, false)
theorem Rank_is (ps : List (List Sp)) (a : Int) (bs : List Int) (hI : In2 ps) (hb : ∀ b ∈ bs, 0 ≤ b ∧ b ≤ 255) : Ev (fun k => shape_Rank.f k ps a bs) (rkS ps a bs) := by
 have jT : Ev (fun k => shape_Rank.j0 k bs true ps a) (0, false) := by
  refine evSucc ?_; simp only [shape_Rank.j0, if_true]; exact evNow _
 simp only [shape_Rank.f]; refine Ev.bind (shapeValid_is ps a hI) ?_; unfold rkS; cases hv : vShape ps a
 ·simp only [Bool.false_eq_true, if_false]; exact jT
 ·simp only [if_true]; obtain ⟨⟨l1, l2⟩, ⟨a1, a2⟩, hk, hg, hc⟩ := vShape_good hv; by_cases c : bs.length = ps.length
  ·rw [show ((bs.length : Int) != (ps.length : Int)) = false by simp [c]]; refine evSucc ?_; simp only [shape_Rank.j0, Bool.false_eq_true, if_false]; refine Ev.bind (steps_is hI hv) ?_; simp only [if_pos (show (1 : Int) ≤ ((SP (sets ps)).length : Nat) by rw [SP_len]; omega)]; simp only [Option.bind_some, show (1 : Int).toNat = 1 from rfl, List.drop_one]; have := rank_loop3 ps a bs hb c hI hk l2 (by omega) ps.length 0 0 (by omega) (by omega) (by rw [List.drop_zero]; omega); rw [List.drop_zero, List.drop_zero] at this; have e : (rnk (sets ps) bs).map ((0 : Int) + ·) = rnk (sets ps) bs := by cases rnk (sets ps) bs <;> simp
   rw [e] at this; exact this
  ·rw [show ((bs.length : Int) != (ps.length : Int)) = true by simp; omega]; have e : rnk (sets ps) bs = none := by
    cases hr : rnk (sets ps) bs with
    | none => rfl
    | some r => exact (c (by have := rnk_len hr; rwa [sets_len] at this)).elim
   rw [e]; exact jT
end Go.Proofs.Ytoljcfocgaonpaa.PBS
end
section
namespace Go.Proofs.Ytoljcfocgaonpaa.PBS
open Go.RowKit Go.Proofs.YtoljcfocgaonpaaW.PrintWords Go.Proofs.YtoljcfocgaonpaaW.PrintLast Go.Proofs.YtoljcfocgaonpaaW.PrintMore Go.Proofs.Ytoljcfocgaonpaa.I Go.Proofs.LT Go.Proofs.Ytoljcfocgaonpaa.PB3
set_option linter.unusedVariables false
set_option linter.unusedSimpArgs false
def s09a : List Sp := [⟨129, 130⟩]
def s09b : List Sp := [⟨64, 65⟩, ⟨128, 128⟩]
def two09 : List (List Sp) := [s09a, s09b]
theorem va09 : ValidFrom 255 (-2) (runs s09a) := ⟨by decide, by decide, by decide, by decide, trivial⟩
theorem vb09 : ValidFrom 255 (-2) (runs s09b) := ⟨by decide, by decide, by decide, by decide, ⟨by decide, by decide, by decide, by decide, trivial⟩⟩
theorem za09 : size (runs s09a) = 2 := by show size [((129 : Int), (130 : Int))] = 2; rw [size_cons, size_nil]; rfl
theorem zb09 : size (runs s09b) = 3 := by show size [((64 : Int), (65 : Int)), (128, 128)] = 3; rw [size_cons, size_cons, size_nil]; rfl
theorem cb09 : cnt (sets [s09b]) = 3 := by show cnt [runs s09b] = 3; rw [cnt_cons, zb09, cnt_nil]; rfl
theorem c09 : cnt (sets two09) = 6 := by show cnt (runs s09a :: sets [s09b]) = 6; rw [cnt_cons, za09, cb09]; rfl
theorem v09 : vShape two09 1000 = true := by
 have ha : okPart s09a = true := by simp only [okPart, (validB_iff _ _ _).2 va09]; rfl
 have hb : okPart s09b = true := by simp only [okPart, (validB_iff _ _ _).2 vb09]; rfl
 unfold vShape; rw [c09]; simp [two09, ha, hb]
theorem in09 : In2 two09 := ⟨by decide, fun p hp => by
 rcases List.mem_cons.1 hp with rfl | hp
 ·show s09a.length * 16 ≤ 140737488351232; decide
 ·rw [List.mem_singleton.1 hp]; show s09b.length * 16 ≤ 140737488351232; decide⟩
theorem ca09 : (cd (memB (runs s09a)) (130 : Int).toNat : Int) = 1 := by
 have := cd_in_first (r := ((129 : Int), (130 : Int))) (t := []) va09 (x := 130) (by decide) (by decide); exact this
theorem cb1_09 : (cd (memB (runs s09b)) (65 : Int).toNat : Int) = 1 := by
 have := cd_in_first (r := ((64 : Int), (65 : Int))) (t := [(128, 128)]) vb09 (x := 65) (by decide) (by decide); exact this
theorem cb2_09 : (cd (memB (runs s09b)) (128 : Int).toNat : Int) = 2 := by
 have := cd_past_first (r := ((64 : Int), (65 : Int))) (t := [(128, 128)]) vb09 (x := 128) (by decide); have h2 := cd_in_first (r := ((128 : Int), (128 : Int))) (t := []) (top := 255) (last := 65) ⟨by decide, by decide, by decide, by decide, trivial⟩ (x := 128) (by decide) (by decide); rw [h2] at this; exact this
theorem ma09 : Mem (runs s09a) 130 := ⟨(129, 130), List.mem_cons_self, by decide, by decide⟩
theorem mb1_09 : Mem (runs s09b) 65 := ⟨(64, 65), List.mem_cons_self, by decide, by decide⟩
theorem mb2_09 : Mem (runs s09b) 128 := ⟨(128, 128), List.mem_cons_of_mem _ List.mem_cons_self, by decide, by decide⟩
theorem rk09 : rnk (sets two09) [130, 65] = some 4 := by
 show rnk (runs s09a :: [runs s09b]) [130, 65] = some 4; rw [rnk_cons, if_pos (memB_iff.2 ma09), rnk_cons, if_pos (memB_iff.2 mb1_09), rnk_nil]; simp only [Option.map_some, ca09, cb1_09, cnt_nil, show cnt [runs s09b] = 3 from cb09]; rfl
theorem un09 : unr (sets two09) 5 = [130, 128] := by
 show unr (runs s09a :: [runs s09b]) 5 = _; have h1 := selV_rank va09 ma09; have h2 := selV_rank vb09 mb2_09; rw [ca09] at h1; rw [cb2_09] at h2; rw [unr_cons, unr_cons, unr_nil, show cnt [runs s09b] = 3 from cb09, cnt_nil, show (5 : Int) / 3 = 1 from rfl, show (5 : Int) % 3 / 1 = 2 from rfl, h1, h2]
theorem fixed09 : Ev (fun k => leadtraillaw09_fixed.f k) true := by
 have hR := Rank_is two09 1000 [130, 65] in09 (by decide); rw [show rkS two09 1000 [130, 65] = (4, true) by unfold rkS; rw [if_pos v09, rk09]; rfl] at hR; have hU := Unrank_yes (kk := 5) in09 v09 (by omega) (by rw [c09]; omega); rw [un09] at hU; have hC := Count_is two09 1000 in09; rw [if_pos v09, c09] at hC; simp only [leadtraillaw09_fixed.f, leadtraillaw09_two.f, Option.bind_some]; refine Ev.bind hR (Ev.bind hU (Ev.bind hC ?_)); have e : ((strOfNums [130, 128]).toList == ([130, 128] : List UInt8)) = true := by rw [Lib.strOfNums_toList]; decide
 simp only [if_true, e]; exact evNow _
end Go.Proofs.Ytoljcfocgaonpaa.PBS
end
section
namespace Go.Proofs.Ytoljcfocgaonpaa.PB3
open Go.RowKit Go.Proofs.YtoljcfocgaonpaaW.PrintWords Go.Proofs.YtoljcfocgaonpaaW.PrintLast Go.Proofs.YtoljcfocgaonpaaW.PrintMore Go.Proofs.Ytoljcfocgaonpaa.I Go.Proofs.LT
set_option linter.unusedVariables false
set_option linter.unusedSimpArgs false
theorem refValid_loop (N : Nat) (hN : N ≤ 8796093022206) : ∀ (t q : List S34) (p : S34), (q ++ p :: t).length ≤ N → p.f1 ≤ 255 → 0 ≤ p.f1 → Ev (fun k => leadtrailref03_Valid.l0 k (q ++ p :: t) ((q.length : Int) + 1)) (validB 255 p.f1 (t.map L34))
 | [], q, p, _, _, _ => by
  refine evSucc ?_; have hlc := len_cons q p []; have c1 : ¬ (q.length : Int) + 1 < ((q ++ [p]).length : Nat) := by rw [hlc]; simp
  simp only [leadtrailref03_Valid.l0, if_neg c1]; rw [show validB 255 p.f1 (([] : List S34).map L34) = true from validB_nil _ _]; exact evNow _
 | r :: t, q, p, hl, hp, hp0 => by
  have hlc := len_cons q p (r :: t); have e1 : q ++ p :: r :: t = (q ++ [p]) ++ r :: t := by simp
  have e2 : ((q.length : Int) + 1) = ((q ++ [p]).length : Nat) := by simp
  have rr : rd_T34 (q ++ p :: r :: t) ((q.length : Int) + 1) = r := by rw [e1, e2]; exact rd34 _ _ _
  have rp : rd_T34 (q ++ p :: r :: t) (q.length : Int) = p := rd34 _ _ _; have hq : q.length ≤ N := by simp at hl; omega
  have c1 : (q.length : Int) + 1 < ((q ++ p :: r :: t).length : Nat) := by rw [hlc]; simp; omega
  have c2 : (0 : Int) ≤ (q.length : Int) + 1 := by omega
  have c3 : (q.length : Int) + 1 > 0 := by omega
  have c4 : (0 : Int) ≤ (q.length : Int) := by omega
  have c5 : (q.length : Int) < ((q ++ p :: r :: t).length : Nat) := by omega
  have hw1 : Aside0 (wrap64 ((q.length : Int) + 1 - 1) = (q.length : Int)) := Aside0.mk (by rw [w64 (by omega) (by omega)]; omega); have hw2 : Aside0 (wrap64 ((q.length : Int) + 1 + 1) = (q.length : Int) + 1 + 1) := Aside0.mk (w64 (by omega) (by omega)); have hw3 : Aside0 (wrap64 (p.f1 + 1) = p.f1 + 1) := Aside0.mk (w64 (by omega) (by omega)); refine evSucc ?_; simp only [leadtrailref03_Valid.l0, if_pos c1, if_pos c2, if_pos c3, rr, hw1.out, hw2.out, hw3.out, if_pos c4, if_pos c5, rp, List.map_cons, validB_cons]; show Ev _ (if r.f0 < 0 then false else if r.f0 > r.f1 then false else if r.f1 > 255 then false else if r.f0 - 1 ≤ p.f1 then false else validB 255 r.f1 (t.map L34)); by_cases d1 : r.f0 < 0
  ·simp only [if_pos d1]; exact evNow _
  by_cases d2 : r.f0 > r.f1
  ·simp only [if_neg d1, if_pos d2]; exact evNow _
  by_cases d3 : r.f1 > 255
  ·simp only [if_neg d1, if_neg d2, if_pos d3]; exact evNow _
  by_cases d4 : r.f0 ≤ p.f1 + 1
  ·simp only [if_neg d1, if_neg d2, if_neg d3, if_pos d4, if_pos (show r.f0 - 1 ≤ p.f1 by omega)]; exact evNow _
  ·have ih := refValid_loop N hN t (q ++ [p]) r (by rw [← e1]; exact hl) (by omega) (by omega); rw [← e1, ← e2] at ih; simp only [if_neg d1, if_neg d2, if_neg d3, if_neg d4, if_neg (show ¬ r.f0 - 1 ≤ p.f1 by omega)]; exact ih
theorem refValid_is (l : List S34) (hl : l.length * 16 ≤ 140737488351232) : Ev (fun k => leadtrailref03_Valid.f k l) (validB 255 (-2) (l.map L34)) := by
 simp only [leadtrailref03_Valid.f]; cases l with
 | nil =>
  refine evSucc ?_; simp only [leadtrailref03_Valid.l0, List.length_nil, if_neg (show ¬ (0 : Int) < ((0 : Nat) : Int) by omega), List.map_nil, validB_nil]; exact evNow _
 | cons r t =>
  have c1 : (0 : Int) < (((r :: t).length : Nat) : Int) := by rw [List.length_cons]; omega
  have r1 : rd_T34 (r :: t) 0 = r := rfl; have hw : Aside0 (wrap64 ((0 : Int) + 1) = 1) := Aside0.mk (by rw [w64 (by omega) (by omega)]; rfl); refine evSucc ?_; simp only [leadtrailref03_Valid.l0, if_pos c1, if_pos (show (0 : Int) ≤ 0 by omega), r1, if_neg (show ¬ (0 : Int) > 0 by omega), hw.out, List.map_cons, validB_cons]; show Ev _ (if r.f0 < 0 then false else if r.f0 > r.f1 then false else if r.f1 > 255 then false else if r.f0 - 1 ≤ -2 then false else validB 255 r.f1 (t.map L34)); by_cases d1 : r.f0 < 0
  ·simp only [if_pos d1]; exact evNow _
  by_cases d2 : r.f0 > r.f1
  ·simp only [if_neg d1, if_pos d2]; exact evNow _
  by_cases d3 : r.f1 > 255
  ·simp only [if_neg d1, if_neg d2, if_pos d3]; exact evNow _
  simp only [if_neg d1, if_neg d2, if_neg d3, if_neg (show ¬ r.f0 - 1 ≤ -2 by omega)]; exact refValid_loop (r :: t).length (by omega) t [] r (by simp) (by omega) (by omega)
theorem memb_is (l : List S34) (hl : l.length * 16 ≤ 140737488351232) : ∃ p, Ev (fun k => leadtrailref03_memb k l) p ∧ ∀ i : Nat, p i = memB (setL 255 (l.map L34)) i := by
 have h := refValid_is l hl; by_cases d : validB 255 (-2) (l.map L34) = true
 ·have hv := (validB_iff _ _ _).1 d; have hall : l.all okPiece = true := List.all_eq_true.2 fun r hr => by
   have := hv.each (L34 r) (List.mem_map.2 ⟨r, hr, rfl⟩); have e : (L34 r).1 = r.f0 ∧ (L34 r).2 = r.f1 := ⟨rfl, rfl⟩; rw [e.1, e.2] at this; simp [okPiece]; omega
  refine ⟨membersB true l, Ev.bind h ?_, fun i => ?_⟩
  ·simp only [if_pos (show l.length ≤ 8796093022207 by omega), if_pos d, if_pos hall]; exact evNow _
  ·rw [setL_of hv, Bool.eq_iff_iff, memB_iff]; simp only [membersB, hasAny, pieceHas, Bool.true_and, List.any_eq_true, Bool.and_eq_true, decide_eq_true_iff]; exact ⟨fun ⟨r, hr, h1, h2⟩ => ⟨L34 r, List.mem_map.2 ⟨r, hr, rfl⟩, h1, h2⟩, fun ⟨q, hq, h1, h2⟩ => by
    obtain ⟨r, hr, rfl⟩ := List.mem_map.1 hq; exact ⟨r, hr, h1, h2⟩⟩
 ·refine ⟨membersB false l, Ev.bind h ?_, fun i => ?_⟩
  ·simp only [if_pos (show l.length ≤ 8796093022207 by omega), if_neg d]; exact evNow _
  ·have e : setL 255 (l.map L34) = [] := by unfold setL; rw [if_neg d]
   rw [e]; have : memB [] (i : Int) = false := by
    cases hm : memB [] (i : Int)
    ·rfl
    ·exact (Mem.nil (memB_iff.1 hm)).elim
   rw [this]; simp [membersB]
theorem cnt_cd {p : Nat → Bool} {s : List Run} (h : ∀ i : Nat, p i = memB s i) : ∀ n, cntB p n = cd (memB s) n
 | 0 => (cd_zero _).symm
 | n + 1 => by rw [cd_succ, ← cnt_cd h n, ← h n]; rfl
theorem refSize_is (l : List S34) (hl : l.length * 16 ≤ 140737488351232) : Ev (fun k => leadtrailref03_Size.f k l) (size (setL 255 (l.map L34))) := by
 obtain ⟨p, h1, h2⟩ := memb_is l hl; refine Ev.bind h1 ?_; rw [cnt_cd h2 256, cd_size (n := 256) (setL_valid 255 (l.map L34)) (by omega)]; exact evNow _
theorem hasP_is {p : Nat → Bool} {s : List Run} (hv : ValidFrom 255 (-2) s) (h : ∀ i : Nat, p i = memB s i) (x : Int) : hasP p x = memB s x := by
 unfold hasP; by_cases c : 0 ≤ x
 ·by_cases d : x ≤ 255
  ·rw [if_pos c, if_pos d, h x.toNat, Int.toNat_of_nonneg c]
  ·rw [if_pos c, if_neg d]; cases hm : memB s x
   ·rfl
   ·have := hv.range (memB_iff.1 hm); omega
 ·rw [if_neg c]; cases hm : memB s x
  ·rfl
  ·have := hv.range (memB_iff.1 hm); omega
theorem refRank_is (l : List S34) (x : Int) (hl : l.length * 16 ≤ 140737488351232) : Ev (fun k => leadtrailref03_Rank.f k l x) (rankL (setL 255 (l.map L34)) x) := by
 obtain ⟨p, h1, h2⟩ := memb_is l hl; refine Ev.bind h1 ?_; have e : ((if hasP p x = true then (cntB p x.toNat : Int) else 0), hasP p x) = rankL (setL 255 (l.map L34)) x := by
  rw [hasP_is (setL_valid _ _) h2, cnt_cd h2]; unfold rankL; by_cases d : memB (setL 255 (l.map L34)) x = true
  ·rw [if_pos d, if_pos d, d]
  ·rw [if_neg d, if_neg d, show memB (setL 255 (l.map L34)) x = false by simpa using d]
 rw [e]; exact evNow _
end Go.Proofs.Ytoljcfocgaonpaa.PB3
end
section
namespace Go.Proofs.Ytoljcfocgaonpaa.PB3
open Go.RowKit Go.Proofs.YtoljcfocgaonpaaW.PrintWords Go.Proofs.YtoljcfocgaonpaaW.PrintLast Go.Proofs.YtoljcfocgaonpaaW.PrintMore Go.Proofs.Ytoljcfocgaonpaa.I Go.Proofs.LT
set_option linter.unusedVariables false
set_option linter.unusedSimpArgs false
theorem leadtrailref03_Same_loop (N : Nat) (hN : N ≤ 8796093022206) : ∀ (t pre : List S34), (pre ++ t).length ≤ N → Ev (fun k => leadtrailref03_Same.l0 k (pre ++ t) (pre ++ t) (pre.length : Int)) true
 | [], pre, _ => by
  refine evSucc ?_; simp only [leadtrailref03_Same.l0]; rw [List.append_nil]; simp only [if_neg (show ¬ ((pre.length : Nat) : Int) < ((pre.length : Nat) : Int) by omega)]; exact evNow _
 | r :: t, pre, hl => by
  have hlc := len_cons pre r t; have ih := leadtrailref03_Same_loop N hN t (pre ++ [r]) (by rw [app_snoc]; exact hl); rw [app_snoc, snoc_len] at ih; refine evSucc ?_; have c1 : (pre.length : Int) < ((pre ++ r :: t).length : Nat) := by rw [hlc]; omega
  have c2 : (0 : Int) ≤ pre.length := by omega
  have hw : Aside0 (wrap64 ((pre.length : Int) + 1) = (pre.length : Int) + 1) := Aside0.mk (w64 (by omega) (by simp at hl; omega)); simp only [leadtrailref03_Same.l0, if_pos c1, if_pos c2, rd34, hw.out, beq_self_eq_true, Bool.not_true, Bool.or_self, Bool.false_eq_true, if_false]; exact ih
theorem leadtrailref03_Same_self (a : List S34) (hl : a.length * 16 ≤ 140737488351232) : Ev (fun k => leadtrailref03_Same.f k a a) true := by
 have h := leadtrailref03_Same_loop a.length (by omega) a [] (by simp); simp only [leadtrailref03_Same.f, if_true]; simpa using h
end Go.Proofs.Ytoljcfocgaonpaa.PB3
end
section
namespace Go.Proofs.Ytoljcfocgaonpaa.PBS
open Go.RowKit Go.Proofs.YtoljcfocgaonpaaW.PrintWords Go.Proofs.YtoljcfocgaonpaaW.PrintLast Go.Proofs.YtoljcfocgaonpaaW.PrintMore Go.Proofs.Ytoljcfocgaonpaa.I Go.Proofs.LT Go.Proofs.Ytoljcfocgaonpaa.PB3
set_option linter.unusedVariables false
set_option linter.unusedSimpArgs false
theorem copy_loop (ps : List (List Sp)) (a : Int) (hI : In2 ps) : ∀ (n i : Nat), i + n = ps.length → Ev (fun k => leadtrailref08_CopyShape.l0 k (i : Int) ps a (ps.take i) a) (ps, a)
 | 0, i, hi => by
  refine evSucc ?_; simp only [leadtrailref08_CopyShape.l0, if_neg (show ¬ (i : Int) < (ps.length : Int) by omega)]; rw [List.take_of_length_le (by omega)]; exact evNow _
 | n + 1, i, hi => by
  have hil : i < ps.length := by omega
  have ih := copy_loop ps a hI n (i + 1) (by omega); have h1 := hI.2 _ (List.getElem_mem hil); have h2 := hI.1; unfold In1 at h1; have hw : Aside0 (wrap64 ((i : Int) + 1) = ((i + 1 : Nat) : Int)) := Aside0.mk (by rw [w64 (by omega) (by omega)]; rfl); have e : ps.take i ++ [([] : List Sp) ++ ps[i]] = ps.take (i + 1) := by rw [List.nil_append, List.take_succ_eq_append_getElem hil]
  refine evSucc ?_; simp only [leadtrailref08_CopyShape.l0, if_pos (show (i : Int) < (ps.length : Int) by omega), Option.bind_some, if_pos (show (0 : Int) ≤ (i : Int) by omega), rdL_at ps i hil, List.length_nil, if_pos (show 0 + (ps[i]).length < 8796093022208 by omega), if_pos (show (ps.take i).length < 5864062014805 by rw [List.length_take]; omega), hw.out, e]; exact ih
theorem Copy_is (ps : List (List Sp)) (a : Int) (hI : In2 ps) : Ev (fun k => leadtrailref08_CopyShape.f k ps a) (ps, a) := by
 have := copy_loop ps a hI ps.length 0 (by omega); rw [List.take_zero] at this; exact this
theorem refSize_at (p : List Sp) (hp : In1 p) (h : okPart p = true) : Ev (fun k => leadtrailref03_Size.f k p) (size (runs p)) := by
 have := refSize_is p hp; rwa [show p.map L34 = runs p from rfl, setL_of (okPart_good h).1] at this
theorem refCount_loop (ps : List (List Sp)) (a : Int) (hI : In2 ps) (hk : ps.all okPart = true) (hl : ps.length ≤ 8) : ∀ (n i : Nat) (m : Int), i + n = ps.length → 1 ≤ m → m ≤ 1073741825 →
 Ev (fun k => leadtrailref08_Count.l0 k m (i : Int) ps a) (capd m (ps.drop i))
 | 0, i, m, hi, _, _ => by
  refine evSucc ?_; simp only [leadtrailref08_Count.l0, if_neg (show ¬ (i : Int) < (ps.length : Int) by omega)]; rw [List.drop_of_length_le (by omega)]; exact evNow _
 | n + 1, i, m, hi, h0, h1 => by
  have hil : i < ps.length := by omega
  have hp := good_part hk hil; have hs := okPart_good hp; have hz := size_256 hs.1; have hb : 1 ≤ m * size (runs ps[i]) := by have := Int.mul_le_mul h0 hs.2 (by omega) (by omega); omega
  have hc : m * size (runs ps[i]) ≤ 1073741825 * 256 := Int.mul_le_mul h1 hz (by omega) (by omega); have hw : Aside0 (wrap64 (m * size (runs ps[i])) = m * size (runs ps[i])) := Aside0.mk (w64 (by omega) (by omega)); have hw2 : Aside0 (wrap64 ((i : Int) + 1) = ((i + 1 : Nat) : Int)) := Aside0.mk (by rw [w64 (by omega) (by omega)]; rfl); have e : capd m (ps.drop i) = capd (min (m * size (runs ps[i])) 1073741825) (ps.drop (i + 1)) := by rw [List.drop_eq_getElem_cons hil]; rfl
  refine evSucc ?_; simp only [leadtrailref08_Count.l0, if_pos (show (i : Int) < (ps.length : Int) by omega), if_pos (show (0 : Int) ≤ (i : Int) by omega), rdL_at ps i hil]; refine Ev.bind (refSize_at _ (hI.2 _ (List.getElem_mem _)) hp) ?_; simp only [hw.out, hw2.out]; rw [e]; by_cases c : m * size (runs ps[i]) > 1073741824
  ·simp only [if_pos c]; rw [show min (m * size (runs ps[i])) 1073741825 = 1073741825 by omega]; exact refCount_loop ps a hI hk hl n (i + 1) _ (by omega) (by omega) (by omega)
  ·simp only [if_neg c]; rw [show min (m * size (runs ps[i])) 1073741825 = m * size (runs ps[i]) by omega]; exact refCount_loop ps a hI hk hl n (i + 1) _ (by omega) (by omega) (by omega)
theorem refCount8_is (ps : List (List Sp)) (a : Int) (hI : In2 ps) (hk : ps.all okPart = true) (hl : ps.length ≤ 8) : Ev (fun k => leadtrailref08_Count.f k ps a) (min (cnt (sets ps)) 1073741825) := by
 have := refCount_loop ps a hI hk hl ps.length 0 1 (by omega) (by omega) (by omega); rw [List.drop_zero, capd_is ps 1 hk (by omega) (by omega), Int.one_mul] at this; exact this
theorem refVShape_loop (ps : List (List Sp)) (a : Int) (hI : In2 ps) (hl : ps.length ≤ 8) (a0 : 0 ≤ a) (a1 : a ≤ 1073741823) : ∀ (n i : Nat), i + n = ps.length → (ps.take i).all okPart = true →
 Ev (fun k => leadtrailref08_ValidShape.l0 k (i : Int) ps a) (ps.all okPart && decide (a + cnt (sets ps) - 1 ≤ 1073741823))
 | 0, i, hi, hk => by
  rw [List.take_of_length_le (by omega)] at hk; have hc := cnt_pos (good_of hk); refine evSucc ?_; simp only [leadtrailref08_ValidShape.l0, if_neg (show ¬ (i : Int) < (ps.length : Int) by omega)]; refine Ev.bind (refCount8_is ps a hI hk hl) ?_; rw [hk, Bool.true_and, w64 (x := a + min (cnt (sets ps)) 1073741825) (by omega) (by omega), w64 (by omega) (by omega), show decide (a + min (cnt (sets ps)) 1073741825 - 1 ≤ 1073741823) = decide (a + cnt (sets ps) - 1 ≤ 1073741823) from decide_eq_decide.2 (by omega)]; exact evNow _
 | n + 1, i, hi, hk => by
  have hil : i < ps.length := by omega
  have hw2 : Aside0 (wrap64 ((i : Int) + 1) = ((i + 1 : Nat) : Int)) := Aside0.mk (by rw [w64 (by omega) (by omega)]; rfl); have hbad : okPart ps[i] = false → ps.all okPart = false := fun h => by
   cases q : ps.all okPart
   ·rfl
   ·rw [good_part q hil] at h; cases h
  refine evSucc ?_; simp only [leadtrailref08_ValidShape.l0, if_pos (show (i : Int) < (ps.length : Int) by omega), if_pos (show (0 : Int) ≤ (i : Int) by omega), rdL_at ps i hil]; by_cases c : ((ps[i]).length : Int) = 0
  ·simp only [if_pos c]; rw [hbad (by simp only [okPart, decide_eq_true (show (ps[i]).length = 0 by omega)]; rfl), Bool.false_and]; exact evNow _
  ·simp only [if_neg c]; have e : okPart ps[i] = validB 255 (-2) (runs ps[i]) := by simp only [okPart, decide_eq_false (show ¬ (ps[i]).length = 0 by omega)]; rfl
   refine Ev.bind (refValid_is ps[i] (hI.2 _ (List.getElem_mem _))) ?_; rw [show (ps[i]).map L34 = runs ps[i] from rfl, ← e]; cases q : okPart ps[i]
   ·simp only [Bool.false_eq_true, if_false]; rw [hbad q, Bool.false_and]; exact evNow _
   ·simp only [if_true, hw2.out]; refine refVShape_loop ps a hI hl a0 a1 n (i + 1) (by omega) ?_; rw [List.take_succ_eq_append_getElem hil, List.all_append, hk]; simp [q]
theorem refVShape_is (ps : List (List Sp)) (a : Int) (hI : In2 ps) : Ev (fun k => leadtrailref08_ValidShape.f k ps a) (vShape ps a) := by
 have jT : Ev (fun k => leadtrailref08_ValidShape.j0 k true ps a) false := by
  refine evSucc ?_; simp only [leadtrailref08_ValidShape.j0, if_true]; exact evNow _
 simp only [leadtrailref08_ValidShape.f]; by_cases c1 : (ps.length : Int) < 1
 ·simp only [if_pos c1, vShape, decide_eq_false (show ¬ (1 ≤ ps.length ∧ ps.length ≤ 8) by omega), Bool.false_and]; exact jT
 by_cases c2 : (ps.length : Int) > 8
 ·simp only [if_neg c1, if_pos c2, vShape, decide_eq_false (show ¬ (1 ≤ ps.length ∧ ps.length ≤ 8) by omega), Bool.false_and]; exact jT
 simp only [if_neg c1, if_neg c2, vShape, decide_eq_true (show 1 ≤ ps.length ∧ ps.length ≤ 8 by omega), Bool.true_and]; by_cases c3 : a < 0
 ·simp only [if_pos c3, decide_eq_false (show ¬ (0 ≤ a ∧ a ≤ 1073741823) by omega), Bool.false_and]; exact jT
 by_cases c4 : a > 1073741823
 ·simp only [if_neg c3, decide_eq_true c4, decide_eq_false (show ¬ (0 ≤ a ∧ a ≤ 1073741823) by omega), Bool.false_and]; exact jT
 simp only [if_neg c3, decide_eq_false c4, decide_eq_true (show 0 ≤ a ∧ a ≤ 1073741823 by omega), Bool.true_and]; refine evSucc ?_; simp only [leadtrailref08_ValidShape.j0, Bool.false_eq_true, if_false]; exact refVShape_loop ps a hI (by omega) (by omega) (by omega) ps.length 0 (by omega) rfl
theorem refCount_is (ps : List (List Sp)) (a : Int) (hI : In2 ps) : Ev (fun k => leadtrailref09_Count.f k ps a) (if vShape ps a = true then cnt (sets ps) else 0) := by
 simp only [leadtrailref09_Count.f]; refine Ev.bind (refVShape_is ps a hI) ?_; cases hv : vShape ps a
 ·simp only [Bool.false_eq_true, if_false]; exact evNow _
 ·simp only [if_true]; obtain ⟨⟨l1, l2⟩, ⟨a1, a2⟩, hk, hg, hc⟩ := vShape_good hv; have := refCount8_is ps a hI hk l2; rw [show min (cnt (sets ps)) 1073741825 = cnt (sets ps) by omega] at this; exact Ev.bind this (evNow _)
theorem refRank_at (p : List Sp) (x : Int) (hp : In1 p) (h : okPart p = true) : Ev (fun k => leadtrailref03_Rank.f k p x) (rankL (runs p) x) := by
 have := refRank_is p x hp; rwa [show p.map L34 = runs p from rfl, setL_of (okPart_good h).1] at this
end Go.Proofs.Ytoljcfocgaonpaa.PBS
end
section
namespace Go.Proofs.Ytoljcfocgaonpaa.PBS
open Go.RowKit Go.Proofs.YtoljcfocgaonpaaW.PrintWords Go.Proofs.YtoljcfocgaonpaaW.PrintLast Go.Proofs.YtoljcfocgaonpaaW.PrintMore Go.Proofs.Ytoljcfocgaonpaa.I Go.Proofs.LT Go.Proofs.Ytoljcfocgaonpaa.PB3
set_option linter.unusedVariables false
set_option linter.unusedSimpArgs false
theorem evAll {α : Type} {g : Nat → Nat → Option α} {v : Nat → α} : ∀ {N : Nat}, (∀ i, i < N → Ev (g i) (v i)) → ∃ K, ∀ k, K ≤ k → ∀ i, i < N → g i k = some (v i)
 | 0, _ => ⟨0, fun _ _ i hi => by omega⟩
 | N + 1, h => by
  obtain ⟨K, hK⟩ := evAll (N := N) (fun i hi => h i (by omega)); obtain ⟨K', hK'⟩ := h N (by omega); refine ⟨max K K', fun k hk i hi => ?_⟩; rcases Nat.lt_or_ge i N with c | c
  ·exact hK k (by omega) i c
  ·obtain rfl : i = N := by omega
   exact hK' k (by omega)
def bl (ps : List (List Sp)) (t : Nat) : Nat := (ps.getD t []).length
theorem getD_mid (a : List Int) (x : Int) (r : List Int) {n : Nat} (h : a.length = n) : (a ++ [x] ++ r).getD n 0 = x := by
 subst h; simp [List.getD]
theorem set_midD (a : List Int) (x y : Int) (r : List Int) {n : Nat} (h : a.length = n) : (a ++ [x] ++ r).set n y = a ++ (y :: r) := by
 subst h; simp
theorem nextF_dig (ps : List (List Sp)) : ∀ (n i : Nat) (r : List Int), (∀ t, t < n → 1 ≤ bl ps t ∧ bl ps t ≤ 1073741824) → i < bpr (bl ps) n → nextF ps n (dig (bl ps) n i ++ r) = (decide (i + 1 < bpr (bl ps) n), dig (bl ps) n (i + 1) ++ r)
 | 0, i, r, _, hi => by
  have hi : i < 1 := hi; have e : decide (i + 1 < bpr (bl ps) 0) = false := decide_eq_false (by show ¬ i + 1 < 1; omega); rw [e]; rfl
 | n + 1, i, r, h, hi => by
  have hb := h n (by omega); have hl := Nat.mod_lt i (show 0 < bl ps n by omega); have e1 : (dig (bl ps) (n + 1) i ++ r).getD n 0 = ((i % bl ps n : Nat) : Int) := getD_mid _ _ _ (dig_len _ _ _); have hw : wrap64 (((i % bl ps n : Nat) : Int) + 1) = ((i % bl ps n : Nat) : Int) + 1 := w64 (by omega) (by omega); have e2 : ∀ y, (dig (bl ps) (n + 1) i ++ r).set n y = dig (bl ps) n (i / bl ps n) ++ (y :: r) := fun y => set_midD _ _ _ _ (dig_len _ _ _)
  show (if wrap64 ((dig (bl ps) (n + 1) i ++ r).getD n 0 + 1) < ((bl ps n : Nat) : Int) then (true, (dig (bl ps) (n + 1) i ++ r).set n (wrap64 ((dig (bl ps) (n + 1) i ++ r).getD n 0 + 1))) else nextF ps n ((dig (bl ps) (n + 1) i ++ r).set n 0)) = _; rw [e1, hw, e2, e2]; by_cases c : i % bl ps n + 1 < bl ps n
  ·rw [if_pos (by omega), dig_succ_lt _ _ _ c]; have hd := bpr_div hi; have e3 : decide (i + 1 < bpr (bl ps) (n + 1)) = true := by
    refine decide_eq_true ?_; have h1 := Nat.mul_le_mul_right (bl ps n) (show i / bl ps n + 1 ≤ bpr (bl ps) n by omega); have h2 := Nat.div_add_mod i (bl ps n); rw [Nat.mul_comm] at h2; rw [Nat.add_mul, Nat.one_mul] at h1; show i + 1 < bpr (bl ps) n * bl ps n; omega
   rw [e3]; simp
  ·rw [if_neg (by omega), dig_last _ _ _ (by omega) c, (dig_succ_eq _ _ _ (by omega) c).1, nextF_dig ps n (i / bl ps n) (0 :: r) (fun t ht => h t (by omega)) (bpr_div hi)]; simp
theorem bl_at (ps : List (List Sp)) {t : Nat} (h : t < ps.length) : bl ps t = (ps[t]).length := by unfold bl; simp [List.getD, h]
theorem bl_range {ps : List (List Sp)} (hk : ps.all okPart = true) {t : Nat} (ht : t < ps.length) : 1 ≤ bl ps t ∧ bl ps t ≤ 256 := by
 have hp := good_part hk ht; have hs := okPart_good hp; have hz := size_256 hs.1; have hl := valid_len hs.1; have e : (runs ps[t]).length = (ps[t]).length := List.length_map ..; rw [bl_at ps ht]; refine ⟨?_, by omega⟩; simp only [okPart, Bool.and_eq_true, Bool.not_eq_true', decide_eq_false_iff_not] at hp; omega
def bsp (ps : List (List Sp)) (at_ : List Int) (t : Nat) : Sp := rd_T34 (rd_L4 ps (t : Int)) (rd at_ (t : Int))
def bspL (ps : List (List Sp)) (at_ : List Int) (n : Nat) : List Sp := (List.range n).map (bsp ps at_)
def brk (ps : List (List Sp)) (at_ : List Int) (t : Nat) : Int := (cd (memB (runs (rd_L4 ps (t : Int)))) (bsp ps at_ t).f0.toNat : Int)
def bsum (ps : List (List Sp)) (at_ : List Int) : Nat → Int
 | 0 => 0
 | t + 1 => bsum ps at_ t + brk ps at_ t * cnt (sets (ps.drop (t + 1)))
theorem bspL_snoc (ps : List (List Sp)) (at_ : List Int) (n : Nat) : bspL ps at_ (n + 1) = bspL ps at_ n ++ [bsp ps at_ n] := by unfold bspL; rw [List.range_succ, List.map_append]; rfl
theorem bspL_len (ps : List (List Sp)) (at_ : List Int) (n : Nat) : (bspL ps at_ n).length = n := by simp [bspL]
def Ch (ps : List (List Sp)) (at_ : List Int) : Prop := at_.length = ps.length ∧ ∀ t, t < ps.length → ∃ d : Nat, at_[t]? = some ((d : Nat) : Int) ∧ d < bl ps t
theorem bsp_mem {ps : List (List Sp)} {at_ : List Int} (hc : Ch ps at_) (hk : ps.all okPart = true) {t : Nat} (ht : t < ps.length) : 0 ≤ rd at_ (t : Int) ∧ rd at_ (t : Int) < ((ps[t]).length : Int) ∧ bsp ps at_ t ∈ ps[t] ∧ (0 ≤ (bsp ps at_ t).f0 ∧ (bsp ps at_ t).f0 ≤ 255) ∧ memB (runs ps[t]) (bsp ps at_ t).f0 = true ∧ (cd (memB (runs ps[t])) (bsp ps at_ t).f0.toNat : Int) < size (runs ps[t]) := by
 obtain ⟨d, hd, hlt⟩ := hc.2 t ht; rw [bl_at ps ht] at hlt; have r1 := rd_at at_ t _ hd; have hm : bsp ps at_ t ∈ ps[t] := by
  unfold bsp; rw [rdL_at ps t ht, r1]; simp [rd_T34, List.getD, hlt]
 have hs := okPart_good (good_part hk ht); have hm2 : L34 (bsp ps at_ t) ∈ runs ps[t] := List.mem_map_of_mem hm; have he := hs.1.each _ hm2; have hme : Mem (runs ps[t]) (bsp ps at_ t).f0 := ⟨_, hm2, Int.le_refl _, he.2.1⟩; have h0 : 0 ≤ (bsp ps at_ t).f0 := he.1; have h1 : (bsp ps at_ t).f0 ≤ (bsp ps at_ t).f1 := he.2.1; have h2 : (bsp ps at_ t).f1 ≤ 255 := he.2.2; exact ⟨by rw [r1]; omega, by rw [r1]; omega, hm, ⟨h0, by omega⟩, memB_iff.2 hme, cd_less hs.1 hme⟩
theorem bsum_range {ps : List (List Sp)} {at_ : List Int} (hc : Ch ps at_) (hk : ps.all okPart = true) : ∀ t, t ≤ ps.length → 0 ≤ bsum ps at_ t ∧ bsum ps at_ t + cnt (sets (ps.drop t)) ≤ cnt (sets ps)
 | 0, _ => by
  rw [List.drop_zero]; exact ⟨Int.le_refl _, by show (0 : Int) + _ ≤ _; omega⟩
 | t + 1, ht => by
  have ih := bsum_range hc hk t (by omega); have hm := (bsp_mem hc hk (show t < ps.length by omega)).2.2.2.2.2; have hg := good_of hk; have hpos : 1 ≤ cnt (sets (ps.drop (t + 1))) := by have := cnt_pos (hg.drop (t + 1)); rwa [sets_drop] at this
  have e : brk ps at_ t = (cd (memB (runs ps[t])) (bsp ps at_ t).f0.toNat : Int) := by unfold brk; rw [rdL_at ps t (by omega)]
  rw [cnt_step ps t (by omega)] at ih; have m0 : 0 ≤ brk ps at_ t * cnt (sets (ps.drop (t + 1))) := Int.mul_nonneg (by rw [e]; omega) (by omega); have m1 := Int.mul_le_mul_of_nonneg_right (show brk ps at_ t + 1 ≤ size (runs ps[t]) by rw [e]; omega) (show 0 ≤ cnt (sets (ps.drop (t + 1))) by omega); rw [Int.add_mul, Int.one_mul] at m1; show 0 ≤ bsum ps at_ t + brk ps at_ t * cnt (sets (ps.drop (t + 1))) ∧ bsum ps at_ t + brk ps at_ t * cnt (sets (ps.drop (t + 1))) + cnt (sets (ps.drop (t + 1))) ≤ _; omega
theorem bterm_range {ps : List (List Sp)} {at_ : List Int} (hc : Ch ps at_) (hk : ps.all okPart = true) {t : Nat} (ht : t < ps.length) (h30 : cnt (sets ps) ≤ 1073741824) : 0 ≤ brk ps at_ t * cnt (sets (ps.drop (t + 1))) ∧ brk ps at_ t * cnt (sets (ps.drop (t + 1))) ≤ 1073741824 ∧ 0 ≤ bsum ps at_ t ∧ bsum ps at_ t ≤ 1073741824 ∧ bsum ps at_ (t + 1) ≤ 1073741824 ∧ 0 ≤ cnt (sets (ps.drop t)) ∧ cnt (sets (ps.drop t)) ≤ 1073741824 := by
 have h0 := bsum_range hc hk t (by omega); have h1 := bsum_range hc hk (t + 1) (by omega); have hg := good_of hk; have p0 : 1 ≤ cnt (sets (ps.drop t)) := by have := cnt_pos (hg.drop t); rwa [sets_drop] at this
 have p1 : 1 ≤ cnt (sets (ps.drop (t + 1))) := by have := cnt_pos (hg.drop (t + 1)); rwa [sets_drop] at this
 have m0 : 0 ≤ brk ps at_ t * cnt (sets (ps.drop (t + 1))) := Int.mul_nonneg (by unfold brk; omega) (by omega); have e : bsum ps at_ (t + 1) = bsum ps at_ t + brk ps at_ t * cnt (sets (ps.drop (t + 1))) := rfl; omega
theorem boxes1_loop (ps : List (List Sp)) (a : Int) (at_ : List Int) (st : List Int) (hI : In2 ps) (hk : ps.all okPart = true) (hl : ps.length ≤ 8) (h30 : cnt (sets ps) ≤ 1073741824) (ha : 0 ≤ a ∧ a ≤ 1073741823) (hc : Ch ps at_) : ∀ (n i : Nat), i + n = ps.length →
 Ev (fun k => shape_Boxes_1.l0 k (SP (sets ps)).tail at_ ps (ps.length : Int) (i : Int) (bspL ps at_ i) (a + bsum ps at_ i) st) (bspL ps at_ ps.length, a + bsum ps at_ ps.length, st)
 | 0, i, hi => by
  obtain rfl : i = ps.length := by omega
  refine evSucc ?_; simp only [shape_Boxes_1.l0, if_neg (show ¬ (ps.length : Int) < ((ps.length : Nat) : Int) by omega)]; exact evNow _
 | n + 1, i, hi => by
  have hil : i < ps.length := by omega
  have ih := boxes1_loop ps a at_ st hI hk hl h30 ha hc n (i + 1) (by omega); obtain ⟨m1, m2, m3, m4, m5, m6⟩ := bsp_mem hc hk hil; obtain ⟨t1, t2, t3, t4, t5, t6, t7⟩ := bterm_range hc hk hil h30; have hs := okPart_good (good_part hk hil); have hlen : (SP (sets ps)).tail.length = ps.length := by rw [List.length_tail, SP_len, sets_len]; rfl
  have r1 := rd_at _ i _ (tail_at ps i hil); have hR := spans_Rank_is ps[i] (bsp ps at_ i).f0 (wf64 (by omega) (by omega)) (hI.2 _ (List.getElem_mem _)); rw [show ps[i].map L34 = runs ps[i] from rfl, setL_of hs.1] at hR; have eb : rd_T34 ps[i] (rd at_ (i : Int)) = bsp ps at_ i := by unfold bsp; rw [rdL_at ps i hil]
  have ek : brk ps at_ i = (cd (memB (runs ps[i])) (bsp ps at_ i).f0.toNat : Int) := by unfold brk; rw [rdL_at ps i hil]
  have hw2 : Aside0 (wrap64 ((i : Int) + 1) = ((i + 1 : Nat) : Int)) := Aside0.mk (by rw [w64 (by omega) (by omega)]; rfl); have hw : Aside0 (wrap64 (a + bsum ps at_ i + wrap64 ((cd (memB (runs ps[i])) (bsp ps at_ i).f0.toNat : Int) * cnt (sets (ps.drop (i + 1))))) = a + bsum ps at_ (i + 1)) := Aside0.mk (by
   rw [← ek, w64 (x := brk ps at_ i * cnt (sets (ps.drop (i + 1)))) (by omega) (by omega), w64 (by omega) (by omega)]; show _ = a + (bsum ps at_ i + brk ps at_ i * cnt (sets (ps.drop (i + 1)))); omega)
  have hal : i < at_.length := by rw [hc.1]; exact hil
  refine evSucc ?_; simp only [shape_Boxes_1.l0, if_pos (show (i : Int) < ((ps.length : Nat) : Int) by omega), if_pos (show (0 : Int) ≤ (i : Int) by omega), if_pos (show (i : Int) < (at_.length : Int) by omega), if_pos m1, rdL_at ps i hil, if_pos m2, if_pos (show (bspL ps at_ i).length < 8796093022208 by rw [bspL_len]; omega), eb]; refine Ev.bind hR ?_; simp only [rankL, if_pos m5, hlen, if_pos (show (i : Int) < ((ps.length : Nat) : Int) by omega), r1, hw.out, hw2.out]; rw [bspL_snoc] at ih; exact ih
theorem boxes1_is (ps : List (List Sp)) (a : Int) (at_ : List Int) (hI : In2 ps) (hv : vShape ps a = true) (hc : Ch ps at_) : Ev (fun k => shape_Boxes_1.f k ps a ((SP (sets ps)).drop 1) at_) (bspL ps at_ ps.length, a + bsum ps at_ ps.length, (SP (sets ps)).tail) := by
 obtain ⟨⟨l1, l2⟩, ha, hk, hg, hcn⟩ := vShape_good hv; have hlen : (SP (sets ps)).tail.length = ps.length := by rw [List.length_tail, SP_len, sets_len]; rfl
 have h := boxes1_loop ps a at_ (SP (sets ps)).tail hI hk l2 (by omega) ha hc ps.length 0 (by omega); simp only [shape_Boxes_1.f, List.drop_one, cloneInt.f, if_pos (show (SP (sets ps)).tail.length < 8796093022208 by omega), Option.bind_some]; have e : a + bsum ps at_ 0 = a := Int.add_zero a; rw [e] at h; exact h
theorem rep_set {α : Type} (i : Nat) (z v : α) (t : List α) : (List.replicate (i + 1) z ++ t).set i v = List.replicate i z ++ v :: t := by
 rw [List.replicate_succ', List.append_assoc]; rw [List.set_append_right _ _ (by simp)]; simp
theorem refBox_loop (ps : List (List Sp)) (a : Int) (at_ : List Int) (hI : In2 ps) (hk : ps.all okPart = true) (hl : ps.length ≤ 8) (h30 : cnt (sets ps) ≤ 1073741824) (ha : 0 ≤ a ∧ a ≤ 1073741823) (hc : Ch ps at_) : ∀ (i q : Nat), i ≤ ps.length → q ≤ 1073741824 → dig (bl ps) i q = at_.take i →
 Ev (fun k => leadtrailref09_Box.l0 k (q : Int) (cnt (sets (ps.drop i))) ((i : Int) - 1) ps a (List.replicate i z34 ++ (bspL ps at_ ps.length).drop i) (a + (bsum ps at_ ps.length - bsum ps at_ i)) (List.replicate i 0 ++ (SP (sets ps)).tail.drop i)) (bspL ps at_ ps.length, a + bsum ps at_ ps.length, (SP (sets ps)).tail)
 | 0, q, hi, _, _ => by
  refine evSucc ?_; simp only [leadtrailref09_Box.l0, if_neg (show ¬ (((0 : Nat) : Int) - 1 ≥ 0) by omega)]; rw [show bsum ps at_ 0 = 0 from rfl, Int.sub_zero]; simpa using evNow (bspL ps at_ ps.length, a + bsum ps at_ ps.length, (SP (sets ps)).tail)
 | i + 1, q, hi, hq, hd => by
  have hil : i < ps.length := by omega
  have hb := bl_range hk hil; have hqd : q / bl ps i ≤ q := Nat.div_le_self _ _; have hmod := Nat.mod_lt q (show 0 < bl ps i by omega); have hdl : dig (bl ps) i (q / bl ps i) ++ [((q % bl ps i : Nat) : Int)] = at_.take (i + 1) := hd; have hal : i < at_.length := by rw [hc.1]; exact hil
  have htk : at_.take (i + 1) = at_.take i ++ [at_[i]] := List.take_succ_eq_append_getElem hal; rw [htk] at hdl; have hsp := List.append_inj' hdl rfl; have hdi : at_[i] = ((q % bl ps i : Nat) : Int) := by have := hsp.2; simp at this; omega
  have ih := refBox_loop ps a at_ hI hk hl h30 ha hc i (q / bl ps i) (by omega) (by omega) hsp.1; obtain ⟨m1, m2, m3, m4, m5, m6⟩ := bsp_mem hc hk hil; obtain ⟨t1, t2, t3, t4, t5, t6, t7⟩ := bterm_range hc hk hil h30; have u := bsum_range hc hk (i + 1) (by omega); have u1 := bsum_range hc hk ps.length (Nat.le_refl _); have hs := okPart_good (good_part hk hil); have hz := size_256 hs.1; have hlen : (SP (sets ps)).tail.length = ps.length := by rw [List.length_tail, SP_len, sets_len]; rfl
  have hR := refRank_at ps[i] (bsp ps at_ i).f0 (hI.2 _ (List.getElem_mem _)) (good_part hk hil); have hZ := refSize_at ps[i] (hI.2 _ (List.getElem_mem _)) (good_part hk hil); have ert : rd at_ (i : Int) = ((q % bl ps i : Nat) : Int) := by rw [rd_at at_ i _ (List.getElem?_eq_getElem hal), hdi]
  have eb : rd_T34 ps[i] ((q % bl ps i : Nat) : Int) = bsp ps at_ i := by unfold bsp; rw [rdL_at ps i hil, ert]
  have ek : brk ps at_ i = (cd (memB (runs ps[i])) (bsp ps at_ i).f0.toNat : Int) := by unfold brk; rw [rdL_at ps i hil]
  have el : (((ps[i]).length : Nat) : Int) = (bl ps i : Int) := by rw [bl_at ps hil]
  have hw3 : Aside0 (wrap64 ((q / bl ps i : Nat) : Int) = ((q / bl ps i : Nat) : Int)) := Aside0.mk (by generalize q / bl ps i = z at hqd; exact w64 (by omega) (by omega)); have t1' : Int.tmod (q : Int) (bl ps i : Int) = ((q % bl ps i : Nat) : Int) := (Int.ofNat_tmod q (bl ps i)).symm; have t2' : Int.tdiv (q : Int) (bl ps i : Int) = ((q / bl ps i : Nat) : Int) := (Int.ofNat_tdiv q (bl ps i)).symm; have hw2 : Aside0 (wrap64 ((i : Int) - 1) = (i : Int) - 1) := Aside0.mk (w64 (by omega) (by omega)); have hg := good_of hk; have p1 : 1 ≤ cnt (sets (ps.drop (i + 1))) := by have := cnt_pos (hg.drop (i + 1)); rwa [sets_drop] at this
  have hst := cnt_step ps i hil; have hw4 : Aside0 (wrap64 (cnt (sets (ps.drop (i + 1))) * size (runs ps[i])) = cnt (sets (ps.drop i))) := Aside0.mk (by
   rw [Int.mul_comm, ← hst]; exact w64 (by omega) (by omega))
  have hw5 : Aside0 (wrap64 (a + (bsum ps at_ ps.length - bsum ps at_ (i + 1)) + wrap64 ((cd (memB (runs ps[i])) (bsp ps at_ i).f0.toNat : Int) * cnt (sets (ps.drop (i + 1))))) = a + (bsum ps at_ ps.length - bsum ps at_ i)) := Aside0.mk (by
   have e : bsum ps at_ (i + 1) = bsum ps at_ i + brk ps at_ i * cnt (sets (ps.drop (i + 1))) := rfl; have hd0 : cnt (sets (ps.drop ps.length)) = 1 := by rw [List.drop_length]; exact cnt_nil
   rw [← ek, w64 (x := brk ps at_ i * cnt (sets (ps.drop (i + 1)))) (by omega) (by omega), w64 (by omega) (by omega)]; omega)
  have e0 : (((i + 1 : Nat) : Int) - 1) = (i : Int) := by omega
  have q1 : (List.replicate (i + 1) z34 ++ (bspL ps at_ ps.length).drop (i + 1)).set i (bsp ps at_ i) = List.replicate i z34 ++ (bspL ps at_ ps.length).drop i := by
   rw [rep_set]; congr 1
   rw [List.drop_eq_getElem_cons (show i < (bspL ps at_ ps.length).length by rw [bspL_len]; exact hil)]; congr 1
   simp [bspL]
  have q2 : (List.replicate (i + 1) (0 : Int) ++ (SP (sets ps)).tail.drop (i + 1)).set i (cnt (sets (ps.drop (i + 1)))) = List.replicate i 0 ++ (SP (sets ps)).tail.drop i := by
   rw [rep_set]; congr 1
   rw [List.drop_eq_getElem_cons (show i < (SP (sets ps)).tail.length by rw [hlen]; exact hil)]; congr 1
   have := tail_at ps i hil; rw [List.getElem?_eq_getElem (by rw [hlen]; exact hil)] at this; injection this with this
   exact this.symm
  have q3 : rd_T34 (List.replicate i z34 ++ (bspL ps at_ ps.length).drop i) (i : Int) = bsp ps at_ i := by
   rw [List.drop_eq_getElem_cons (show i < (bspL ps at_ ps.length).length by rw [bspL_len]; exact hil)]; simp [rd_T34, bspL]
  have l1 : ((List.replicate (i + 1) z34 ++ (bspL ps at_ ps.length).drop (i + 1)).length : Nat) = ps.length := by
   rw [List.length_append, List.length_replicate, List.length_drop, bspL_len]; omega
  have l2 : ((List.replicate (i + 1) (0 : Int) ++ (SP (sets ps)).tail.drop (i + 1)).length : Nat) = ps.length := by
   rw [List.length_append, List.length_replicate, List.length_drop, hlen]; omega
  refine evSucc ?_; rw [e0]; simp only [leadtrailref09_Box.l0, if_pos (show (i : Int) ≥ 0 by omega), if_pos (show (0 : Int) ≤ (i : Int) by omega), if_pos (show (i : Int) < (ps.length : Int) by omega), rdL_at ps i hil, el, if_neg (show ¬ ((bl ps i : Nat) : Int) = 0 by omega), t1', if_pos (show (0 : Int) ≤ ((q % bl ps i : Nat) : Int) by omega), if_pos (show ((q % bl ps i : Nat) : Int) < (bl ps i : Int) by omega), l1, l2, Int.toNat_natCast, eb, Option.bind_some]; simp only [q1, q2, q3]; refine Ev.bind hR ?_; simp only [rankL, if_pos m5]; refine Ev.bind hZ ?_; simp only [t2', hw2.out, hw3.out, hw4.out, hw5.out]; exact ih
theorem refBox_is (ps : List (List Sp)) (a : Int) (at_ : List Int) (q : Nat) (hI : In2 ps) (hv : vShape ps a = true) (hc : Ch ps at_) (hq : q ≤ 1073741824) (hd : dig (bl ps) ps.length q = at_) : Ev (fun k => leadtrailref09_Box.f k ps a (q : Int)) (bspL ps at_ ps.length, a + bsum ps at_ ps.length, (SP (sets ps)).tail) := by
 obtain ⟨⟨l1, l2⟩, ha, hk, hg, hcn⟩ := vShape_good hv; have hlen : (SP (sets ps)).tail.length = ps.length := by rw [List.length_tail, SP_len, sets_len]; rfl
 have h := refBox_loop ps a at_ hI hk l2 (by omega) ha hc ps.length q (Nat.le_refl _) hq (by rw [hd, ← hc.1, List.take_length]); have hw : Aside0 (wrap64 ((ps.length : Int) - 1) = (ps.length : Int) - 1) := Aside0.mk (w64 (by omega) (by omega)); simp only [leadtrailref09_Box.f, if_pos (show (0 : Int) ≤ (ps.length : Int) by omega), Int.toNat_natCast, if_pos (show ps.length ≤ 17592186044416 by omega), if_pos (show ps.length ≤ 35184372088832 by omega), hw.out]; rw [List.drop_length, show cnt (sets []) = 1 from cnt_nil, List.drop_of_length_le (show (bspL ps at_ ps.length).length ≤ ps.length by rw [bspL_len]; exact Nat.le_refl _), List.drop_of_length_le (show (SP (sets ps)).tail.length ≤ ps.length by rw [hlen]; exact Nat.le_refl _), List.append_nil, List.append_nil, Int.sub_self, Int.add_zero] at h; exact h
theorem refBoxes_loop (ps : List (List Sp)) (a : Int) (hk : ps.all okPart = true) (hl : ps.length ≤ 8) (M : Nat) (hM : M ≤ 1000) : ∀ (n i : Nat), i + n = ps.length → bpr (bl ps) i ≤ M →
 Ev (fun k => leadtrailref09_Boxes.l0 k (M : Int) ((bpr (bl ps) i : Nat) : Int) (i : Int) ps a) (if bpr (bl ps) ps.length ≤ M then ((bpr (bl ps) ps.length : Nat) : Int) else (M : Int) + 1)
 | 0, i, hi, hb => by
  obtain rfl : i = ps.length := by omega
  refine evSucc ?_; simp only [leadtrailref09_Boxes.l0, if_neg (show ¬ (ps.length : Int) < ((ps.length : Nat) : Int) by omega), if_pos hb]; exact evNow _
 | n + 1, i, hi, hb => by
  have hil : i < ps.length := by omega
  have hr := bl_range hk hil; have el : (((ps[i]).length : Nat) : Int) = (bl ps i : Int) := by rw [bl_at ps hil]
  have hmul : bpr (bl ps) i * bl ps i ≤ 1000 * 256 := Nat.mul_le_mul (by omega) hr.2; have em : bpr (bl ps) (i + 1) = bpr (bl ps) i * bl ps i := rfl; have hw : Aside0 (wrap64 (((bpr (bl ps) i : Nat) : Int) * (bl ps i : Int)) = ((bpr (bl ps) (i + 1) : Nat) : Int)) := Aside0.mk (by
   rw [← Int.natCast_mul, ← em]; exact w64 (by omega) (by omega))
  have hw2 : Aside0 (wrap64 ((i : Int) + 1) = ((i + 1 : Nat) : Int)) := Aside0.mk (by rw [w64 (by omega) (by omega)]; rfl); have hw3 : Aside0 (wrap64 ((M : Int) + 1) = (M : Int) + 1) := Aside0.mk (w64 (by omega) (by omega)); refine evSucc ?_; simp only [leadtrailref09_Boxes.l0, if_pos (show (i : Int) < (ps.length : Int) by omega), if_pos (show (0 : Int) ≤ (i : Int) by omega), rdL_at ps i hil, el, hw.out, hw2.out, hw3.out]; by_cases c : ((bpr (bl ps) (i + 1) : Nat) : Int) > (M : Int)
  ·have hmono := bpr_mono (b := bl ps) (m := i + 1) (n := ps.length) (by omega) (fun t ht => (bl_range hk ht).1); simp only [if_pos c, if_neg (show ¬ bpr (bl ps) ps.length ≤ M by omega)]; exact evNow _
  ·simp only [if_neg c]; exact refBoxes_loop ps a hk hl M hM n (i + 1) (by omega) (by omega)
theorem refBoxes_is (ps : List (List Sp)) (a : Int) (hI : In2 ps) (M : Nat) (hM : M ≤ 1000) (hM1 : 1 ≤ M) : Ev (fun k => leadtrailref09_Boxes.f k ps a (M : Int)) (if vShape ps a = true then (if bpr (bl ps) ps.length ≤ M then ((bpr (bl ps) ps.length : Nat) : Int) else (M : Int) + 1) else 0) := by
 simp only [leadtrailref09_Boxes.f]; refine Ev.bind (refCount_is ps a hI) ?_; cases hv : vShape ps a
 ·simp only [Bool.false_eq_true, if_false, if_true]; exact evNow _
 ·simp only [if_true]; obtain ⟨⟨l1, l2⟩, ha, hk, hg, hcn⟩ := vShape_good hv; have := cnt_pos hg; simp only [if_neg (show ¬ cnt (sets ps) = 0 by omega)]; exact refBoxes_loop ps a hk l2 M hM ps.length 0 (by omega) (by show 1 ≤ M; omega)
theorem sameBox_loop (st : List Int) (x : List Sp) (f : Int) (hl : st.length ≤ 1000) : ∀ (n i : Nat), i + n = st.length → Ev (fun k => leadtrailref09_SameBox.l0 k (i : Int) x f st x f st) true
 | 0, i, hi => by
  refine evSucc ?_; simp only [leadtrailref09_SameBox.l0, if_neg (show ¬ (i : Int) < (st.length : Int) by omega)]; exact evNow _
 | n + 1, i, hi => by
  have hw2 : Aside0 (wrap64 ((i : Int) + 1) = ((i + 1 : Nat) : Int)) := Aside0.mk (by rw [w64 (by omega) (by omega)]; rfl); refine evSucc ?_; simp only [leadtrailref09_SameBox.l0, if_pos (show (i : Int) < (st.length : Int) by omega), if_pos (show (0 : Int) ≤ (i : Int) by omega), if_true, hw2.out]; exact sameBox_loop st x f hl n (i + 1) (by omega)
theorem sameBox_self (st : List Int) (x : List Sp) (f : Int) (hl : st.length ≤ 1000) (hx : x.length * 16 ≤ 140737488351232) : Ev (fun k => leadtrailref09_SameBox.f k x f st x f st) true := by
 simp only [leadtrailref09_SameBox.f, if_true]; refine Ev.bind (leadtrailref03_Same_self x hx) ?_; simp only [if_true, bne_self_eq_false]; refine evSucc ?_; simp only [leadtrailref09_SameBox.j0, Bool.false_eq_true, if_false]; exact sameBox_loop st x f hl st.length 0 (by omega)
def atsOf (ps : List (List Sp)) (i : Nat) : List Int := dig (bl ps) ps.length i
noncomputable def bxOf (ps : List (List Sp)) (a : Int) (i : Nat) : List Sp × Int × List Int := (bspL ps (atsOf ps i) ps.length, a + bsum ps (atsOf ps i) ps.length, (SP (sets ps)).tail)
theorem ats_ch {ps : List (List Sp)} (hk : ps.all okPart = true) (i : Nat) : Ch ps (atsOf ps i) := ⟨dig_len _ _ _, fun t ht => dig_range (fun t ht => (bl_range hk ht).1) ht⟩
noncomputable def nbx (ps : List (List Sp)) (a : Int) : Nat := if vShape ps a = true then bpr (bl ps) ps.length else 0
theorem bpr_cnt {ps : List (List Sp)} (hk : ps.all okPart = true) : ∀ n, n ≤ ps.length → ((bpr (bl ps) n : Nat) : Int) * cnt (sets (ps.drop n)) ≤ cnt (sets ps)
 | 0, _ => by rw [List.drop_zero, show bpr (bl ps) 0 = 1 from rfl]; simp
 | n + 1, hn => by
  have ih := bpr_cnt hk n (by omega); have hs := okPart_good (good_part hk (show n < ps.length by omega)); have hl := valid_len hs.1; have e : (runs ps[n]).length = bl ps n := by rw [bl_at ps (by omega)]; exact List.length_map ..
  have p1 : 1 ≤ cnt (sets (ps.drop (n + 1))) := by have := cnt_pos ((good_of hk).drop (n + 1)); rwa [sets_drop] at this
  rw [cnt_step ps n (by omega)] at ih; have em : bpr (bl ps) (n + 1) = bpr (bl ps) n * bl ps n := rfl; rw [em, Int.natCast_mul, Int.mul_assoc]; have h1 := Int.mul_le_mul_of_nonneg_right (show (bl ps n : Int) ≤ size (runs ps[n]) by omega) (show 0 ≤ cnt (sets (ps.drop (n + 1))) by omega); have h2 := Int.mul_le_mul_of_nonneg_left h1 (show (0 : Int) ≤ ((bpr (bl ps) n : Nat) : Int) by omega); omega
theorem nbx_le {ps : List (List Sp)} {a : Int} : nbx ps a ≤ 1073741824 := by
 unfold nbx; split
 ·rename_i hv
  obtain ⟨⟨l1, l2⟩, ha, hk, hg, hcn⟩ := vShape_good hv; have := bpr_cnt hk ps.length (Nat.le_refl _); rw [List.drop_length, show cnt (sets []) = 1 from cnt_nil, Int.mul_one] at this; omega
 ·omega
theorem boxF_is (ps : List (List Sp)) (a : Int) (hI : In2 ps) : ∃ k, BoxF k ps a (vShape ps a) (SP (sets ps)) (nbx ps a) (atsOf ps) (bxOf ps a) := by
 obtain ⟨K0, h0⟩ := shapeValid_is ps a hI; cases hv : vShape ps a
 ·refine ⟨K0, by have := h0 K0 (Nat.le_refl _); rwa [hv] at this, fun _ => by simp [nbx, hv], fun h => by cases h⟩
 ·obtain ⟨⟨l1, l2⟩, ha, hk, hg, hcn⟩ := vShape_good hv; obtain ⟨K1, h1⟩ := steps_is hI hv; obtain ⟨K2, h2⟩ := evAll (g := fun i k => shape_Boxes_1.f k ps a ((SP (sets ps)).drop 1) (atsOf ps i)) (v := bxOf ps a) (N := nbx ps a) (fun i _ => boxes1_is ps a (atsOf ps i) hI hv (ats_ch hk i)); have hN : nbx ps a = bpr (bl ps) ps.length := by simp [nbx, hv]
  refine ⟨max K0 (max K1 K2), by have := h0 (max K0 (max K1 K2)) (by omega); rwa [hv] at this, (fun h => by cases h), fun _ => ⟨?_, h1 _ (by omega), by rw [SP_len]; omega, by omega, dig_zero _ _, fun i hi => ⟨dig_len _ _ _, h2 _ (by omega) i hi, ?_⟩⟩⟩
  ·rw [hN]; exact bpr_pos fun t ht => (bl_range hk ht).1
  ·have := nextF_dig ps ps.length i [] (fun t ht => ⟨(bl_range hk ht).1, by have := (bl_range hk ht).2; omega⟩) (by rw [← hN]; exact hi); rw [List.append_nil, List.append_nil, ← hN] at this; exact this
theorem boxAt_is (ps : List (List Sp)) (a : Int) (hI : In2 ps) {i : Nat} (hi : i < nbx ps a) : ∃ k y, leadtrailref09_Box.f k ps a (i : Int) = some y ∧ leadtrailref09_SameBox.f k (bxOf ps a i).1 (bxOf ps a i).2.1 (bxOf ps a i).2.2 y.1 y.2.1 y.2.2 = some true := by
 cases hv : vShape ps a
 ·simp [nbx, hv] at hi
 ·obtain ⟨⟨l1, l2⟩, ha, hk, hg, hcn⟩ := vShape_good hv; have hN := nbx_le (ps := ps) (a := a); obtain ⟨K1, h1⟩ := refBox_is ps a (atsOf ps i) i hI hv (ats_ch hk i) (by omega) rfl; have hlen : (SP (sets ps)).tail.length = ps.length := by rw [List.length_tail, SP_len, sets_len]; rfl
  obtain ⟨K2, h2⟩ := sameBox_self (SP (sets ps)).tail (bspL ps (atsOf ps i) ps.length) (a + bsum ps (atsOf ps i) ps.length) (by omega) (by rw [bspL_len]; omega); exact ⟨max K1 K2, _, h1 _ (by omega), h2 _ (by omega)⟩
end Go.Proofs.Ytoljcfocgaonpaa.PBS
end
section
namespace Go.Proofs.Ytoljcfocgaonpaa.PBS
open Go.RowKit Go.Proofs.YtoljcfocgaonpaaW.PrintWords Go.Proofs.YtoljcfocgaonpaaW.PrintLast Go.Proofs.YtoljcfocgaonpaaW.PrintMore Go.Proofs.Ytoljcfocgaonpaa.I Go.Proofs.LT Go.Proofs.Ytoljcfocgaonpaa.PB3
set_option linter.unusedVariables false
set_option linter.unusedSimpArgs false
theorem cloneSpan_is (p : List Sp) (h : In1 p) : cloneSpan.f p = some p := by
 unfold In1 at h; simp only [cloneSpan.f, if_pos (show p.length < 8796093022208 by omega)]
theorem sCopy_in (ss out : List Sh) (i : Nat) (ps : List (List Sp)) (f : Int) (hp : In2 ps) (ho : out.length < 4398046511104) (hi : i ≤ 4398046511104) {r : List Sh} (h : Ev (fun k => scheme_Copy.l0 k ss (ss.length : Int) ((i + 1 : Nat) : Int) (out ++ [⟨ps, f⟩])) r) : ∀ (n j : Nat), j + n = ps.length →
 Ev (fun k => scheme_Copy.l1 k ss (ss.length : Int) (i : Int) ps (ps.length : Int) (j : Int) out (ps.take j) f) r
 | 0, j, hj => by
  obtain rfl : j = ps.length := by omega
  have hw : Aside0 (wrap64 ((i : Int) + 1) = ((i + 1 : Nat) : Int)) := Aside0.mk (by rw [w64 (by omega) (by omega)]; rfl); refine evSucc ?_; simp only [scheme_Copy.l1, if_neg (show ¬ ((ps.length : Nat) : Int) < ((ps.length : Nat) : Int) by omega), if_pos ho, hw.out, List.take_length]; exact h
 | n + 1, j, hj => by
  have hjl : j < ps.length := by omega
  have h1 := hp.1; have hw : Aside0 (wrap64 ((j : Int) + 1) = ((j + 1 : Nat) : Int)) := Aside0.mk (by rw [w64 (by omega) (by omega)]; rfl); have ih := sCopy_in ss out i ps f hp ho hi h n (j + 1) (by omega); have e : ps.take j ++ [ps[j]] = ps.take (j + 1) := (List.take_succ_eq_append_getElem hjl).symm; refine evSucc ?_; simp only [scheme_Copy.l1, if_pos (show (j : Int) < ((ps.length : Nat) : Int) by omega), if_pos (show (0 : Int) ≤ (j : Int) by omega), rdL_at ps j hjl, cloneSpan_is _ (hp.2 _ (List.getElem_mem hjl)), Option.bind_some, if_pos (show (ps.take j).length < 5864062014805 by rw [List.length_take]; omega), hw.out, e]; exact ih
theorem sCopy_loop (ss : List Sh) (hI : InS ss) : ∀ (n i : Nat), i + n = ss.length → Ev (fun k => scheme_Copy.l0 k ss (ss.length : Int) (i : Int) (ss.take i)) ss
 | 0, i, hi => by
  refine evSucc ?_; simp only [scheme_Copy.l0, if_neg (show ¬ (i : Int) < (ss.length : Int) by omega)]; rw [List.take_of_length_le (by omega)]; exact evNow _
 | n + 1, i, hi => by
  have hil : i < ss.length := by omega
  have h1 := hI.1; have ih := sCopy_loop ss hI n (i + 1) (by omega); have er : rd_T47 ss (i : Int) = ss[i] := by simp [rd_T47, List.getD, hil]
  rw [List.take_succ_eq_append_getElem hil] at ih; have h := sCopy_in ss (ss.take i) i (ss[i]).f0 (ss[i]).f1 (hI.2 _ (List.getElem_mem hil)) (by rw [List.length_take]; omega) (by omega) ih (ss[i]).f0.length 0 (by omega); refine evSucc ?_; simp only [scheme_Copy.l0, if_pos (show (i : Int) < (ss.length : Int) by omega), if_pos (show (0 : Int) ≤ (i : Int) by omega), er]; exact h
theorem sCopy_is (ss : List Sh) (hI : InS ss) : Ev (fun k => scheme_Copy.f k ss) ss := sCopy_loop ss hI ss.length 0 (by omega)
theorem sCopy_one (ps : List (List Sp)) (a : Int) (hI : In2 ps) : Ev (fun k => scheme_Copy.f k [⟨ps, a⟩]) [⟨ps, a⟩] := sCopy_is _ ⟨by simp, fun p hp => by rw [List.mem_singleton.1 hp]; exact hI⟩
end Go.Proofs.Ytoljcfocgaonpaa.PBS
end
section
namespace Go.Proofs.Ytoljcfocgaonpaa.PBS
open Go.RowKit Go.Proofs.YtoljcfocgaonpaaW.PrintWords Go.Proofs.YtoljcfocgaonpaaW.PrintLast Go.Proofs.YtoljcfocgaonpaaW.PrintMore Go.Proofs.Ytoljcfocgaonpaa.I Go.Proofs.LT Go.Proofs.Ytoljcfocgaonpaa.PB3
set_option linter.unusedVariables false
set_option linter.unusedSimpArgs false
theorem leadtraillaw09_ShapeBoxes_ev (ps : List (List Sp)) (a early : Int) (hI : In2 ps) : ∃ k, leadtraillaw09_ShapeBoxes.Good k ps a early := by
 obtain ⟨K0, h0⟩ := fixed09; obtain ⟨K1, h1⟩ := Copy_is ps a hI; obtain ⟨K2, h2⟩ := sCopy_one ps a hI; obtain ⟨kc, hF⟩ := boxF_is ps a hI; obtain ⟨K3, h3⟩ := refBoxes_is ps a hI 300 (by omega) (by omega); have key : (if vShape ps a = true then (if bpr (bl ps) ps.length ≤ 300 then ((bpr (bl ps) ps.length : Nat) : Int) else ((300 : Nat) : Int) + 1) else 0) = if nbx ps a ≤ 300 then ((nbx ps a : Nat) : Int) else 301 := by
  unfold nbx; cases hv : vShape ps a
  ·simp
  ·simp
 refine ⟨max (max K0 K1) (max K2 K3), kc, _, _, nbx ps a, _, _, _, h0 _ (by omega), h1 _ (by omega), h2 _ (by omega), hF, h3 _ (by omega), key, fun i hi => boxAt_is ps a hI hi⟩
end Go.Proofs.Ytoljcfocgaonpaa.PBS
namespace Go.Proofs.Ytoljcfocgaonpaa.Pure
open Go.Proofs.Ytoljcfocgaonpaa.I Go.Proofs.YtoljcfocgaonpaaW.PrintWords
theorem ShapeBoxes : ∀ (l0_0 : List (List S34)) (a0_1 : Int) (a1 : Int), (l0_0.length * 24 ≤ 140737488351232 ∧ ∀ x ∈ l0_0, (x.length * 16 ≤ 140737488351232 ∧ ∀ y ∈ x, ((Lit.int .i64 y.f0).wf = true ∧ (Lit.int .i64 y.f1).wf = true))) → (Lit.int .i64 a0_1).wf = true → (Lit.int .i64 a1).wf = true → ∃ k, leadtraillaw09_ShapeBoxes.f k l0_0 a0_1 a1 = some true :=
 fun l0 a e h _ _ => by
  obtain ⟨k, hk⟩ := PBS.leadtraillaw09_ShapeBoxes_ev l0 a e ⟨h.1, fun x hx => (h.2 x hx).1⟩; refine ⟨k, ?_⟩; unfold leadtraillaw09_ShapeBoxes.f; rw [if_pos hk]
end Go.Proofs.Ytoljcfocgaonpaa.Pure
end
