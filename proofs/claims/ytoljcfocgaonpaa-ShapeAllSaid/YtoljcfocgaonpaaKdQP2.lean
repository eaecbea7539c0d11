/- Words and laws of this claim, of 10 texts. -/
import Derived.Test.YtoljcfocgaonpaaKdIx0
import Derived.Test.YtoljcfocgaonpaaKdIx6
import Derived.Test.YtoljcfocgaonpaaKdIx12
import Derived.Test.YtoljcfocgaonpaaKdIx14
import Derived.Test.YtoljcfocgaonpaaKdQP1
import Derived.Test.YtoljcfocgaonpaaKdQW1
import Derived.Test.YtoljcfocgaonpaaKdIx15
import Derived.Test.YtoljcfocgaonpaaKdIx16
import Derived.Lib.Bytes
import Derived.Test.YtoljcfocgaonpaaKdIx7
import Derived.Test.YtoljcfocgaonpaaKdIx8
import Derived.Test.YtoljcfocgaonpaaKdIx17
import Derived.Test.YtoljcfocgaonpaaKdIx18
import Derived.Test.YtoljcfocgaonpaaKdIx1
import Derived.Test.YtoljcfocgaonpaaKdQP0
import Derived.Test.YtoljcfocgaonpaaKdIx23
section
namespace Go.Proofs.Ytoljcfocgaonpaa.PBS
open Go.RowKit Go.Proofs.YtoljcfocgaonpaaW.PrintWords Go.Proofs.YtoljcfocgaonpaaW.PrintLast Go.Proofs.YtoljcfocgaonpaaW.PrintMore Go.Proofs.Ytoljcfocgaonpaa.I Go.Proofs.LT Go.Proofs.Ytoljcfocgaonpaa.PB3
set_option linter.unusedVariables false
set_option linter.unusedSimpArgs false
abbrev Sp := S34
abbrev Ra := S43
abbrev Sh := S47
def runs (p : List Sp) : List Run := p.map L34
def sets (ps : List (List Sp)) : List (List Run) := ps.map runs
def In1 (p : List Sp) : Prop := p.length * 16 ≤ 140737488351232
def In2 (ps : List (List Sp)) : Prop := ps.length * 24 ≤ 140737488351232 ∧ ∀ p ∈ ps, In1 p
def okPart (p : List Sp) : Bool := !(decide (p.length = 0)) && validB 255 (-2) (runs p)
def vShape (ps : List (List Sp)) (a : Int) : Bool := decide (1 ≤ ps.length ∧ ps.length ≤ 8) && (decide (0 ≤ a ∧ a ≤ 1073741823) && (ps.all okPart && decide (a + cnt (sets ps) - 1 ≤ 1073741823)))
theorem okPart_good {p : List Sp} (h : okPart p = true) : ValidFrom 255 (-2) (runs p) ∧ 1 ≤ size (runs p) := by
 simp only [okPart, Bool.and_eq_true, Bool.not_eq_true', decide_eq_false_iff_not] at h; have hv := (validB_iff _ _ _).1 h.2; refine ⟨hv, ?_⟩; have := valid_len hv; have e : (runs p).length = p.length := List.length_map ..; omega
theorem good_of {ps : List (List Sp)} (h : ps.all okPart = true) : GoodP (sets ps) := fun s hs => by
 obtain ⟨p, hp, rfl⟩ := List.mem_map.1 hs; exact okPart_good (List.all_eq_true.1 h p hp)
theorem vShape_good {ps : List (List Sp)} {a : Int} (h : vShape ps a = true) : (1 ≤ ps.length ∧ ps.length ≤ 8) ∧ (0 ≤ a ∧ a ≤ 1073741823) ∧ ps.all okPart = true ∧ GoodP (sets ps) ∧ a + cnt (sets ps) - 1 ≤ 1073741823 := by
 simp only [vShape, Bool.and_eq_true, decide_eq_true_eq] at h; exact ⟨h.1, h.2.1, h.2.2.1, good_of h.2.2.1, h.2.2.2⟩
theorem sets_drop (ps : List (List Sp)) (i : Nat) : (sets ps).drop i = sets (ps.drop i) := (List.map_drop ..).symm
theorem sets_len (ps : List (List Sp)) : (sets ps).length = ps.length := List.length_map ..
theorem none_is (p : List Sp) (hp : In1 p) : Ev (fun k => scheme_none.f k p) (!okPart p) := by
 simp only [scheme_none.f]; by_cases c : (p.length : Int) = 0
 ·simp only [if_pos c]; rw [show okPart p = false by simp only [okPart, decide_eq_true (show p.length = 0 by omega)]; rfl]; exact evNow _
 ·simp only [if_neg c]; have e : okPart p = validB 255 (-2) (runs p) := by simp only [okPart, decide_eq_false (show ¬ p.length = 0 by omega)]; rfl
  rw [e]; exact Ev.bind (spans_Valid_is p hp) (evNow _)
theorem any_go : ∀ (ps : List (List Sp)), (∀ p ∈ ps, In1 p) → Ev (fun k => slices_anyNone.go k ps) (!(ps.all okPart))
 | [], _ => evNow _
 | p :: t, h => by
  have h1 := none_is p (h p List.mem_cons_self); have h2 := any_go t (fun q hq => h q (List.mem_cons_of_mem _ hq)); refine Ev.bind h1 ?_; cases hp : okPart p
  ·simp only [Bool.not_false, if_true]; rw [show (!((p :: t).all okPart)) = true by simp [hp]]; exact evNow _
  ·simp only [Bool.not_true, Bool.false_eq_true, if_false]; rw [show (!((p :: t).all okPart)) = !(t.all okPart) by simp [hp]]; exact h2
theorem any_is (ps : List (List Sp)) (h : In2 ps) : Ev (fun k => slices_anyNone.f k ps) (!(ps.all okPart)) := by
 simp only [slices_anyNone.f, if_pos (show ps.length ≤ 8796093022206 by have := h.1; omega)]; exact any_go ps h.2
theorem size_is3 (p : List Sp) (hp : In1 p) (h : okPart p = true) : Ev (fun k => spans_Size.f k p) (size (runs p)) := by
 have := spans_Size_is p hp; rwa [show p.map L34 = runs p from rfl, setL_of (okPart_good h).1] at this
def capd : Int → List (List Sp) → Int
 | n, [] => n
 | n, p :: t => capd (min (n * size (runs p)) 1073741825) t
theorem capd_is : ∀ (ps : List (List Sp)) (n : Int), ps.all okPart = true → 1 ≤ n → n ≤ 1073741825 → capd n ps = min (n * cnt (sets ps)) 1073741825
 | [], n, _, h0, h1 => by
  show n = min (n * cnt (sets [])) _; rw [show cnt (sets []) = 1 from cnt_nil]; omega
 | p :: t, n, h, h0, h1 => by
  have hp : okPart p = true ∧ t.all okPart = true := by simpa using h
  have hs := okPart_good hp.1; have hc := cnt_pos (good_of hp.2); show capd (min (n * size (runs p)) 1073741825) t = min (n * cnt (runs p :: sets t)) _; have hn1 : 1 ≤ n * size (runs p) := by have := Int.mul_le_mul h0 hs.2 (by omega) (by omega); omega
  rw [capd_is t _ hp.2 (by omega) (by omega), cnt_cons, ← Int.mul_assoc]; generalize n * size (runs p) = m at hn1 ⊢; rcases (by omega : m ≤ 1073741825 ∨ 1073741825 < m) with q | q
  ·rw [show min m 1073741825 = m by omega]
  ·rw [show min m 1073741825 = 1073741825 by omega]; have a1 := Int.mul_le_mul_of_nonneg_left hc (show (0 : Int) ≤ 1073741825 by omega); have a2 := Int.mul_le_mul_of_nonneg_right (show (1073741825 : Int) ≤ m by omega) (show 0 ≤ cnt (sets t) by omega); omega
theorem rdL (pre : List (List Sp)) (p : List Sp) (t : List (List Sp)) : rd_L4 (pre ++ p :: t) (pre.length : Int) = p := by simp [rd_L4]
theorem last_loop (qs : List (List Sp)) (a : Int) : ∀ (t pre : List (List Sp)) (n : Int), (∀ p ∈ t, In1 p) → t.all okPart = true → (pre ++ t).length ≤ 8 → 1 ≤ n → n ≤ 1073741825 → 0 ≤ a → a ≤ 1073741823 →
 Ev (fun k => scheme_last.l0 k n (pre ++ t) (((pre ++ t).length : Nat) : Int) (pre.length : Int) qs a) (a + capd n t - 1)
 | [], pre, n, _, _, hl, h0, h1, a0, a1 => by
  refine evSucc ?_; simp only [scheme_last.l0]; rw [List.append_nil]; have w1 : Aside0 (wrap64 (wrap64 (a + n) - 1) = a + n - 1) := Aside0.mk (by rw [w64 (x := a + n) (by omega) (by omega), w64 (by omega) (by omega)]); simp only [if_neg (show ¬ ((pre.length : Nat) : Int) < ((pre.length : Nat) : Int) by omega), w1.out]; exact evNow _
 | p :: t, pre, n, hi, hk, hl, h0, h1, a0, a1 => by
  have hlc := len_cons pre p t; have hp : okPart p = true ∧ t.all okPart = true := by simpa using hk
  have hs := okPart_good hp.1; have hz := size_256 hs.1; have ih := last_loop qs a t (pre ++ [p]) (min (n * size (runs p)) 1073741825) (fun q hq => hi q (List.mem_cons_of_mem _ hq)) hp.2 (by rw [app_snoc]; exact hl) (by have := Int.mul_le_mul h0 hs.2 (by omega) (by omega); omega) (by omega) a0 a1; rw [app_snoc, snoc_len] at ih; have c1 : (pre.length : Int) < ((pre ++ p :: t).length : Nat) := by rw [hlc]; omega
  have c2 : (0 : Int) ≤ pre.length := by omega
  have hpl : pre.length ≤ 8 := by simp at hl; omega
  have m0 : 0 ≤ n * size (runs p) := Int.mul_nonneg (by omega) (by omega); have m1 : n * size (runs p) ≤ 1073741825 * 256 := Int.mul_le_mul h1 hz (by omega) (by omega); have w1 : Aside0 (wrap64 ((pre.length : Int) + 1) = (pre.length : Int) + 1) := Aside0.mk (w64 (by omega) (by omega)); have w2 : Aside0 (wrap64 (n * size (runs p)) = n * size (runs p)) := Aside0.mk (w64 (by omega) (by omega)); refine evSucc ?_; simp only [scheme_last.l0, if_pos c1, if_pos c2, rdL]; refine Ev.bind (size_is3 p (hi p List.mem_cons_self) hp.1) ?_; simp only [w1.out, w2.out, mn_eq]; exact ih
def lastOf (p : Sh) : Int := p.f1 + cnt (sets p.f0) - 1
theorem last_is (ps : List (List Sp)) (a : Int) (hi : In2 ps) (hk : ps.all okPart = true) (hl : ps.length ≤ 8) (a0 : 0 ≤ a) (a1 : a ≤ 1073741823) :
 Ev (fun k => scheme_last.f k ps a) (a + min (cnt (sets ps)) 1073741825 - 1) := by
 have h := last_loop ps a ps [] 1 hi.2 hk (by simpa using hl) (by omega) (by omega) a0 a1; rw [capd_is ps 1 hk (by omega) (by omega), Int.one_mul] at h; simpa [scheme_last.f] using h
def InS (ss : List Sh) : Prop := ss.length * 32 ≤ 140737488351232 ∧ ∀ p ∈ ss, In2 p.f0
def meetsB (p q : Sh) : Bool := decide (p.f1 ≤ lastOf q) && decide (q.f1 ≤ lastOf p)
def vS : List Sh → List Sh → Bool
 | _, [] => true
 | pre, p :: t => vShape p.f0 p.f1 && (!(pre.any (meetsB p)) && vS (pre ++ [p]) t)
def vScheme (ss : List Sh) : Bool := decide (ss.length ≤ 32) && vS [] ss
theorem rdSh (pre : List Sh) (p : Sh) (t : List Sh) : rd_T47 (pre ++ p :: t) (pre.length : Int) = p := by simp [rd_T47]
theorem one_mem {x y z : Int} : Mem ([(⟨x, y⟩ : Ra)].map PB4.L43) z ↔ (x ≤ z ∧ z ≤ y) := by
 show Mem [(x, y)] z ↔ _; rw [mem_cons]; exact ⟨fun h => by rcases h with h | h; exact h; exact (Mem.nil h).elim, fun h => .inl h⟩
def Taken (pre : List Sh) (x : Int) : Prop := ∃ q ∈ pre, q.f1 ≤ x ∧ x ≤ lastOf q
theorem valid_loop3 (N : Nat) (hN : N ≤ 4398046511103) : ∀ (t pre : List Sh) (tk : List Ra), (pre ++ t).length ≤ N → (∀ p ∈ t, In2 p.f0) → (∀ q ∈ pre, 0 ≤ q.f1 ∧ q.f1 ≤ lastOf q ∧ lastOf q ≤ 1073741823) → PB4.scalars_IsSet tk (Taken pre) →
 Ev (fun k => scheme_Valid.l0 k tk (pre ++ t) (((pre ++ t).length : Nat) : Int) (pre.length : Int)) (vS pre t)
 | [], pre, tk, _, _, _, _ => by
  refine evSucc ?_; simp only [scheme_Valid.l0]; rw [List.append_nil]; simp only [if_neg (show ¬ ((pre.length : Nat) : Int) < ((pre.length : Nat) : Int) by omega)]; exact evNow _
 | p :: t, pre, tk, hl, hi, hq, ht => by
  have hlc := len_cons pre p t; have hpl : pre.length ≤ N := by simp at hl; omega
  have c1 : (pre.length : Int) < ((pre ++ p :: t).length : Nat) := by rw [hlc]; omega
  have c2 : (0 : Int) ≤ pre.length := by omega
  have hw : Aside0 (wrap64 ((pre.length : Int) + 1) = (pre.length : Int) + 1) := Aside0.mk (w64 (by omega) (by omega)); have hip := hi p List.mem_cons_self; have no : vShape p.f0 p.f1 = false → vS pre (p :: t) = false := fun h => by show (vShape p.f0 p.f1 && _) = false; rw [h, Bool.false_and]
  have jT : Ev (fun k => scheme_Valid.j1 k tk (pre ++ p :: t) (((pre ++ p :: t).length : Nat) : Int) (pre.length : Int) true p.f0 p.f1) false := by
   refine evSucc ?_; simp only [scheme_Valid.j1, if_true]; exact evNow _
  refine evSucc ?_; simp only [scheme_Valid.l0, if_pos c1, if_pos c2, rdSh]; by_cases d1 : (p.f0.length : Int) < 1
  ·simp only [if_pos d1]; rw [no (by simp only [vShape, decide_eq_false (show ¬ (1 ≤ p.f0.length ∧ p.f0.length ≤ 8) by omega), Bool.false_and])]; exact jT
  by_cases d2 : (p.f0.length : Int) > 8
  ·simp only [if_neg d1, if_pos d2]; rw [no (by simp only [vShape, decide_eq_false (show ¬ (1 ≤ p.f0.length ∧ p.f0.length ≤ 8) by omega), Bool.false_and])]; exact jT
  by_cases d3 : p.f1 < 0
  ·simp only [if_neg d1, if_neg d2, if_pos d3]; rw [no (by simp only [vShape, decide_eq_false (show ¬ (0 ≤ p.f1 ∧ p.f1 ≤ 1073741823) by omega), Bool.false_and, Bool.and_false])]; exact jT
  by_cases d4 : p.f1 > 1073741823
  ·simp only [if_neg d1, if_neg d2, if_neg d3, if_pos d4]; rw [no (by simp only [vShape, decide_eq_false (show ¬ (0 ≤ p.f1 ∧ p.f1 ≤ 1073741823) by omega), Bool.false_and, Bool.and_false])]; exact jT
  simp only [if_neg d1, if_neg d2, if_neg d3, if_neg d4]; refine Ev.bind (any_is p.f0 hip) ?_; cases ha : p.f0.all okPart
  ·rw [no (by simp only [vShape, ha, Bool.false_and, Bool.and_false])]; exact jT
  have hg := good_of ha; have hc := cnt_pos hg; have hlast := last_is p.f0 p.f1 hip ha (by omega) (by omega) (by omega); refine evSucc ?_; simp only [Bool.not_true, scheme_Valid.j1, Bool.false_eq_true, if_false]; refine Ev.bind hlast ?_; simp only [Option.bind_some]; have c3 : (0 : Int) < (([(⟨p.f1, p.f1 + min (cnt (sets p.f0)) 1073741825 - 1⟩ : Ra)].length : Nat) : Int) := by simp
  simp only [if_pos c3]; have e3 : (rd_T43 [(⟨p.f1, p.f1 + min (cnt (sets p.f0)) 1073741825 - 1⟩ : Ra)] 0).f1 = p.f1 + min (cnt (sets p.f0)) 1073741825 - 1 := rfl; simp only [e3]; by_cases d5 : p.f1 + min (cnt (sets p.f0)) 1073741825 - 1 > 1073741823
  ·simp only [if_pos d5]; rw [no (by simp only [vShape, decide_eq_false (show ¬ (p.f1 + cnt (sets p.f0) - 1 ≤ 1073741823) by omega), Bool.and_false])]; exact evNow _
  have hmin : min (cnt (sets p.f0)) 1073741825 = cnt (sets p.f0) := by omega
  have hvp : vShape p.f0 p.f1 = true := by
   simp only [vShape, ha, Bool.true_and, decide_eq_true (show 1 ≤ p.f0.length ∧ p.f0.length ≤ 8 by omega), decide_eq_true (show 0 ≤ p.f1 ∧ p.f1 ≤ 1073741823 by omega), decide_eq_true (show p.f1 + cnt (sets p.f0) - 1 ≤ 1073741823 by omega)]
  simp only [hmin] at d5 ⊢; simp only [if_neg d5]; have small : tk.length * 16 ≤ 140737488351232 := by have := ht.2.1; omega
  have hvr : ValidFrom 1073741823 (-2) ([(⟨p.f1, p.f1 + cnt (sets p.f0) - 1⟩ : Ra)].map PB4.L43) := ⟨by show 0 ≤ p.f1; omega, by show p.f1 ≤ p.f1 + cnt (sets p.f0) - 1; omega, by show p.f1 + cnt (sets p.f0) - 1 ≤ 1073741823; omega, by show (-2 : Int) < p.f1 - 1; omega, trivial⟩; obtain ⟨m, m1, m2⟩ := PB4.scalars_Meet_is tk [(⟨p.f1, p.f1 + cnt (sets p.f0) - 1⟩ : Ra)] small (by simp); obtain ⟨u, u1, u2⟩ := PB4.scalars_Union_is tk [(⟨p.f1, p.f1 + cnt (sets p.f0) - 1⟩ : Ra)] small (by simp); have mm : ∀ x, Mem (m.map PB4.L43) x ↔ (Taken pre x ∧ p.f1 ≤ x ∧ x ≤ lastOf p) := fun x => by
   have h0 := m2.2.2 x; simp only [PB4.setL_of ht.1, PB4.setL_of hvr, one_mem, ht.2.2 x] at h0; exact h0
  have hmt : (m.length : Int) > 0 ↔ pre.any (meetsB p) = true := by
   constructor
   ·intro hm; cases m with
    | nil => simp at hm
    | cons r s =>
     have hr := m2.1.each (PB4.L43 r) (List.mem_cons_self); obtain ⟨⟨q, hq1, hq2, hq3⟩, h4, h5⟩ := (mm (PB4.L43 r).1).1 ⟨_, List.mem_cons_self, Int.le_refl _, hr.2.1⟩; refine List.any_eq_true.2 ⟨q, hq1, ?_⟩; simp only [meetsB, Bool.and_eq_true, decide_eq_true_eq]; omega
   ·intro hm; obtain ⟨q, hq1, hq2⟩ := List.any_eq_true.1 hm; simp only [meetsB, Bool.and_eq_true, decide_eq_true_eq] at hq2; have hqq := hq q hq1; have hpp : p.f1 ≤ lastOf p := by show p.f1 ≤ p.f1 + cnt (sets p.f0) - 1; omega
    have := (mm (max p.f1 q.f1)).2 ⟨⟨q, hq1, by omega, by omega⟩, by omega, by omega⟩; cases m with
    | nil => exact (Mem.nil this).elim
    | cons r s => simp
  refine Ev.bind m1 ?_; by_cases d6 : (m.length : Int) > 0
  ·simp only [if_pos d6]; rw [show vS pre (p :: t) = false by show (vShape p.f0 p.f1 && (!(pre.any (meetsB p)) && _)) = false; rw [hmt.1 d6]; simp]; exact evNow _
  ·simp only [if_neg d6]; rw [show vS pre (p :: t) = vS (pre ++ [p]) t by
    show (vShape p.f0 p.f1 && (!(pre.any (meetsB p)) && vS (pre ++ [p]) t)) = _; rw [hvp, show pre.any (meetsB p) = false by simpa using fun h => d6 (hmt.2 h)]; rfl]
   refine Ev.bind u1 ?_; simp only [hw.out]; have ih := valid_loop3 N hN t (pre ++ [p]) u (by rw [app_snoc]; exact hl) (fun q hq => hi q (List.mem_cons_of_mem _ hq))
    (fun q hq' => by
     rcases List.mem_append.1 hq' with h | h
     ·exact hq q h
     ·rw [List.mem_singleton.1 h]; show 0 ≤ p.f1 ∧ p.f1 ≤ p.f1 + cnt (sets p.f0) - 1 ∧ p.f1 + cnt (sets p.f0) - 1 ≤ 1073741823; omega)
    ⟨u2.1, u2.2.1, fun x => by
     have h0 := u2.2.2 x; simp only [PB4.setL_of ht.1, PB4.setL_of hvr, one_mem, ht.2.2 x] at h0; rw [h0]; constructor
     ·rintro (⟨q, h1, h2⟩ | h)
      ·exact ⟨q, List.mem_append_left _ h1, h2⟩
      ·exact ⟨p, List.mem_append_right _ (List.mem_singleton.2 rfl), h⟩
     ·rintro ⟨q, h1, h2⟩; rcases List.mem_append.1 h1 with h1 | h1
      ·exact .inl ⟨q, h1, h2⟩
      ·rw [List.mem_singleton.1 h1] at h2; exact .inr h2⟩
   rw [app_snoc, snoc_len] at ih; exact ih
theorem schemeValid_is (ss : List Sh) (h : InS ss) : Ev (fun k => scheme_Valid.f k ss) (vScheme ss) := by
 simp only [scheme_Valid.f]; by_cases c : (ss.length : Int) > 32
 ·simp only [if_pos c]; rw [show vScheme ss = false by simp only [vScheme, decide_eq_false (show ¬ ss.length ≤ 32 by omega), Bool.false_and]]; exact evNow _
 ·simp only [if_neg c]; rw [show vScheme ss = vS [] ss by simp only [vScheme, decide_eq_true (show ss.length ≤ 32 by omega), Bool.true_and]]; have := valid_loop3 32 (by omega) ss [] [] (by simp; omega) h.2 (fun q hq => by cases hq) ⟨trivial, by simp, fun x => ⟨fun h => (Mem.nil h).elim, fun ⟨q, hq, _⟩ => by cases hq⟩⟩; simpa using this
theorem shapeValid_is (ps : List (List Sp)) (a : Int) (h : In2 ps) : Ev (fun k => shape_Valid.f k ps a) (vShape ps a) := by
 simp only [shape_Valid.f]; have := schemeValid_is [⟨ps, a⟩] ⟨by simp, fun p hp => by rw [List.mem_singleton.1 hp]; exact h⟩; refine Ev.bind this ?_; rw [show vScheme [⟨ps, a⟩] = vShape ps a by show (_ && (vShape ps a && (_ && true))) = _; simp]; exact evNow _
end Go.Proofs.Ytoljcfocgaonpaa.PBS
end
section
namespace Go.Proofs.Ytoljcfocgaonpaa.PBS
open Go.RowKit Go.Proofs.YtoljcfocgaonpaaW.PrintWords Go.Proofs.YtoljcfocgaonpaaW.PrintLast Go.Proofs.YtoljcfocgaonpaaW.PrintMore Go.Proofs.Ytoljcfocgaonpaa.I Go.Proofs.LT Go.Proofs.Ytoljcfocgaonpaa.PB3
set_option linter.unusedVariables false
set_option linter.unusedSimpArgs false
theorem wf64 {x : Int} (h0 : -9223372036854775808 ≤ x) (h1 : x ≤ 9223372036854775807) : (Lit.int .i64 x).wf = true := by
 have h := wf_wrap .i64 x; rwa [show IntKind.i64.wrap x = x from by rw [IntKind.wrap_i64]; omega] at h
theorem rdL_at (ps : List (List Sp)) (i : Nat) (h : i < ps.length) : rd_L4 ps (i : Int) = ps[i] := by simp [rd_L4, List.getD, h]
theorem rd_at (l : List Int) (i : Nat) (x : Int) (h : l[i]? = some x) : rd l (i : Int) = x := by simp [rd, List.getD, h]
theorem good_part {ps : List (List Sp)} (h : ps.all okPart = true) {i : Nat} (hi : i < ps.length) : okPart ps[i] = true := List.all_eq_true.1 h _ (List.getElem_mem hi)
theorem cnt_step (ps : List (List Sp)) (i : Nat) (hi : i < ps.length) : cnt (sets (ps.drop i)) = size (runs ps[i]) * cnt (sets (ps.drop (i + 1))) := by
 rw [List.drop_eq_getElem_cons hi]; exact cnt_cons _ _
theorem SP_step (ps : List (List Sp)) (i : Nat) (hi : i < ps.length) : SP (sets (ps.drop i)) = cnt (sets (ps.drop i)) :: SP (sets (ps.drop (i + 1))) := by
 rw [cnt_step ps i hi, List.drop_eq_getElem_cons hi]; exact (by rw [← cnt_cons]; exact SP_cons _)
theorem set_mid (i : Nat) (n : Int) (t : List Int) : (List.replicate (i + 1) 0 ++ t).set i n = List.replicate i 0 ++ n :: t := by
 rw [List.replicate_succ', List.append_assoc, List.set_append, if_neg (by simp), List.length_replicate, Nat.sub_self]; rfl
theorem steps_loop (ps : List (List Sp)) (a : Int) (hI : In2 ps) (hk : ps.all okPart = true) (hl : ps.length ≤ 8) (hc : cnt (sets ps) ≤ 1073741824) : ∀ (i : Nat), i ≤ ps.length →
 Ev (fun k => shape_steps.l0 k (cnt (sets (ps.drop i))) (i : Int) (List.replicate (i + 1) 0 ++ (SP (sets (ps.drop i))).tail) ps a) (SP (sets ps))
 | 0, _ => by
  refine evSucc ?_; rw [List.drop_zero]; have c : (0 : Int) < ((List.replicate (0 + 1) (0 : Int) ++ (SP (sets ps)).tail).length : Nat) := by simp
  simp only [shape_steps.l0, if_neg (show ¬ ((0 : Nat) : Int) > 0 by omega), if_pos c]; have e : (List.replicate (0 + 1) (0 : Int) ++ (SP (sets ps)).tail).set (0 : Int).toNat (cnt (sets ps)) = SP (sets ps) := by
   rw [show (0 : Int).toNat = 0 from rfl, set_mid 0, ← SP_cons]; first | done | rfl
  rw [e]; exact evNow _
 | i + 1, hi => by
  have ih := steps_loop ps a hI hk hl hc i (by omega); have hg := good_of hk; have hp := good_part hk (show i < ps.length by omega); have hs := okPart_good hp; have hz := size_256 hs.1; have hd := cnt_drop i hg; rw [sets_drop, cnt_step ps i (by omega)] at hd; have h1 : 1 ≤ cnt (sets (ps.drop (i + 1))) := by have := cnt_pos (hg.drop (i + 1)); rwa [sets_drop] at this
  have e1 : cnt (sets (ps.drop (i + 1))) * size (runs ps[i]) = cnt (sets (ps.drop i)) := by rw [cnt_step ps i (by omega), Int.mul_comm]
  have hpos : 0 ≤ size (runs ps[i]) * cnt (sets (ps.drop (i + 1))) := Int.mul_nonneg (by omega) (by omega); have hw : Aside0 (wrap64 (cnt (sets (ps.drop (i + 1))) * size (runs ps[i])) = cnt (sets (ps.drop i))) := Aside0.mk (by rw [w64 (by rw [Int.mul_comm]; omega) (by rw [Int.mul_comm]; omega), e1]); have hw2 : Aside0 (wrap64 (((i + 1 : Nat) : Int) - 1) = (i : Int)) := Aside0.mk (by rw [w64 (by omega) (by omega)]; omega); have hlen : ((List.replicate (i + 1 + 1) (0 : Int) ++ (SP (sets (ps.drop (i + 1)))).tail).length : Nat) = ps.length + 1 := by
   simp [SP_len, sets_len]; omega
  have c1 : ((i + 1 : Nat) : Int) < ((List.replicate (i + 1 + 1) (0 : Int) ++ (SP (sets (ps.drop (i + 1)))).tail).length : Nat) := by rw [hlen]; omega
  refine evSucc ?_; simp only [shape_steps.l0, if_pos (show ((i + 1 : Nat) : Int) > 0 by omega), if_pos (show (0 : Int) ≤ ((i + 1 : Nat) : Int) by omega), if_pos c1, hw2.out, if_pos (show (0 : Int) ≤ (i : Int) by omega), if_pos (show (i : Int) < (ps.length : Int) by omega), rdL_at ps i (by omega)]; refine Ev.bind (size_is3 _ (hI.2 _ (List.getElem_mem _)) hp) ?_; simp only [hw.out]; have e2 : (List.replicate (i + 1 + 1) (0 : Int) ++ (SP (sets (ps.drop (i + 1)))).tail).set (((i + 1 : Nat) : Int)).toNat (cnt (sets (ps.drop (i + 1)))) = List.replicate (i + 1) 0 ++ (SP (sets (ps.drop i))).tail := by
   rw [Int.toNat_natCast, set_mid (i + 1), ← SP_cons, SP_step ps i (by omega)]; rfl
  rw [e2]; exact ih
theorem steps_is {ps : List (List Sp)} {a : Int} (hI : In2 ps) (hv : vShape ps a = true) : Ev (fun k => shape_steps.f k ps a) (SP (sets ps)) := by
 obtain ⟨⟨l1, l2⟩, ⟨a1, a2⟩, hk, hg, hc⟩ := vShape_good hv; have h := steps_loop ps a hI hk l2 (by omega) ps.length (Nat.le_refl _); rw [List.drop_length] at h; have hw : Aside0 (wrap64 ((ps.length : Int) + 1) = ((ps.length + 1 : Nat) : Int)) := Aside0.mk (by rw [w64 (by omega) (by omega)]; simp); simp only [shape_steps.f, hw.out, if_pos (show (0 : Int) ≤ ((ps.length + 1 : Nat) : Int) by omega), Int.toNat_natCast, if_pos (show ps.length + 1 ≤ 35184372088832 by omega)]; simpa [sets, SP, cnt_nil] using h
theorem Count_is (ps : List (List Sp)) (a : Int) (hI : In2 ps) : Ev (fun k => shape_Count.f k ps a) (if vShape ps a = true then cnt (sets ps) else 0) := by
 simp only [shape_Count.f]; refine Ev.bind (shapeValid_is ps a hI) ?_; cases hv : vShape ps a
 ·simp only [Bool.false_eq_true, if_false]; exact evNow _
 ·simp only [if_true]; refine Ev.bind (steps_is hI hv) ?_; rw [if_pos (show (0 : Int) < ((SP (sets ps)).length : Nat) by rw [SP_len]; omega), show rd (SP (sets ps)) 0 = cnt (sets ps) by rw [SP_cons]; rfl]; exact evNow _
theorem select_at (p : List Sp) (d : Int) (hi : In1 p) (hk : okPart p = true) (h0 : 0 ≤ d) (h1 : d < size (runs p)) : Ev (fun k => spans_Select.f k p d) (selV (runs p) d, true) := by
 have hs := okPart_good hk; have hz := size_256 hs.1; obtain ⟨r, r1, r2⟩ := spans_Select_is p d (wf64 (by omega) (by omega)) hi; rw [show p.map L34 = runs p from rfl, setL_of hs.1] at r2; have hS := selV_spec hs.1 h0 h1; obtain rfl := Sel.uniq hs.1 r2 (.inl ⟨_, hS.1, hS.2, rfl⟩); exact r1
theorem tail_at (ps : List (List Sp)) (i : Nat) (hi : i < ps.length) : (SP (sets ps)).tail[i]? = some (cnt (sets (ps.drop (i + 1)))) := by
 have := SP_at (sets ps) (i + 1) (by rw [sets_len]; omega); rw [sets_drop] at this; rw [← this, List.getElem?_tail]
theorem unrank_loop (ps : List (List Sp)) (a : Int) (hI : In2 ps) (hk : ps.all okPart = true) (hl : ps.length ≤ 8) (hc : cnt (sets ps) ≤ 1073741824) : ∀ (n i : Nat) (kk : Int) (out : List Int), i + n = ps.length → out.length ≤ i → 0 ≤ kk → kk < cnt (sets (ps.drop i)) →
 Ev (fun k => shape_Unrank.l0 k kk out (SP (sets ps)).tail ((SP (sets ps)).tail.length : Int) (i : Int) ps a) (out ++ unr (sets (ps.drop i)) kk, true)
 | 0, i, kk, out, hi, _, _, _ => by
  refine evSucc ?_; have hlen : (SP (sets ps)).tail.length = ps.length := by rw [List.length_tail, SP_len, sets_len]; rfl
  simp only [shape_Unrank.l0, hlen, if_neg (show ¬ (i : Int) < ((ps.length : Nat) : Int) by omega)]; rw [List.drop_of_length_le (by omega), show unr (sets []) kk = [] from unr_nil _, List.append_nil]; exact evNow _
 | n + 1, i, kk, out, hi, ho, h0, h1 => by
  have hlen : (SP (sets ps)).tail.length = ps.length := by rw [List.length_tail, SP_len, sets_len]; rfl
  have hil : i < ps.length := by omega
  have hg := good_of hk; have hp := good_part hk hil; have hs := okPart_good hp; have hpos : 1 ≤ cnt (sets (ps.drop (i + 1))) := by have := cnt_pos (hg.drop (i + 1)); rwa [sets_drop] at this
  rw [cnt_step ps i hil] at h1; obtain ⟨d0, d1, d2, d3⟩ := digit hpos h0 h1; have hz := size_256 hs.1; have ih := unrank_loop ps a hI hk hl hc n (i + 1) (kk % cnt (sets (ps.drop (i + 1)))) (out ++ [selV (runs ps[i]) (kk / cnt (sets (ps.drop (i + 1))))]) (by omega) (by simp; omega) d2 d3; have hr := hs.1.range (selV_spec hs.1 d0 d1).1; have r1 := rd_at _ i _ (tail_at ps i hil); have t1 : Int.tdiv kk (cnt (sets (ps.drop (i + 1)))) = kk / cnt (sets (ps.drop (i + 1))) := Int.tdiv_eq_ediv_of_nonneg h0; have t2 : Int.tmod kk (cnt (sets (ps.drop (i + 1)))) = kk % cnt (sets (ps.drop (i + 1))) := Int.tmod_eq_emod_of_nonneg h0; have hw : Aside0 (wrap64 (kk / cnt (sets (ps.drop (i + 1)))) = kk / cnt (sets (ps.drop (i + 1)))) := Aside0.mk (w64 (by omega) (by omega)); have hw2 : Aside0 (wrap64 ((i : Int) + 1) = ((i + 1 : Nat) : Int)) := Aside0.mk (by rw [w64 (by omega) (by omega)]; simp); have hm : selV (runs ps[i]) (kk / cnt (sets (ps.drop (i + 1)))) % 256 = selV (runs ps[i]) (kk / cnt (sets (ps.drop (i + 1)))) := Int.emod_eq_of_lt hr.1 (by omega); refine evSucc ?_; simp only [shape_Unrank.l0, hlen, if_pos (show (i : Int) < ((ps.length : Nat) : Int) by omega), if_pos (show (0 : Int) ≤ (i : Int) by omega), r1, if_neg (show ¬ cnt (sets (ps.drop (i + 1))) = 0 by omega), rdL_at ps i hil, t1, t2, hw.out]; refine Ev.bind (select_at _ _ (hI.2 _ (List.getElem_mem _)) hp d0 d1) ?_; simp only [if_pos (show out.length < 140737488355328 by omega), hw2.out, hm]; have e : unr (sets (ps.drop i)) kk = selV (runs ps[i]) (kk / cnt (sets (ps.drop (i + 1)))) :: unr (sets (ps.drop (i + 1))) (kk % cnt (sets (ps.drop (i + 1)))) := by
   rw [List.drop_eq_getElem_cons hil]; exact unr_cons _ _ _
  rw [e]; rw [hlen, List.append_assoc] at ih; exact ih
theorem Unrank_no (ps : List (List Sp)) (a kk : Int) (hI : In2 ps) (h : ¬ (0 ≤ kk ∧ kk < (if vShape ps a = true then cnt (sets ps) else 0))) : Ev (fun k => shape_Unrank.f k ps a kk) ([], false) := by
 have j : Ev (fun k => shape_Unrank.j0 k kk true ps a) ([], false) := by
  refine evSucc ?_; simp only [shape_Unrank.j0, if_true]; exact evNow _
 simp only [shape_Unrank.f]; by_cases c : kk < 0
 ·simp only [if_pos c]; exact j
 ·simp only [if_neg c]; refine Ev.bind (Count_is ps a hI) ?_; rw [decide_eq_true (show kk ≥ (if vShape ps a = true then cnt (sets ps) else 0) by omega)]; exact j
theorem Unrank_yes {ps : List (List Sp)} {a kk : Int} (hI : In2 ps) (hv : vShape ps a = true) (h0 : 0 ≤ kk) (h1 : kk < cnt (sets ps)) : Ev (fun k => shape_Unrank.f k ps a kk) (unr (sets ps) kk, true) := by
 obtain ⟨⟨l1, l2⟩, ⟨a1, a2⟩, hk, hg, hc⟩ := vShape_good hv; simp only [shape_Unrank.f, if_neg (show ¬ kk < 0 by omega)]; have hC := Count_is ps a hI; rw [if_pos hv] at hC; refine Ev.bind hC ?_; rw [decide_eq_false (show ¬ kk ≥ cnt (sets ps) by omega)]; refine evSucc ?_; simp only [shape_Unrank.j0, Bool.false_eq_true, if_false]; refine Ev.bind (steps_is hI hv) ?_; simp only [if_pos (show (1 : Int) ≤ ((SP (sets ps)).length : Nat) by rw [SP_len]; omega)]; simp only [Option.bind_some, show (1 : Int).toNat = 1 from rfl, List.drop_one]; have := unrank_loop ps a hI hk l2 (by omega) ps.length 0 kk [] (by omega) (by simp) h0 (by rw [List.drop_zero]; exact h1); rw [List.drop_zero, List.nil_append] at this; exact this
def rkR : Option Int → Int × Bool
 | some r => (r, true)
 | none => (0, false)
theorem rank_loop3 (ps : List (List Sp)) (a : Int) (bs : List Int) (hb : ∀ b ∈ bs, 0 ≤ b ∧ b ≤ 255) (hbl : bs.length = ps.length) (hI : In2 ps) (hk : ps.all okPart = true) (hl : ps.length ≤ 8) (hc : cnt (sets ps) ≤ 1073741824) : ∀ (n i : Nat) (acc : Int), i + n = ps.length → 0 ≤ acc → acc + cnt (sets (ps.drop i)) ≤ 1073741824 →
 Ev (fun k => shape_Rank.l0 k bs acc (SP (sets ps)).tail ((SP (sets ps)).tail.length : Int) (i : Int) ps a) (rkR ((rnk (sets (ps.drop i)) (bs.drop i)).map (acc + ·)))
 | 0, i, acc, hi, _, _ => by
  refine evSucc ?_; have hlen : (SP (sets ps)).tail.length = ps.length := by rw [List.length_tail, SP_len, sets_len]; rfl
  simp only [shape_Rank.l0, hlen, if_neg (show ¬ (i : Int) < ((ps.length : Nat) : Int) by omega)]; rw [List.drop_of_length_le (show ps.length ≤ i by omega), List.drop_of_length_le (show bs.length ≤ i by omega), show rnk (sets []) [] = some 0 from rnk_nil]; simpa [rkR] using evNow (acc, true)
 | n + 1, i, acc, hi, h0, h1 => by
  have hlen : (SP (sets ps)).tail.length = ps.length := by rw [List.length_tail, SP_len, sets_len]; rfl
  have hil : i < ps.length := by omega
  have hbi : i < bs.length := by omega
  have hg := good_of hk; have hp := good_part hk hil; have hs := okPart_good hp; have hz := size_256 hs.1; have hpos : 1 ≤ cnt (sets (ps.drop (i + 1))) := by have := cnt_pos (hg.drop (i + 1)); rwa [sets_drop] at this
  have hbb := hb _ (List.getElem_mem hbi); rw [cnt_step ps i hil] at h1; have r1 := rd_at _ i _ (tail_at ps i hil); have r2 := rd_at bs i _ (List.getElem?_eq_getElem hbi); have hw : Aside0 (wrap64 (bs[i]) = bs[i]) := Aside0.mk (w64 (by omega) (by omega)); have hw2 : Aside0 (wrap64 ((i : Int) + 1) = ((i + 1 : Nat) : Int)) := Aside0.mk (by rw [w64 (by omega) (by omega)]; simp); have hR := spans_Rank_is ps[i] bs[i] (wf64 (by omega) (by omega)) (hI.2 _ (List.getElem_mem _)); rw [show ps[i].map L34 = runs ps[i] from rfl, setL_of hs.1] at hR; have e : rnk (sets (ps.drop i)) (bs.drop i) = if memB (runs ps[i]) bs[i] = true then (rnk (sets (ps.drop (i + 1))) (bs.drop (i + 1))).map (fun r => (cd (memB (runs ps[i])) bs[i].toNat : Int) * cnt (sets (ps.drop (i + 1))) + r) else none := by
   rw [List.drop_eq_getElem_cons hil, List.drop_eq_getElem_cons hbi]; exact rnk_cons _ _ _ _
  refine evSucc ?_; simp only [shape_Rank.l0, hlen, if_pos (show (i : Int) < ((ps.length : Nat) : Int) by omega), if_pos (show (0 : Int) ≤ (i : Int) by omega), if_pos (show (i : Int) < ((bs.length : Nat) : Int) by omega), r1, r2, rdL_at ps i hil, hw.out]; refine Ev.bind hR ?_; by_cases hm : memB (runs ps[i]) bs[i] = true
  ·rw [e, if_pos hm]; simp only [rankL, if_pos hm, if_true]; have hd := cd_less hs.1 (memB_iff.1 hm); have m0 : 0 ≤ (cd (memB (runs ps[i])) bs[i].toNat : Int) * cnt (sets (ps.drop (i + 1))) := Int.mul_nonneg (by omega) (by omega); have m1 := Int.mul_le_mul_of_nonneg_right (show (cd (memB (runs ps[i])) bs[i].toNat : Int) + 1 ≤ size (runs ps[i]) by omega) (show 0 ≤ cnt (sets (ps.drop (i + 1))) by omega); rw [Int.add_mul, Int.one_mul] at m1; have w1 : Aside0 (wrap64 (acc + wrap64 ((cd (memB (runs ps[i])) bs[i].toNat : Int) * cnt (sets (ps.drop (i + 1))))) = acc + (cd (memB (runs ps[i])) bs[i].toNat : Int) * cnt (sets (ps.drop (i + 1)))) := Aside0.mk (by
    rw [w64 (x := (cd (memB (runs ps[i])) bs[i].toNat : Int) * cnt (sets (ps.drop (i + 1)))) (by omega) (by omega), w64 (by omega) (by omega)])
   simp only [w1.out, hw2.out]; have ih := rank_loop3 ps a bs hb hbl hI hk hl hc n (i + 1) (acc + (cd (memB (runs ps[i])) bs[i].toNat : Int) * cnt (sets (ps.drop (i + 1)))) (by omega) (by omega) (by omega); rw [hlen] at ih; have e3 : ((rnk (sets (ps.drop (i + 1))) (bs.drop (i + 1))).map (fun r => (cd (memB (runs ps[i])) bs[i].toNat : Int) * cnt (sets (ps.drop (i + 1))) + r)).map (acc + ·) = (rnk (sets (ps.drop (i + 1))) (bs.drop (i + 1))).map (acc + (cd (memB (runs ps[i])) bs[i].toNat : Int) * cnt (sets (ps.drop (i + 1))) + ·) := by
    cases rnk (sets (ps.drop (i + 1))) (bs.drop (i + 1)) with
    | none => rfl
    | some r => simp [Int.add_assoc]
   rw [e3]; exact ih
  ·rw [e, if_neg hm]; simp only [rankL, if_neg hm, Bool.false_eq_true, if_false]; exact evNow _
def rkS (ps : List (List Sp)) (a : Int) (bs : List Int) : Int × Bool := if vShape ps a = true then rkR (rnk (sets ps) bs) else (0, false)
theorem Rank_is (ps : List (List Sp)) (a : Int) (bs : List Int) (hI : In2 ps) (hb : ∀ b ∈ bs, 0 ≤ b ∧ b ≤ 255) : Ev (fun k => shape_Rank.f k ps a bs) (rkS ps a bs) := by
 have jT : Ev (fun k => shape_Rank.j0 k bs true ps a) (0, false) := by
  refine evSucc ?_; simp only [shape_Rank.j0, if_true]; exact evNow _
 simp only [shape_Rank.f]; refine Ev.bind (shapeValid_is ps a hI) ?_; unfold rkS; cases hv : vShape ps a
 ·simp only [Bool.false_eq_true, if_false]; exact jT
 ·simp only [if_true]; obtain ⟨⟨l1, l2⟩, ⟨a1, a2⟩, hk, hg, hc⟩ := vShape_good hv; by_cases c : bs.length = ps.length
  ·rw [show ((bs.length : Int) != (ps.length : Int)) = false by simp [c]]; refine evSucc ?_; simp only [shape_Rank.j0, Bool.false_eq_true, if_false]; refine Ev.bind (steps_is hI hv) ?_; simp only [if_pos (show (1 : Int) ≤ ((SP (sets ps)).length : Nat) by rw [SP_len]; omega)]; simp only [Option.bind_some, show (1 : Int).toNat = 1 from rfl, List.drop_one]; have := rank_loop3 ps a bs hb c hI hk l2 (by omega) ps.length 0 0 (by omega) (by omega) (by rw [List.drop_zero]; omega); rw [List.drop_zero, List.drop_zero] at this; have e : (rnk (sets ps) bs).map ((0 : Int) + ·) = rnk (sets ps) bs := by cases rnk (sets ps) bs <;> simp
   rw [e] at this; exact this
  ·rw [show ((bs.length : Int) != (ps.length : Int)) = true by simp; omega]; have e : rnk (sets ps) bs = none := by
    cases hr : rnk (sets ps) bs with
    | none => rfl
    | some r => exact (c (by have := rnk_len hr; rwa [sets_len] at this)).elim
   rw [e]; exact jT
end Go.Proofs.Ytoljcfocgaonpaa.PBS
end
section
namespace Go.Proofs.Ytoljcfocgaonpaa.PBS
open Go.RowKit Go.Proofs.YtoljcfocgaonpaaW.PrintWords Go.Proofs.YtoljcfocgaonpaaW.PrintLast Go.Proofs.YtoljcfocgaonpaaW.PrintMore Go.Proofs.Ytoljcfocgaonpaa.I Go.Proofs.LT Go.Proofs.Ytoljcfocgaonpaa.PB3
set_option linter.unusedVariables false
set_option linter.unusedSimpArgs false
def s09a : List Sp := [⟨129, 130⟩]
def s09b : List Sp := [⟨64, 65⟩, ⟨128, 128⟩]
def two09 : List (List Sp) := [s09a, s09b]
theorem va09 : ValidFrom 255 (-2) (runs s09a) := ⟨by decide, by decide, by decide, by decide, trivial⟩
theorem vb09 : ValidFrom 255 (-2) (runs s09b) := ⟨by decide, by decide, by decide, by decide, ⟨by decide, by decide, by decide, by decide, trivial⟩⟩
theorem za09 : size (runs s09a) = 2 := by show size [((129 : Int), (130 : Int))] = 2; rw [size_cons, size_nil]; rfl
theorem zb09 : size (runs s09b) = 3 := by show size [((64 : Int), (65 : Int)), (128, 128)] = 3; rw [size_cons, size_cons, size_nil]; rfl
theorem cb09 : cnt (sets [s09b]) = 3 := by show cnt [runs s09b] = 3; rw [cnt_cons, zb09, cnt_nil]; rfl
theorem c09 : cnt (sets two09) = 6 := by show cnt (runs s09a :: sets [s09b]) = 6; rw [cnt_cons, za09, cb09]; rfl
theorem v09 : vShape two09 1000 = true := by
 have ha : okPart s09a = true := by simp only [okPart, (validB_iff _ _ _).2 va09]; rfl
 have hb : okPart s09b = true := by simp only [okPart, (validB_iff _ _ _).2 vb09]; rfl
 unfold vShape; rw [c09]; simp [two09, ha, hb]
theorem in09 : In2 two09 := ⟨by decide, fun p hp => by
 rcases List.mem_cons.1 hp with rfl | hp
 ·show s09a.length * 16 ≤ 140737488351232; decide
 ·rw [List.mem_singleton.1 hp]; show s09b.length * 16 ≤ 140737488351232; decide⟩
theorem ca09 : (cd (memB (runs s09a)) (130 : Int).toNat : Int) = 1 := by
 have := cd_in_first (r := ((129 : Int), (130 : Int))) (t := []) va09 (x := 130) (by decide) (by decide); exact this
theorem cb1_09 : (cd (memB (runs s09b)) (65 : Int).toNat : Int) = 1 := by
 have := cd_in_first (r := ((64 : Int), (65 : Int))) (t := [(128, 128)]) vb09 (x := 65) (by decide) (by decide); exact this
theorem cb2_09 : (cd (memB (runs s09b)) (128 : Int).toNat : Int) = 2 := by
 have := cd_past_first (r := ((64 : Int), (65 : Int))) (t := [(128, 128)]) vb09 (x := 128) (by decide); have h2 := cd_in_first (r := ((128 : Int), (128 : Int))) (t := []) (top := 255) (last := 65) ⟨by decide, by decide, by decide, by decide, trivial⟩ (x := 128) (by decide) (by decide); rw [h2] at this; exact this
theorem ma09 : Mem (runs s09a) 130 := ⟨(129, 130), List.mem_cons_self, by decide, by decide⟩
theorem mb1_09 : Mem (runs s09b) 65 := ⟨(64, 65), List.mem_cons_self, by decide, by decide⟩
theorem mb2_09 : Mem (runs s09b) 128 := ⟨(128, 128), List.mem_cons_of_mem _ List.mem_cons_self, by decide, by decide⟩
theorem rk09 : rnk (sets two09) [130, 65] = some 4 := by
 show rnk (runs s09a :: [runs s09b]) [130, 65] = some 4; rw [rnk_cons, if_pos (memB_iff.2 ma09), rnk_cons, if_pos (memB_iff.2 mb1_09), rnk_nil]; simp only [Option.map_some, ca09, cb1_09, cnt_nil, show cnt [runs s09b] = 3 from cb09]; rfl
theorem un09 : unr (sets two09) 5 = [130, 128] := by
 show unr (runs s09a :: [runs s09b]) 5 = _; have h1 := selV_rank va09 ma09; have h2 := selV_rank vb09 mb2_09; rw [ca09] at h1; rw [cb2_09] at h2; rw [unr_cons, unr_cons, unr_nil, show cnt [runs s09b] = 3 from cb09, cnt_nil, show (5 : Int) / 3 = 1 from rfl, show (5 : Int) % 3 / 1 = 2 from rfl, h1, h2]
theorem fixed09 : Ev (fun k => leadtraillaw09_fixed.f k) true := by
 have hR := Rank_is two09 1000 [130, 65] in09 (by decide); rw [show rkS two09 1000 [130, 65] = (4, true) by unfold rkS; rw [if_pos v09, rk09]; rfl] at hR; have hU := Unrank_yes (kk := 5) in09 v09 (by omega) (by rw [c09]; omega); rw [un09] at hU; have hC := Count_is two09 1000 in09; rw [if_pos v09, c09] at hC; simp only [leadtraillaw09_fixed.f, leadtraillaw09_two.f, Option.bind_some]; refine Ev.bind hR (Ev.bind hU (Ev.bind hC ?_)); have e : ((strOfNums [130, 128]).toList == ([130, 128] : List UInt8)) = true := by rw [Lib.strOfNums_toList]; decide
 simp only [if_true, e]; exact evNow _
end Go.Proofs.Ytoljcfocgaonpaa.PBS
end
section
namespace Go.Proofs.Ytoljcfocgaonpaa.PB3
open Go.RowKit Go.Proofs.YtoljcfocgaonpaaW.PrintWords Go.Proofs.YtoljcfocgaonpaaW.PrintLast Go.Proofs.YtoljcfocgaonpaaW.PrintMore Go.Proofs.Ytoljcfocgaonpaa.I Go.Proofs.LT
set_option linter.unusedVariables false
set_option linter.unusedSimpArgs false
theorem refValid_loop (N : Nat) (hN : N ≤ 8796093022206) : ∀ (t q : List S34) (p : S34), (q ++ p :: t).length ≤ N → p.f1 ≤ 255 → 0 ≤ p.f1 → Ev (fun k => leadtrailref03_Valid.l0 k (q ++ p :: t) ((q.length : Int) + 1)) (validB 255 p.f1 (t.map L34))
 | [], q, p, _, _, _ => by
  refine evSucc ?_; have hlc := len_cons q p []; have c1 : ¬ (q.length : Int) + 1 < ((q ++ [p]).length : Nat) := by rw [hlc]; simp
  simp only [leadtrailref03_Valid.l0, if_neg c1]; rw [show validB 255 p.f1 (([] : List S34).map L34) = true from validB_nil _ _]; exact evNow _
 | r :: t, q, p, hl, hp, hp0 => by
  have hlc := len_cons q p (r :: t); have e1 : q ++ p :: r :: t = (q ++ [p]) ++ r :: t := by simp
  have e2 : ((q.length : Int) + 1) = ((q ++ [p]).length : Nat) := by simp
  have rr : rd_T34 (q ++ p :: r :: t) ((q.length : Int) + 1) = r := by rw [e1, e2]; exact rd34 _ _ _
  have rp : rd_T34 (q ++ p :: r :: t) (q.length : Int) = p := rd34 _ _ _; have hq : q.length ≤ N := by simp at hl; omega
  have c1 : (q.length : Int) + 1 < ((q ++ p :: r :: t).length : Nat) := by rw [hlc]; simp; omega
  have c2 : (0 : Int) ≤ (q.length : Int) + 1 := by omega
  have c3 : (q.length : Int) + 1 > 0 := by omega
  have c4 : (0 : Int) ≤ (q.length : Int) := by omega
  have c5 : (q.length : Int) < ((q ++ p :: r :: t).length : Nat) := by omega
  have hw1 : Aside0 (wrap64 ((q.length : Int) + 1 - 1) = (q.length : Int)) := Aside0.mk (by rw [w64 (by omega) (by omega)]; omega); have hw2 : Aside0 (wrap64 ((q.length : Int) + 1 + 1) = (q.length : Int) + 1 + 1) := Aside0.mk (w64 (by omega) (by omega)); have hw3 : Aside0 (wrap64 (p.f1 + 1) = p.f1 + 1) := Aside0.mk (w64 (by omega) (by omega)); refine evSucc ?_; simp only [leadtrailref03_Valid.l0, if_pos c1, if_pos c2, if_pos c3, rr, hw1.out, hw2.out, hw3.out, if_pos c4, if_pos c5, rp, List.map_cons, validB_cons]; show Ev _ (if r.f0 < 0 then false else if r.f0 > r.f1 then false else if r.f1 > 255 then false else if r.f0 - 1 ≤ p.f1 then false else validB 255 r.f1 (t.map L34)); by_cases d1 : r.f0 < 0
  ·simp only [if_pos d1]; exact evNow _
  by_cases d2 : r.f0 > r.f1
  ·simp only [if_neg d1, if_pos d2]; exact evNow _
  by_cases d3 : r.f1 > 255
  ·simp only [if_neg d1, if_neg d2, if_pos d3]; exact evNow _
  by_cases d4 : r.f0 ≤ p.f1 + 1
  ·simp only [if_neg d1, if_neg d2, if_neg d3, if_pos d4, if_pos (show r.f0 - 1 ≤ p.f1 by omega)]; exact evNow _
  ·have ih := refValid_loop N hN t (q ++ [p]) r (by rw [← e1]; exact hl) (by omega) (by omega); rw [← e1, ← e2] at ih; simp only [if_neg d1, if_neg d2, if_neg d3, if_neg d4, if_neg (show ¬ r.f0 - 1 ≤ p.f1 by omega)]; exact ih
theorem refValid_is (l : List S34) (hl : l.length * 16 ≤ 140737488351232) : Ev (fun k => leadtrailref03_Valid.f k l) (validB 255 (-2) (l.map L34)) := by
 simp only [leadtrailref03_Valid.f]; cases l with
 | nil =>
  refine evSucc ?_; simp only [leadtrailref03_Valid.l0, List.length_nil, if_neg (show ¬ (0 : Int) < ((0 : Nat) : Int) by omega), List.map_nil, validB_nil]; exact evNow _
 | cons r t =>
  have c1 : (0 : Int) < (((r :: t).length : Nat) : Int) := by rw [List.length_cons]; omega
  have r1 : rd_T34 (r :: t) 0 = r := rfl; have hw : Aside0 (wrap64 ((0 : Int) + 1) = 1) := Aside0.mk (by rw [w64 (by omega) (by omega)]; rfl); refine evSucc ?_; simp only [leadtrailref03_Valid.l0, if_pos c1, if_pos (show (0 : Int) ≤ 0 by omega), r1, if_neg (show ¬ (0 : Int) > 0 by omega), hw.out, List.map_cons, validB_cons]; show Ev _ (if r.f0 < 0 then false else if r.f0 > r.f1 then false else if r.f1 > 255 then false else if r.f0 - 1 ≤ -2 then false else validB 255 r.f1 (t.map L34)); by_cases d1 : r.f0 < 0
  ·simp only [if_pos d1]; exact evNow _
  by_cases d2 : r.f0 > r.f1
  ·simp only [if_neg d1, if_pos d2]; exact evNow _
  by_cases d3 : r.f1 > 255
  ·simp only [if_neg d1, if_neg d2, if_pos d3]; exact evNow _
  simp only [if_neg d1, if_neg d2, if_neg d3, if_neg (show ¬ r.f0 - 1 ≤ -2 by omega)]; exact refValid_loop (r :: t).length (by omega) t [] r (by simp) (by omega) (by omega)
theorem memb_is (l : List S34) (hl : l.length * 16 ≤ 140737488351232) : ∃ p, Ev (fun k => leadtrailref03_memb k l) p ∧ ∀ i : Nat, p i = memB (setL 255 (l.map L34)) i := by
 have h := refValid_is l hl; by_cases d : validB 255 (-2) (l.map L34) = true
 ·have hv := (validB_iff _ _ _).1 d; have hall : l.all okPiece = true := List.all_eq_true.2 fun r hr => by
   have := hv.each (L34 r) (List.mem_map.2 ⟨r, hr, rfl⟩); have e : (L34 r).1 = r.f0 ∧ (L34 r).2 = r.f1 := ⟨rfl, rfl⟩; rw [e.1, e.2] at this; simp [okPiece]; omega
  refine ⟨membersB true l, Ev.bind h ?_, fun i => ?_⟩
  ·simp only [if_pos (show l.length ≤ 8796093022207 by omega), if_pos d, if_pos hall]; exact evNow _
  ·rw [setL_of hv, Bool.eq_iff_iff, memB_iff]; simp only [membersB, hasAny, pieceHas, Bool.true_and, List.any_eq_true, Bool.and_eq_true, decide_eq_true_iff]; exact ⟨fun ⟨r, hr, h1, h2⟩ => ⟨L34 r, List.mem_map.2 ⟨r, hr, rfl⟩, h1, h2⟩, fun ⟨q, hq, h1, h2⟩ => by
    obtain ⟨r, hr, rfl⟩ := List.mem_map.1 hq; exact ⟨r, hr, h1, h2⟩⟩
 ·refine ⟨membersB false l, Ev.bind h ?_, fun i => ?_⟩
  ·simp only [if_pos (show l.length ≤ 8796093022207 by omega), if_neg d]; exact evNow _
  ·have e : setL 255 (l.map L34) = [] := by unfold setL; rw [if_neg d]
   rw [e]; have : memB [] (i : Int) = false := by
    cases hm : memB [] (i : Int)
    ·rfl
    ·exact (Mem.nil (memB_iff.1 hm)).elim
   rw [this]; simp [membersB]
theorem cnt_cd {p : Nat → Bool} {s : List Run} (h : ∀ i : Nat, p i = memB s i) : ∀ n, cntB p n = cd (memB s) n
 | 0 => (cd_zero _).symm
 | n + 1 => by rw [cd_succ, ← cnt_cd h n, ← h n]; rfl
theorem refSize_is (l : List S34) (hl : l.length * 16 ≤ 140737488351232) : Ev (fun k => leadtrailref03_Size.f k l) (size (setL 255 (l.map L34))) := by
 obtain ⟨p, h1, h2⟩ := memb_is l hl; refine Ev.bind h1 ?_; rw [cnt_cd h2 256, cd_size (n := 256) (setL_valid 255 (l.map L34)) (by omega)]; exact evNow _
theorem sel_is {p : Nat → Bool} {s : List Run} (hv : ValidFrom 255 (-2) s) (h : ∀ i : Nat, p i = memB s i) (k : Int) : ∀ f x : Nat, f + x = 256 → (∀ y, y < x → ¬ (p y = true ∧ (cntB p y : Int) = k)) → Sel s k (selB p k f x)
 | 0, x, hx, hn => by
  refine .inr ⟨?_, rfl⟩; by_cases c : k < 0
  ·exact .inl c
  ·refine .inr (Int.not_lt.1 fun hlt => ?_); have hz := cd_size (n := 256) hv (by omega); obtain ⟨m, m1, m2, m3⟩ := cd_exists (memB s) (n := 256) (k := k.toNat) (by omega); exact hn m (by omega) ⟨by rw [h m]; exact m2, by rw [cnt_cd h, m3]; omega⟩
 | f + 1, x, hx, hn => by
  unfold selB; by_cases d : p x = true ∧ (cntB p x : Int) = k
  ·rw [if_pos d]; refine .inl ⟨(x : Int), memB_iff.1 (by rw [← h x]; exact d.1), ?_, rfl⟩; rw [Int.toNat_natCast, ← cnt_cd h]; exact d.2
  ·rw [if_neg d]; refine sel_is hv h k f (x + 1) (by omega) fun y hy => ?_
   by_cases e : y = x
   ·rw [e]; exact d
   ·exact hn y (by omega)
theorem refSelect_is (l : List S34) (kk : Int) (hl : l.length * 16 ≤ 140737488351232) : ∃ r, Ev (fun k => leadtrailref03_Select.f k l kk) r ∧ Sel (setL 255 (l.map L34)) kk r := by
 obtain ⟨p, h1, h2⟩ := memb_is l hl; exact ⟨_, Ev.bind h1 (evNow _), sel_is (setL_valid _ _) h2 kk 256 0 rfl fun y hy => by omega⟩
end Go.Proofs.Ytoljcfocgaonpaa.PB3
end
section
namespace Go.Proofs.Ytoljcfocgaonpaa.PBS
open Go.RowKit Go.Proofs.YtoljcfocgaonpaaW.PrintWords Go.Proofs.YtoljcfocgaonpaaW.PrintLast Go.Proofs.YtoljcfocgaonpaaW.PrintMore Go.Proofs.Ytoljcfocgaonpaa.I Go.Proofs.LT Go.Proofs.Ytoljcfocgaonpaa.PB3
set_option linter.unusedVariables false
set_option linter.unusedSimpArgs false
theorem copy_loop (ps : List (List Sp)) (a : Int) (hI : In2 ps) : ∀ (n i : Nat), i + n = ps.length → Ev (fun k => leadtrailref08_CopyShape.l0 k (i : Int) ps a (ps.take i) a) (ps, a)
 | 0, i, hi => by
  refine evSucc ?_; simp only [leadtrailref08_CopyShape.l0, if_neg (show ¬ (i : Int) < (ps.length : Int) by omega)]; rw [List.take_of_length_le (by omega)]; exact evNow _
 | n + 1, i, hi => by
  have hil : i < ps.length := by omega
  have ih := copy_loop ps a hI n (i + 1) (by omega); have h1 := hI.2 _ (List.getElem_mem hil); have h2 := hI.1; unfold In1 at h1; have hw : Aside0 (wrap64 ((i : Int) + 1) = ((i + 1 : Nat) : Int)) := Aside0.mk (by rw [w64 (by omega) (by omega)]; rfl); have e : ps.take i ++ [([] : List Sp) ++ ps[i]] = ps.take (i + 1) := by rw [List.nil_append, List.take_succ_eq_append_getElem hil]
  refine evSucc ?_; simp only [leadtrailref08_CopyShape.l0, if_pos (show (i : Int) < (ps.length : Int) by omega), Option.bind_some, if_pos (show (0 : Int) ≤ (i : Int) by omega), rdL_at ps i hil, List.length_nil, if_pos (show 0 + (ps[i]).length < 8796093022208 by omega), if_pos (show (ps.take i).length < 5864062014805 by rw [List.length_take]; omega), hw.out, e]; exact ih
theorem Copy_is (ps : List (List Sp)) (a : Int) (hI : In2 ps) : Ev (fun k => leadtrailref08_CopyShape.f k ps a) (ps, a) := by
 have := copy_loop ps a hI ps.length 0 (by omega); rw [List.take_zero] at this; exact this
theorem refSize_at (p : List Sp) (hp : In1 p) (h : okPart p = true) : Ev (fun k => leadtrailref03_Size.f k p) (size (runs p)) := by
 have := refSize_is p hp; rwa [show p.map L34 = runs p from rfl, setL_of (okPart_good h).1] at this
theorem refCount_loop (ps : List (List Sp)) (a : Int) (hI : In2 ps) (hk : ps.all okPart = true) (hl : ps.length ≤ 8) : ∀ (n i : Nat) (m : Int), i + n = ps.length → 1 ≤ m → m ≤ 1073741825 →
 Ev (fun k => leadtrailref08_Count.l0 k m (i : Int) ps a) (capd m (ps.drop i))
 | 0, i, m, hi, _, _ => by
  refine evSucc ?_; simp only [leadtrailref08_Count.l0, if_neg (show ¬ (i : Int) < (ps.length : Int) by omega)]; rw [List.drop_of_length_le (by omega)]; exact evNow _
 | n + 1, i, m, hi, h0, h1 => by
  have hil : i < ps.length := by omega
  have hp := good_part hk hil; have hs := okPart_good hp; have hz := size_256 hs.1; have hb : 1 ≤ m * size (runs ps[i]) := by have := Int.mul_le_mul h0 hs.2 (by omega) (by omega); omega
  have hc : m * size (runs ps[i]) ≤ 1073741825 * 256 := Int.mul_le_mul h1 hz (by omega) (by omega); have hw : Aside0 (wrap64 (m * size (runs ps[i])) = m * size (runs ps[i])) := Aside0.mk (w64 (by omega) (by omega)); have hw2 : Aside0 (wrap64 ((i : Int) + 1) = ((i + 1 : Nat) : Int)) := Aside0.mk (by rw [w64 (by omega) (by omega)]; rfl); have e : capd m (ps.drop i) = capd (min (m * size (runs ps[i])) 1073741825) (ps.drop (i + 1)) := by rw [List.drop_eq_getElem_cons hil]; rfl
  refine evSucc ?_; simp only [leadtrailref08_Count.l0, if_pos (show (i : Int) < (ps.length : Int) by omega), if_pos (show (0 : Int) ≤ (i : Int) by omega), rdL_at ps i hil]; refine Ev.bind (refSize_at _ (hI.2 _ (List.getElem_mem _)) hp) ?_; simp only [hw.out, hw2.out]; rw [e]; by_cases c : m * size (runs ps[i]) > 1073741824
  ·simp only [if_pos c]; rw [show min (m * size (runs ps[i])) 1073741825 = 1073741825 by omega]; exact refCount_loop ps a hI hk hl n (i + 1) _ (by omega) (by omega) (by omega)
  ·simp only [if_neg c]; rw [show min (m * size (runs ps[i])) 1073741825 = m * size (runs ps[i]) by omega]; exact refCount_loop ps a hI hk hl n (i + 1) _ (by omega) (by omega) (by omega)
theorem refCount8_is (ps : List (List Sp)) (a : Int) (hI : In2 ps) (hk : ps.all okPart = true) (hl : ps.length ≤ 8) : Ev (fun k => leadtrailref08_Count.f k ps a) (min (cnt (sets ps)) 1073741825) := by
 have := refCount_loop ps a hI hk hl ps.length 0 1 (by omega) (by omega) (by omega); rw [List.drop_zero, capd_is ps 1 hk (by omega) (by omega), Int.one_mul] at this; exact this
theorem refVShape_loop (ps : List (List Sp)) (a : Int) (hI : In2 ps) (hl : ps.length ≤ 8) (a0 : 0 ≤ a) (a1 : a ≤ 1073741823) : ∀ (n i : Nat), i + n = ps.length → (ps.take i).all okPart = true →
 Ev (fun k => leadtrailref08_ValidShape.l0 k (i : Int) ps a) (ps.all okPart && decide (a + cnt (sets ps) - 1 ≤ 1073741823))
 | 0, i, hi, hk => by
  rw [List.take_of_length_le (by omega)] at hk; have hc := cnt_pos (good_of hk); refine evSucc ?_; simp only [leadtrailref08_ValidShape.l0, if_neg (show ¬ (i : Int) < (ps.length : Int) by omega)]; refine Ev.bind (refCount8_is ps a hI hk hl) ?_; rw [hk, Bool.true_and, w64 (x := a + min (cnt (sets ps)) 1073741825) (by omega) (by omega), w64 (by omega) (by omega), show decide (a + min (cnt (sets ps)) 1073741825 - 1 ≤ 1073741823) = decide (a + cnt (sets ps) - 1 ≤ 1073741823) from decide_eq_decide.2 (by omega)]; exact evNow _
 | n + 1, i, hi, hk => by
  have hil : i < ps.length := by omega
  have hw2 : Aside0 (wrap64 ((i : Int) + 1) = ((i + 1 : Nat) : Int)) := Aside0.mk (by rw [w64 (by omega) (by omega)]; rfl); have hbad : okPart ps[i] = false → ps.all okPart = false := fun h => by
   cases q : ps.all okPart
   ·rfl
   ·rw [good_part q hil] at h; cases h
  refine evSucc ?_; simp only [leadtrailref08_ValidShape.l0, if_pos (show (i : Int) < (ps.length : Int) by omega), if_pos (show (0 : Int) ≤ (i : Int) by omega), rdL_at ps i hil]; by_cases c : ((ps[i]).length : Int) = 0
  ·simp only [if_pos c]; rw [hbad (by simp only [okPart, decide_eq_true (show (ps[i]).length = 0 by omega)]; rfl), Bool.false_and]; exact evNow _
  ·simp only [if_neg c]; have e : okPart ps[i] = validB 255 (-2) (runs ps[i]) := by simp only [okPart, decide_eq_false (show ¬ (ps[i]).length = 0 by omega)]; rfl
   refine Ev.bind (refValid_is ps[i] (hI.2 _ (List.getElem_mem _))) ?_; rw [show (ps[i]).map L34 = runs ps[i] from rfl, ← e]; cases q : okPart ps[i]
   ·simp only [Bool.false_eq_true, if_false]; rw [hbad q, Bool.false_and]; exact evNow _
   ·simp only [if_true, hw2.out]; refine refVShape_loop ps a hI hl a0 a1 n (i + 1) (by omega) ?_; rw [List.take_succ_eq_append_getElem hil, List.all_append, hk]; simp [q]
theorem refVShape_is (ps : List (List Sp)) (a : Int) (hI : In2 ps) : Ev (fun k => leadtrailref08_ValidShape.f k ps a) (vShape ps a) := by
 have jT : Ev (fun k => leadtrailref08_ValidShape.j0 k true ps a) false := by
  refine evSucc ?_; simp only [leadtrailref08_ValidShape.j0, if_true]; exact evNow _
 simp only [leadtrailref08_ValidShape.f]; by_cases c1 : (ps.length : Int) < 1
 ·simp only [if_pos c1, vShape, decide_eq_false (show ¬ (1 ≤ ps.length ∧ ps.length ≤ 8) by omega), Bool.false_and]; exact jT
 by_cases c2 : (ps.length : Int) > 8
 ·simp only [if_neg c1, if_pos c2, vShape, decide_eq_false (show ¬ (1 ≤ ps.length ∧ ps.length ≤ 8) by omega), Bool.false_and]; exact jT
 simp only [if_neg c1, if_neg c2, vShape, decide_eq_true (show 1 ≤ ps.length ∧ ps.length ≤ 8 by omega), Bool.true_and]; by_cases c3 : a < 0
 ·simp only [if_pos c3, decide_eq_false (show ¬ (0 ≤ a ∧ a ≤ 1073741823) by omega), Bool.false_and]; exact jT
 by_cases c4 : a > 1073741823
 ·simp only [if_neg c3, decide_eq_true c4, decide_eq_false (show ¬ (0 ≤ a ∧ a ≤ 1073741823) by omega), Bool.false_and]; exact jT
 simp only [if_neg c3, decide_eq_false c4, decide_eq_true (show 0 ≤ a ∧ a ≤ 1073741823 by omega), Bool.true_and]; refine evSucc ?_; simp only [leadtrailref08_ValidShape.j0, Bool.false_eq_true, if_false]; exact refVShape_loop ps a hI (by omega) (by omega) (by omega) ps.length 0 (by omega) rfl
theorem refCount_is (ps : List (List Sp)) (a : Int) (hI : In2 ps) : Ev (fun k => leadtrailref09_Count.f k ps a) (if vShape ps a = true then cnt (sets ps) else 0) := by
 simp only [leadtrailref09_Count.f]; refine Ev.bind (refVShape_is ps a hI) ?_; cases hv : vShape ps a
 ·simp only [Bool.false_eq_true, if_false]; exact evNow _
 ·simp only [if_true]; obtain ⟨⟨l1, l2⟩, ⟨a1, a2⟩, hk, hg, hc⟩ := vShape_good hv; have := refCount8_is ps a hI hk l2; rw [show min (cnt (sets ps)) 1073741825 = cnt (sets ps) by omega] at this; exact Ev.bind this (evNow _)
end Go.Proofs.Ytoljcfocgaonpaa.PBS
end
section
namespace Go.Proofs.Ytoljcfocgaonpaa.PBS
open Go.RowKit Go.Proofs.YtoljcfocgaonpaaW.PrintWords Go.Proofs.YtoljcfocgaonpaaW.PrintLast Go.Proofs.YtoljcfocgaonpaaW.PrintMore Go.Proofs.Ytoljcfocgaonpaa.I Go.Proofs.LT Go.Proofs.Ytoljcfocgaonpaa.PB3
set_option linter.unusedVariables false
set_option linter.unusedSimpArgs false
noncomputable def cntS (ps : List (List Sp)) (a : Int) : Int := if vShape ps a = true then cnt (sets ps) else 0
noncomputable def okB (ps : List (List Sp)) (a k : Int) : Bool := decide (0 ≤ k ∧ k < cntS ps a)
noncomputable def unS (ps : List (List Sp)) (a k : Int) : List Int := if okB ps a k = true then unr (sets ps) k else []
theorem okB_of {ps : List (List Sp)} {a k : Int} (h : okB ps a k = true) : vShape ps a = true ∧ 0 ≤ k ∧ k < cnt (sets ps) := by
 have h := of_decide_eq_true h; by_cases hv : vShape ps a = true
 ·have e : cntS ps a = cnt (sets ps) := if_pos hv; exact ⟨hv, h.1, by omega⟩
 ·have e : cntS ps a = 0 := if_neg hv; omega
theorem Unrank_is (ps : List (List Sp)) (a k : Int) (hI : In2 ps) : Ev (fun n => shape_Unrank.f n ps a k) (unS ps a k, okB ps a k) := by
 cases h : okB ps a k
 ·have := Unrank_no ps a k hI (of_decide_eq_false h); simpa [unS, h] using this
 ·obtain ⟨hv, h0, h1⟩ := okB_of h; have := Unrank_yes hI hv h0 h1; simpa [unS, h] using this
end Go.Proofs.Ytoljcfocgaonpaa.PBS
namespace Go.Proofs.Ytoljcfocgaonpaa.Pure
open Go.Proofs.Ytoljcfocgaonpaa.I Go.Proofs.YtoljcfocgaonpaaW.PrintWords
end Go.Proofs.Ytoljcfocgaonpaa.Pure
end
section
namespace Go.Proofs.Ytoljcfocgaonpaa.PBS
open Go.RowKit Go.Proofs.YtoljcfocgaonpaaW.PrintWords Go.Proofs.YtoljcfocgaonpaaW.PrintLast Go.Proofs.YtoljcfocgaonpaaW.PrintMore Go.Proofs.Ytoljcfocgaonpaa.I Go.Proofs.LT Go.Proofs.Ytoljcfocgaonpaa.PB3
set_option linter.unusedVariables false
set_option linter.unusedSimpArgs false
theorem evAllS {α : Type} {g : Nat → Nat → Option α} {v : Nat → α} : ∀ {N : Nat}, (∀ i, i < N → Ev (g i) (v i)) → ∃ K, ∀ k, K ≤ k → ∀ i, i < N → g i k = some (v i)
 | 0, _ => ⟨0, fun _ _ i hi => by omega⟩
 | N + 1, h => by
  obtain ⟨K, hK⟩ := evAllS (N := N) (fun i hi => h i (by omega)); obtain ⟨K', hK'⟩ := h N (by omega); refine ⟨max K K', fun k hk i hi => ?_⟩; rcases Nat.lt_or_ge i N with c | c
  ·exact hK k (by omega) i c
  ·obtain rfl : i = N := by omega
   exact hK' k (by omega)
theorem memI_R (l : List S133) (fr : Int) : memI l fr = memR (l.map L133) fr := by
 unfold memI memR; rw [List.flatMap_map]; rfl
theorem setOf_is (p : List Sp) (hp : In1 p) (hk : okPart p = true) : ∃ s, Ev (fun k => spans_set.f k p) s ∧ s.map L133 = runs p ∧ s.length ≤ 4611686018427387904 ∧ (∀ r ∈ s, r.f1 ≤ 4611686018427387904 ∧ -4611686018427387904 ≤ r.f0) := by
 obtain ⟨s, s1, s2⟩ := spans_set_is p hp; obtain ⟨hv, hn⟩ := spans_set_facts s2; have hs := okPart_good hk; rw [show p.map L34 = runs p from rfl, setL_of hs.1] at s2; refine ⟨s, s1, s2, ?_, ?_⟩
 ·have e : s.length = p.length := by have := congrArg List.length s2; rw [List.length_map] at this; rw [this]; exact List.length_map ..
  unfold In1 at hp; omega
 ·intro r hr; have := hs.1.each (L133 r) (by rw [← s2]; exact List.mem_map_of_mem hr); simp only [L133] at this; omega
theorem take_sets (ps : List (List Sp)) (n : Nat) (hn : n < ps.length) : sets (ps.take (n + 1)) = sets (ps.take n) ++ [runs ps[n]] := by
 unfold sets; rw [List.take_succ_eq_append_getElem hn, List.map_append]; rfl
theorem stepB_is (ps : List (List Sp)) (hk : ps.all okPart = true) (L : Nat → List S133) (hL : ∀ t (h : t < ps.length), (L t).map L133 = runs ps[t]) : ∀ (n : Nat) (q : Int) (r : List Int), n ≤ ps.length → 0 ≤ q → q < cnt (sets (ps.take n)) →
 stepB ps L n (unr (sets (ps.take n)) q ++ r) = if q + 1 < cnt (sets (ps.take n)) then some (unr (sets (ps.take n)) (q + 1) ++ r) else none
 | 0, q, r, _, h0, h1 => by
  rw [show cnt (sets (ps.take 0)) = 1 from cnt_nil] at h1 ⊢; rw [if_neg (by omega)]; rfl
 | n + 1, q, r, hn, h0, h1 => by
  have hnl : n < ps.length := by omega
  have hp := good_part hk hnl; have hs := okPart_good hp; have hz := size_256 hs.1; have hg : GoodP (sets (ps.take n)) := good_of (List.all_eq_true.2 fun x hx => List.all_eq_true.1 hk x (List.mem_of_mem_take hx)); have hcp := cnt_pos hg; rw [take_sets ps n hnl, cnt_snoc] at h1; have hdl : q / size (runs ps[n]) < cnt (sets (ps.take n)) := Int.ediv_lt_of_lt_mul (by omega) h1; have hd0 : 0 ≤ q / size (runs ps[n]) := Int.ediv_nonneg h0 (by omega); have m0 := Int.emod_nonneg q (show size (runs ps[n]) ≠ 0 by omega); have m1 := Int.emod_lt_of_pos q (show 0 < size (runs ps[n]) by omega); have em := Int.mul_ediv_add_emod q (size (runs ps[n])); rw [take_sets ps n hnl, cnt_snoc, unr_snoc' hs.2 hg h0 h1]; have hlen : (unr (sets (ps.take n)) (q / size (runs ps[n]))).length = n := by rw [unr_len, sets_len, List.length_take]; omega
  have eg : (unr (sets (ps.take n)) (q / size (runs ps[n])) ++ [selV (runs ps[n]) (q % size (runs ps[n]))] ++ r).getD n 0 = selV (runs ps[n]) (q % size (runs ps[n])) := by
   simp [List.getD, hlen]
  have es : ∀ y, (unr (sets (ps.take n)) (q / size (runs ps[n])) ++ [selV (runs ps[n]) (q % size (runs ps[n]))] ++ r).set n y = unr (sets (ps.take n)) (q / size (runs ps[n])) ++ (y :: r) := fun y => by
   rw [List.append_assoc, List.set_append_right _ _ (by omega), hlen]; simp
  show (match memI (L n) ((unr (sets (ps.take n)) (q / size (runs ps[n])) ++ [selV (runs ps[n]) (q % size (runs ps[n]))] ++ r).getD n 0 + 1) with
   | x :: _ => some ((unr (sets (ps.take n)) (q / size (runs ps[n])) ++ [selV (runs ps[n]) (q % size (runs ps[n]))] ++ r).set n (x % 256))
   | [] => stepB ps L n ((unr (sets (ps.take n)) (q / size (runs ps[n])) ++ [selV (runs ps[n]) (q % size (runs ps[n]))] ++ r).set n ((rd_T34 (ps.getD n []) 0).f0 % 256))) = _
  rw [eg, memI_R, hL n hnl, es]; by_cases c : q % size (runs ps[n]) + 1 < size (runs ps[n])
  ·obtain ⟨t, ht⟩ := memR_up hs.1 m0 c; have hr := hs.1.range (selV_spec hs.1 (show 0 ≤ q % size (runs ps[n]) + 1 by omega) c).1; have e1 : (q + 1) / size (runs ps[n]) = q / size (runs ps[n]) ∧ (q + 1) % size (runs ps[n]) = q % size (runs ps[n]) + 1 :=
    (Int.ediv_emod_unique (a := q + 1) (b := size (runs ps[n])) (by omega)).2 ⟨by omega, by omega, c⟩
   have hq : q + 1 < cnt (sets (ps.take n)) * size (runs ps[n]) := by
    have h2 := Int.mul_le_mul_of_nonneg_right (show q / size (runs ps[n]) + 1 ≤ cnt (sets (ps.take n)) by omega) (show 0 ≤ size (runs ps[n]) by omega); rw [Int.add_mul, Int.one_mul, Int.mul_comm] at h2; omega
   rw [ht, if_pos hq, unr_snoc' hs.2 hg (by omega) hq, e1.1, e1.2]; simp only; rw [es, Int.emod_eq_of_lt hr.1 (by omega)]; simp
  ·rw [memR_end hs.1 m0 m1 c]; simp only; have e1 : (q + 1) / size (runs ps[n]) = q / size (runs ps[n]) + 1 ∧ (q + 1) % size (runs ps[n]) = 0 :=
    (Int.ediv_emod_unique (a := q + 1) (b := size (runs ps[n])) (by omega)).2 ⟨by rw [Int.mul_add, Int.mul_one]; omega, by omega, by omega⟩
   have ih := stepB_is ps hk L hL n (q / size (runs ps[n])) (selV (runs ps[n]) 0 :: r) (by omega) hd0 hdl; have hlo : (rd_T34 (ps.getD n []) 0).f0 % 256 = selV (runs ps[n]) 0 := by
    have hne : ∃ x t, ps[n] = x :: t := by
     cases h : ps[n] with
     | nil => rw [h] at hp; simp [okPart] at hp
     | cons x t => exact ⟨x, t, rfl⟩
    obtain ⟨x, t, hx⟩ := hne; have hv := hs.1; rw [hx] at hv; have e2 := selV_zero (r := L34 x) (t := runs t) hv; rw [hx]; show _ = selV (L34 x :: runs t) 0; rw [e2]; have hr := hv.each (L34 x) (List.mem_cons_self); have e3 : ps.getD n [] = x :: t := by simp [List.getD, hnl, hx]
    rw [e3]; show x.f0 % 256 = x.f0; have h3 : 0 ≤ x.f0 := hr.1; have h4 : x.f0 ≤ x.f1 := hr.2.1; have h5 : x.f1 ≤ 255 := hr.2.2; exact Int.emod_eq_of_lt h3 (by omega)
   rw [hlo, ih]; have hiff : (q / size (runs ps[n]) + 1 < cnt (sets (ps.take n))) ↔ (q + 1 < cnt (sets (ps.take n)) * size (runs ps[n])) := by
    have e2 : q + 1 = (q / size (runs ps[n]) + 1) * size (runs ps[n]) := by rw [Int.add_mul, Int.one_mul, Int.mul_comm]; omega
    rw [e2]; exact (Int.mul_lt_mul_right (by omega)).symm
   by_cases d : q / size (runs ps[n]) + 1 < cnt (sets (ps.take n))
   ·rw [if_pos d, if_pos (hiff.1 d), unr_snoc' hs.2 hg (by omega) (hiff.1 d), e1.1, e1.2]; simp
   ·rw [if_neg d, if_neg (fun h => d (hiff.2 h))]
noncomputable def nSq (ps : List (List Sp)) (a fr : Int) : Nat := (cntS ps a - max fr 0).toNat
noncomputable def sqOf (ps : List (List Sp)) (fr : Int) (j : Nat) : List Int := unr (sets ps) (max fr 0 + j)
theorem allF_is (ps : List (List Sp)) (a fr : Int) (hI : In2 ps) : ∃ k L, AllF k ps a fr (unS ps a (max fr 0)) (okB ps a (max fr 0)) (nSq ps a fr) (sqOf ps fr) L := by
 obtain ⟨K0, h0⟩ := Unrank_is ps a (max fr 0) hI; cases hb : okB ps a (max fr 0)
 ·rw [hb] at h0; refine ⟨K0, fun _ => [], h0 _ (Nat.le_refl _), fun _ => ?_, fun h => by cases h⟩; have := of_decide_eq_false hb; unfold nSq; omega
 ·rw [hb] at h0; obtain ⟨hv, u0, u1⟩ := okB_of hb; obtain ⟨⟨l1, l2⟩, ha, hk, hg, hcn⟩ := vShape_good hv; have hcs : cntS ps a = cnt (sets ps) := by unfold cntS; rw [if_pos hv]
  have hset : ∀ t, ∃ s, ∀ h : t < ps.length, Ev (fun k => spans_set.f k (ps.getD t [])) s ∧ s.map L133 = runs ps[t] ∧ s.length ≤ 4611686018427387904 ∧ (∀ r ∈ s, r.f1 ≤ 4611686018427387904 ∧ -4611686018427387904 ≤ r.f0) := fun t => by
   by_cases h : t < ps.length
   ·obtain ⟨s, s1, s2, s3, s4⟩ := setOf_is ps[t] (hI.2 _ (List.getElem_mem h)) (good_part hk h); have e : ps.getD t [] = ps[t] := by simp [List.getD, h]
    exact ⟨s, fun _ => ⟨by rw [e]; exact s1, s2, s3, s4⟩⟩
   ·exact ⟨[], fun h' => absurd h' h⟩
  have hL := fun t => (hset t).choose_spec
  generalize hLe : (fun t => (hset t).choose) = L at hL; have hL' : ∀ t, ∀ h : t < ps.length, Ev (fun k => spans_set.f k (ps.getD t [])) (L t) ∧ (L t).map L133 = runs ps[t] ∧ (L t).length ≤ 4611686018427387904 ∧ (∀ r ∈ L t, r.f1 ≤ 4611686018427387904 ∧ -4611686018427387904 ≤ r.f0) := fun t h => by
   have := hL t h; rw [← hLe]; exact this
  obtain ⟨K1, h1⟩ := evAllS (g := fun t k => spans_set.f k (ps.getD t [])) (v := L) (N := ps.length) (fun t h => (hL' t h).1); have hN : ((nSq ps a fr : Nat) : Int) = cnt (sets ps) - max fr 0 := by unfold nSq; rw [hcs]; omega
  refine ⟨max K0 K1, L, h0 _ (by omega), (fun h => by cases h), fun _ => ⟨by omega, ?_, by omega, by omega, by omega, fun t ht => ⟨h1 _ (by omega) t ht, (hL' t ht).2.2.1, (hL' t ht).2.2.2, ?_⟩, fun j hj => ⟨?_, ?_, ?_⟩⟩⟩
  ·unfold unS sqOf; rw [if_pos hb]; congr 1
   omega
  ·have hp := good_part hk ht; have e : ps.getD t [] = ps[t] := by simp [List.getD, ht]
   rw [e]; simp only [okPart, Bool.and_eq_true, Bool.not_eq_true', decide_eq_false_iff_not] at hp; omega
  ·unfold sqOf; rw [unr_len, sets_len]
  ·exact unr_range hg (by omega) (by omega)
  ·have := stepB_is ps hk L (fun t h => (hL' t h).2.1) ps.length (max fr 0 + j) [] (Nat.le_refl _) (by omega) (by rw [List.take_length]; omega); rw [List.take_length, List.append_nil, List.append_nil] at this; unfold sqOf; rw [this]; by_cases c : j + 1 < nSq ps a fr
   ·rw [if_pos c, if_pos (by omega)]; congr 2
    omega
   ·rw [if_neg c, if_neg (by omega)]
end Go.Proofs.Ytoljcfocgaonpaa.PBS
end
section
namespace Go.Proofs.Ytoljcfocgaonpaa.PBS
open Go.RowKit Go.Proofs.YtoljcfocgaonpaaW.PrintWords Go.Proofs.YtoljcfocgaonpaaW.PrintLast Go.Proofs.YtoljcfocgaonpaaW.PrintMore Go.Proofs.Ytoljcfocgaonpaa.I Go.Proofs.LT Go.Proofs.Ytoljcfocgaonpaa.PB3
set_option linter.unusedVariables false
set_option linter.unusedSimpArgs false
theorem cloneSpan_is (p : List Sp) (h : In1 p) : cloneSpan.f p = some p := by
 unfold In1 at h; simp only [cloneSpan.f, if_pos (show p.length < 8796093022208 by omega)]
theorem sCopy_in (ss out : List Sh) (i : Nat) (ps : List (List Sp)) (f : Int) (hp : In2 ps) (ho : out.length < 4398046511104) (hi : i ≤ 4398046511104) {r : List Sh} (h : Ev (fun k => scheme_Copy.l0 k ss (ss.length : Int) ((i + 1 : Nat) : Int) (out ++ [⟨ps, f⟩])) r) : ∀ (n j : Nat), j + n = ps.length →
 Ev (fun k => scheme_Copy.l1 k ss (ss.length : Int) (i : Int) ps (ps.length : Int) (j : Int) out (ps.take j) f) r
 | 0, j, hj => by
  obtain rfl : j = ps.length := by omega
  have hw : Aside0 (wrap64 ((i : Int) + 1) = ((i + 1 : Nat) : Int)) := Aside0.mk (by rw [w64 (by omega) (by omega)]; rfl); refine evSucc ?_; simp only [scheme_Copy.l1, if_neg (show ¬ ((ps.length : Nat) : Int) < ((ps.length : Nat) : Int) by omega), if_pos ho, hw.out, List.take_length]; exact h
 | n + 1, j, hj => by
  have hjl : j < ps.length := by omega
  have h1 := hp.1; have hw : Aside0 (wrap64 ((j : Int) + 1) = ((j + 1 : Nat) : Int)) := Aside0.mk (by rw [w64 (by omega) (by omega)]; rfl); have ih := sCopy_in ss out i ps f hp ho hi h n (j + 1) (by omega); have e : ps.take j ++ [ps[j]] = ps.take (j + 1) := (List.take_succ_eq_append_getElem hjl).symm; refine evSucc ?_; simp only [scheme_Copy.l1, if_pos (show (j : Int) < ((ps.length : Nat) : Int) by omega), if_pos (show (0 : Int) ≤ (j : Int) by omega), rdL_at ps j hjl, cloneSpan_is _ (hp.2 _ (List.getElem_mem hjl)), Option.bind_some, if_pos (show (ps.take j).length < 5864062014805 by rw [List.length_take]; omega), hw.out, e]; exact ih
theorem sCopy_loop (ss : List Sh) (hI : InS ss) : ∀ (n i : Nat), i + n = ss.length → Ev (fun k => scheme_Copy.l0 k ss (ss.length : Int) (i : Int) (ss.take i)) ss
 | 0, i, hi => by
  refine evSucc ?_; simp only [scheme_Copy.l0, if_neg (show ¬ (i : Int) < (ss.length : Int) by omega)]; rw [List.take_of_length_le (by omega)]; exact evNow _
 | n + 1, i, hi => by
  have hil : i < ss.length := by omega
  have h1 := hI.1; have ih := sCopy_loop ss hI n (i + 1) (by omega); have er : rd_T47 ss (i : Int) = ss[i] := by simp [rd_T47, List.getD, hil]
  rw [List.take_succ_eq_append_getElem hil] at ih; have h := sCopy_in ss (ss.take i) i (ss[i]).f0 (ss[i]).f1 (hI.2 _ (List.getElem_mem hil)) (by rw [List.length_take]; omega) (by omega) ih (ss[i]).f0.length 0 (by omega); refine evSucc ?_; simp only [scheme_Copy.l0, if_pos (show (i : Int) < (ss.length : Int) by omega), if_pos (show (0 : Int) ≤ (i : Int) by omega), er]; exact h
theorem sCopy_is (ss : List Sh) (hI : InS ss) : Ev (fun k => scheme_Copy.f k ss) ss := sCopy_loop ss hI ss.length 0 (by omega)
theorem sCopy_one (ps : List (List Sp)) (a : Int) (hI : In2 ps) : Ev (fun k => scheme_Copy.f k [⟨ps, a⟩]) [⟨ps, a⟩] := sCopy_is _ ⟨by simp, fun p hp => by rw [List.mem_singleton.1 hp]; exact hI⟩
end Go.Proofs.Ytoljcfocgaonpaa.PBS
end
section
namespace Go.Proofs.Ytoljcfocgaonpaa.PBS
open Go.RowKit Go.Proofs.YtoljcfocgaonpaaW.PrintWords Go.Proofs.YtoljcfocgaonpaaW.PrintLast Go.Proofs.YtoljcfocgaonpaaW.PrintMore Go.Proofs.Ytoljcfocgaonpaa.I Go.Proofs.LT Go.Proofs.Ytoljcfocgaonpaa.PB3
set_option linter.unusedVariables false
set_option linter.unusedSimpArgs false
theorem div_mod_mul {k n c : Int} (hc : 0 < c) (hn : 0 < n) : k / (n * c) = k / c / n ∧ k % (n * c) = (k / c % n) * c + k % c := by
 have h1 := Int.emod_nonneg k (show c ≠ 0 by omega); have h2 := Int.emod_lt_of_pos k hc; have h3 := Int.emod_nonneg (k / c) (show n ≠ 0 by omega); have h4 := Int.emod_lt_of_pos (k / c) hn; have e1 := Int.ediv_mul_add_emod k c; have e2 := Int.ediv_mul_add_emod (k / c) n; have m0 := Int.mul_nonneg h3 (show 0 ≤ c by omega); have m1 := Int.mul_le_mul_of_nonneg_right (show k / c % n + 1 ≤ n by omega) (show 0 ≤ c by omega); rw [Int.add_mul, Int.one_mul] at m1; refine (Int.ediv_emod_unique (Int.mul_pos hn hc)).2 ⟨?_, by omega, by omega⟩; have e3 : n * c * (k / c / n) = k / c / n * n * c := by rw [Int.mul_comm, Int.mul_assoc]
 rw [e3]; have e4 : k / c * c = (k / c / n * n + k / c % n) * c := by rw [e2]
 rw [Int.add_mul] at e4; omega
theorem refSelect_at (p : List Sp) (d : Int) (hi : In1 p) (hk : okPart p = true) (h0 : 0 ≤ d) (h1 : d < size (runs p)) : Ev (fun k => leadtrailref03_Select.f k p d) (selV (runs p) d, true) := by
 have hs := okPart_good hk; obtain ⟨r, r1, r2⟩ := refSelect_is p d hi; rw [show p.map L34 = runs p from rfl, setL_of hs.1] at r2; have hS := selV_spec hs.1 h0 h1; obtain rfl := Sel.uniq hs.1 r2 (.inl ⟨_, hS.1, hS.2, rfl⟩); exact r1
theorem refUnrank_loop (ps : List (List Sp)) (a K : Int) (hI : In2 ps) (hk : ps.all okPart = true) (hl : ps.length ≤ 8) (hc : cnt (sets ps) ≤ 1073741824) (k0 : 0 ≤ K) (k1 : K < cnt (sets ps)) : ∀ (i : Nat), i ≤ ps.length →
 Ev (fun k => leadtrailref09_Unrank.l0 k (K / cnt (sets (ps.drop i))) ((i : Int) - 1) (List.replicate i 0 ++ unr (sets (ps.drop i)) (K % cnt (sets (ps.drop i)))) ps a) (unr (sets ps) K, true)
 | 0, _ => by
  refine evSucc ?_; rw [List.drop_zero, Int.emod_eq_of_lt k0 k1]; simp only [leadtrailref09_Unrank.l0, if_neg (show ¬ (((0 : Nat) : Int) - 1 ≥ 0) by omega)]; simpa using evNow (unr (sets ps) K, true)
 | i + 1, hi => by
  have hil : i < ps.length := by omega
  have ih := refUnrank_loop ps a K hI hk hl hc k0 k1 i (by omega); have hg := good_of hk; have hp := good_part hk hil; have hs := okPart_good hp; have hz := size_256 hs.1; have hpos : 1 ≤ cnt (sets (ps.drop (i + 1))) := by have := cnt_pos (hg.drop (i + 1)); rwa [sets_drop] at this
  have hcs := cnt_step ps i hil; obtain ⟨e1, e2⟩ := div_mod_mul (k := K) (show 0 < cnt (sets (ps.drop (i + 1))) by omega) (show 0 < size (runs ps[i]) by omega); rw [← hcs] at e1 e2; have q0 : 0 ≤ K / cnt (sets (ps.drop (i + 1))) := Int.ediv_nonneg k0 (by omega); have q1 : K / cnt (sets (ps.drop (i + 1))) ≤ K := Int.ediv_le_self _ k0; have d0 := Int.emod_nonneg (K / cnt (sets (ps.drop (i + 1)))) (show size (runs ps[i]) ≠ 0 by omega); have d1 := Int.emod_lt_of_pos (K / cnt (sets (ps.drop (i + 1)))) (show 0 < size (runs ps[i]) by omega); have r0 := Int.emod_nonneg K (show cnt (sets (ps.drop (i + 1))) ≠ 0 by omega); have r1 := Int.emod_lt_of_pos K (show 0 < cnt (sets (ps.drop (i + 1))) by omega); have hr := hs.1.range (selV_spec hs.1 d0 d1).1; have t1 : Int.tdiv (K / cnt (sets (ps.drop (i + 1)))) (size (runs ps[i])) = K / cnt (sets (ps.drop i)) := by rw [Int.tdiv_eq_ediv_of_nonneg q0, e1]
  have t2 : Int.tmod (K / cnt (sets (ps.drop (i + 1)))) (size (runs ps[i])) = K / cnt (sets (ps.drop (i + 1))) % size (runs ps[i]) := Int.tmod_eq_emod_of_nonneg q0; have q3 : 0 ≤ K / cnt (sets (ps.drop i)) := by rw [e1]; exact Int.ediv_nonneg q0 (by omega)
  have q4 : K / cnt (sets (ps.drop i)) ≤ K := by rw [e1]; exact Int.le_trans (Int.ediv_le_self _ q0) q1
  have hw : Aside0 (wrap64 (K / cnt (sets (ps.drop i))) = K / cnt (sets (ps.drop i))) := Aside0.mk (w64 (by omega) (by omega)); have hw2 : Aside0 (wrap64 ((i : Int) - 1) = (i : Int) - 1) := Aside0.mk (w64 (by omega) (by omega)); have hm : selV (runs ps[i]) (K / cnt (sets (ps.drop (i + 1))) % size (runs ps[i])) % 256 = selV (runs ps[i]) (K / cnt (sets (ps.drop (i + 1))) % size (runs ps[i])) := Int.emod_eq_of_lt hr.1 (by omega); have hlen : ((List.replicate (i + 1) (0 : Int) ++ unr (sets (ps.drop (i + 1))) (K % cnt (sets (ps.drop (i + 1))))).length : Nat) = ps.length := by
   rw [List.length_append, List.length_replicate, unr_len, sets_len, List.length_drop]; omega
  have eu : unr (sets (ps.drop i)) (K % cnt (sets (ps.drop i))) = selV (runs ps[i]) (K / cnt (sets (ps.drop (i + 1))) % size (runs ps[i])) :: unr (sets (ps.drop (i + 1))) (K % cnt (sets (ps.drop (i + 1)))) := by
   have e3 : (K % cnt (sets (ps.drop i))) / cnt (sets (ps.drop (i + 1))) = K / cnt (sets (ps.drop (i + 1))) % size (runs ps[i]) := by
    rw [e2, Int.add_comm, Int.add_mul_ediv_right _ _ (by omega), Int.ediv_eq_zero_of_lt r0 r1]; omega
   have e4 : (K % cnt (sets (ps.drop i))) % cnt (sets (ps.drop (i + 1))) = K % cnt (sets (ps.drop (i + 1))) := by
    rw [e2, Int.add_comm, Int.add_mul_emod_self_right, Int.emod_eq_of_lt r0 r1]
   rw [← e3, ← e4]; rw [List.drop_eq_getElem_cons hil]; exact unr_cons _ _ _
  refine evSucc ?_; rw [show (((i + 1 : Nat) : Int) - 1) = (i : Int) by omega]; simp only [leadtrailref09_Unrank.l0, if_pos (show (i : Int) ≥ 0 by omega), if_pos (show (0 : Int) ≤ (i : Int) by omega), if_pos (show (i : Int) < ((ps.length : Nat) : Int) by omega), rdL_at ps i hil]; refine Ev.bind (refSize_at _ (hI.2 _ (List.getElem_mem _)) hp) ?_; simp only [if_neg (show ¬ size (runs ps[i]) = 0 by omega)]; simp only [t1, t2]; refine Ev.bind (refSelect_at _ _ (hI.2 _ (List.getElem_mem _)) hp d0 d1) ?_; simp only [hlen, if_pos (show (i : Int) < ((ps.length : Nat) : Int) by omega), hw.out, hw2.out, hm, Int.toNat_natCast, set_mid]; rw [← eu]; exact ih
theorem refUnrank_is (ps : List (List Sp)) (a k : Int) (hI : In2 ps) : Ev (fun n => leadtrailref09_Unrank.f n ps a k) (unS ps a k, okB ps a k) := by
 have jT : Ev (fun n => leadtrailref09_Unrank.j0 n k true ps a) ([], false) := by
  refine evSucc ?_; simp only [leadtrailref09_Unrank.j0, if_true]; exact evNow _
 have no : okB ps a k = false → (unS ps a k, okB ps a k) = ([], false) := fun h => by rw [h]; unfold unS; rw [h]; rfl
 simp only [leadtrailref09_Unrank.f]; by_cases c : k < 0
 ·simp only [if_pos c]; rw [no (decide_eq_false (by omega))]; exact jT
 ·simp only [if_neg c]; refine Ev.bind (show Ev _ (cntS ps a) from refCount_is ps a hI) ?_; cases h : okB ps a k
  ·have := of_decide_eq_false h; rw [decide_eq_true (show k ≥ cntS ps a by omega)]; have e := no h; rw [h] at e; rw [e]; exact jT
  ·obtain ⟨hv, h0, h1⟩ := okB_of h; have h2 : 0 ≤ k ∧ k < cntS ps a := of_decide_eq_true h; obtain ⟨⟨l1, l2⟩, ⟨a1, a2⟩, hk, hg, hc⟩ := vShape_good hv; rw [decide_eq_false (show ¬ k ≥ cntS ps a by omega)]; refine evSucc ?_; have := refUnrank_loop ps a k hI hk l2 (by omega) h0 h1 ps.length (Nat.le_refl _); rw [List.drop_length, show cnt (sets []) = 1 from cnt_nil, Int.ediv_one, show unr (sets []) (k % 1) = [] from unr_nil _, List.append_nil] at this; have hw2 : Aside0 (wrap64 ((ps.length : Int) - 1) = (ps.length : Int) - 1) := Aside0.mk (w64 (by omega) (by omega)); simp only [leadtrailref09_Unrank.j0, Bool.false_eq_true, if_false, if_pos (show (0 : Int) ≤ ((ps.length : Nat) : Int) by omega), Int.toNat_natCast, if_pos (show ps.length ≤ 281474976710656 by omega), Option.bind_some, List.length_replicate, hw2.out]; unfold unS; simp only [h, if_true]; exact this
end Go.Proofs.Ytoljcfocgaonpaa.PBS
end
section
namespace Go.Proofs.Ytoljcfocgaonpaa.PBS
open Go.RowKit Go.Proofs.YtoljcfocgaonpaaW.PrintWords Go.Proofs.YtoljcfocgaonpaaW.PrintLast Go.Proofs.YtoljcfocgaonpaaW.PrintMore Go.Proofs.Ytoljcfocgaonpaa.I Go.Proofs.LT Go.Proofs.Ytoljcfocgaonpaa.PB3
set_option linter.unusedVariables false
set_option linter.unusedSimpArgs false
theorem cntS_small (ps : List (List Sp)) (a : Int) : 0 ≤ cntS ps a ∧ cntS ps a ≤ 1073741824 := by
 unfold cntS; split
 ·rename_i hv
  obtain ⟨⟨l1, l2⟩, ha, hk, hg, hcn⟩ := vShape_good hv; have := cnt_pos hg; omega
 ·omega
theorem leadtraillaw09_ShapeAll_ev (ps : List (List Sp)) (a fr early : Int) (hI : In2 ps) (hfr : fr ≤ 9223372036854775807) : ∃ k, leadtraillaw09_ShapeAll.Good k ps a fr early := by
 obtain ⟨K0, h0⟩ := fixed09; obtain ⟨K1, h1⟩ := Copy_is ps a hI; obtain ⟨K2, h2⟩ := sCopy_one ps a hI; obtain ⟨kc, L, hF⟩ := allF_is ps a fr hI; obtain ⟨K3, h3⟩ := refCount_is ps a hI; have hcs := cntS_small ps a; have hN : ((nSq ps a fr : Nat) : Int) = max (cntS ps a - max fr 0) 0 := by unfold nSq; omega
 refine ⟨max (max K0 K1) (max K2 K3), kc, _, _, nSq ps a fr, _, L, cntS ps a, h0 _ (by omega), h1 _ (by omega), h2 _ (by omega), hF, h3 _ (by omega), hN, by omega, hcs, fun h => by omega, fun i hi => ?_⟩; have hok : okB ps a (max fr 0 + (i : Int)) = true := decide_eq_true (by omega); obtain ⟨K, hK⟩ := refUnrank_is ps a (max fr 0 + (i : Int)) hI; have hk := hK K (Nat.le_refl _); rw [hok] at hk; refine ⟨K, hk.trans ?_⟩; unfold unS sqOf; rw [if_pos hok]
end Go.Proofs.Ytoljcfocgaonpaa.PBS
namespace Go.Proofs.Ytoljcfocgaonpaa.Pure
open Go.Proofs.Ytoljcfocgaonpaa.I Go.Proofs.YtoljcfocgaonpaaW.PrintWords
theorem wf_top {x : Int} (h : (Lit.int .i64 x).wf = true) : x ≤ 9223372036854775807 := by
 have e0 : IntKind.i64.min = -9223372036854775808 := by decide
 have e1 : IntKind.i64.max = 9223372036854775807 := by decide
 simp only [Lit.wf, e0, e1] at h; simp at h; omega
theorem ShapeAll : ∀ (l0_0 : List (List S34)) (a0_1 : Int) (a1 : Int) (a2 : Int), (l0_0.length * 24 ≤ 140737488351232 ∧ ∀ x ∈ l0_0, (x.length * 16 ≤ 140737488351232 ∧ ∀ y ∈ x, ((Lit.int .i64 y.f0).wf = true ∧ (Lit.int .i64 y.f1).wf = true))) → (Lit.int .i64 a0_1).wf = true → (Lit.int .i64 a1).wf = true → (Lit.int .i64 a2).wf = true → ∃ k, leadtraillaw09_ShapeAll.f k l0_0 a0_1 a1 a2 = some true :=
 fun l0 a fr e h _ hf _ => by
  obtain ⟨k, hk⟩ := PBS.leadtraillaw09_ShapeAll_ev l0 a fr e ⟨h.1, fun x hx => (h.2 x hx).1⟩ (wf_top hf); refine ⟨k, ?_⟩; unfold leadtraillaw09_ShapeAll.f; rw [if_pos hk]
end Go.Proofs.Ytoljcfocgaonpaa.Pure
end
