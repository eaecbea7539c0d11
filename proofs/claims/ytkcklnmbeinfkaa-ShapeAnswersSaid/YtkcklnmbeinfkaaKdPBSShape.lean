/- Words and walks of this claim, of the text PBSShape. -/
import Derived.Test.YtkcklnmbeinfkaaKdBx0
import Derived.Test.YtkcklnmbeinfkaaKdBx4
import Derived.Test.YtkcklnmbeinfkaaKdBx5
import Derived.Test.YtkcklnmbeinfkaaKdBx7
import Derived.Test.YtkcklnmbeinfkaaKdPB3Sets2
import Derived.Test.YtkcklnmbeinfkaaKdPB3Valid
import Derived.Test.YtkcklnmbeinfkaaKdPB4Sets2
import Derived.Test.YtkcklnmbeinfkaaKdShapes
namespace Go.Proofs.Ytkcklnmbeinfkaa.PBS
open Go.RowKit Go.Proofs.YtkcklnmbeinfkaaW.PrintWords Go.Proofs.YtkcklnmbeinfkaaW.PrintLast Go.Proofs.YtkcklnmbeinfkaaW.PrintMore Go.Proofs.Ytkcklnmbeinfkaa.B Go.Proofs.LT Go.Proofs.Ytkcklnmbeinfkaa.PB3
set_option linter.unusedVariables false
set_option linter.unusedSimpArgs false
abbrev Sp := S113
abbrev Ra := S102
abbrev Sh := S50
def runs (p : List Sp) : List Run := p.map L113
def sets (ps : List (List Sp)) : List (List Run) := ps.map runs
def In1 (p : List Sp) : Prop := p.length * 16 ≤ 140737488351232
def In2 (ps : List (List Sp)) : Prop := ps.length * 24 ≤ 140737488351232 ∧ ∀ p ∈ ps, In1 p
def okPart (p : List Sp) : Bool := !(decide (p.length = 0)) && validB 255 (-2) (runs p)
def vShape (ps : List (List Sp)) (a : Int) : Bool := decide (1 ≤ ps.length ∧ ps.length ≤ 8) && (decide (0 ≤ a ∧ a ≤ 1073741823) && (ps.all okPart && decide (a + cnt (sets ps) - 1 ≤ 1073741823)))
theorem okPart_good {p : List Sp} (h : okPart p = true) : ValidFrom 255 (-2) (runs p) ∧ 1 ≤ size (runs p) := by
  simp only [okPart, Bool.and_eq_true, Bool.not_eq_true', decide_eq_false_iff_not] at h
  have hv := (validB_iff _ _ _).1 h.2
  refine ⟨hv, ?_⟩
  have := valid_len hv
  have e : (runs p).length = p.length := List.length_map ..
  omega
theorem good_of {ps : List (List Sp)} (h : ps.all okPart = true) : GoodP (sets ps) := fun s hs => by
  obtain ⟨p, hp, rfl⟩ := List.mem_map.1 hs
  exact okPart_good (List.all_eq_true.1 h p hp)
theorem vShape_good {ps : List (List Sp)} {a : Int} (h : vShape ps a = true) : (1 ≤ ps.length ∧ ps.length ≤ 8) ∧ (0 ≤ a ∧ a ≤ 1073741823) ∧ ps.all okPart = true ∧ GoodP (sets ps) ∧ a + cnt (sets ps) - 1 ≤ 1073741823 := by
  simp only [vShape, Bool.and_eq_true, decide_eq_true_eq] at h
  exact ⟨h.1, h.2.1, h.2.2.1, good_of h.2.2.1, h.2.2.2⟩
theorem sets_drop (ps : List (List Sp)) (i : Nat) : (sets ps).drop i = sets (ps.drop i) := (List.map_drop ..).symm
theorem sets_len (ps : List (List Sp)) : (sets ps).length = ps.length := List.length_map ..
theorem none_is (p : List Sp) (hp : In1 p) : Ev (fun k => scheme_none.f k p) (!okPart p) := by
  simp only [scheme_none.f]
  by_cases c : (p.length : Int) = 0
  · simp only [if_pos c]
    rw [show okPart p = false by simp only [okPart, decide_eq_true (show p.length = 0 by omega)]; rfl]
    exact evNow _
  · simp only [if_neg c]
    have e : okPart p = validB 255 (-2) (runs p) := by simp only [okPart, decide_eq_false (show ¬ p.length = 0 by omega)]; rfl
    rw [e]
    exact Ev.bind (spans_Valid_is p hp) (evNow _)
theorem any_go : ∀ (ps : List (List Sp)), (∀ p ∈ ps, In1 p) → Ev (fun k => slices_anyNone.go k ps) (!(ps.all okPart))
  | [], _ => evNow _
  | p :: t, h => by
    have h1 := none_is p (h p List.mem_cons_self)
    have h2 := any_go t (fun q hq => h q (List.mem_cons_of_mem _ hq))
    refine Ev.bind h1 ?_
    cases hp : okPart p
    · simp only [Bool.not_false, if_true]
      rw [show (!((p :: t).all okPart)) = true by simp [hp]]
      exact evNow _
    · simp only [Bool.not_true, Bool.false_eq_true, if_false]
      rw [show (!((p :: t).all okPart)) = !(t.all okPart) by simp [hp]]
      exact h2
theorem any_is (ps : List (List Sp)) (h : In2 ps) : Ev (fun k => slices_anyNone.f k ps) (!(ps.all okPart)) := by
  simp only [slices_anyNone.f, if_pos (show ps.length ≤ 8796093022206 by have := h.1; omega)]
  exact any_go ps h.2
theorem size_is3 (p : List Sp) (hp : In1 p) (h : okPart p = true) : Ev (fun k => spans_Size.f k p) (size (runs p)) := by
  have := spans_Size_is p hp
  rwa [show p.map L113 = runs p from rfl, setL_of (okPart_good h).1] at this
def capd : Int → List (List Sp) → Int
  | n, [] => n
  | n, p :: t => capd (min (n * size (runs p)) 1073741825) t
theorem capd_is : ∀ (ps : List (List Sp)) (n : Int), ps.all okPart = true → 1 ≤ n → n ≤ 1073741825 → capd n ps = min (n * cnt (sets ps)) 1073741825
  | [], n, _, h0, h1 => by
    show n = min (n * cnt (sets [])) _
    rw [show cnt (sets []) = 1 from cnt_nil]; omega
  | p :: t, n, h, h0, h1 => by
    have hp : okPart p = true ∧ t.all okPart = true := by simpa using h
    have hs := okPart_good hp.1
    have hc := cnt_pos (good_of hp.2)
    show capd (min (n * size (runs p)) 1073741825) t = min (n * cnt (runs p :: sets t)) _
    have hn1 : 1 ≤ n * size (runs p) := by have := Int.mul_le_mul h0 hs.2 (by omega) (by omega); omega
    rw [capd_is t _ hp.2 (by omega) (by omega), cnt_cons, ← Int.mul_assoc]
    generalize n * size (runs p) = m at hn1 ⊢
    rcases (by omega : m ≤ 1073741825 ∨ 1073741825 < m) with q | q
    · rw [show min m 1073741825 = m by omega]
    · rw [show min m 1073741825 = 1073741825 by omega]
      have a1 := Int.mul_le_mul_of_nonneg_left hc (show (0 : Int) ≤ 1073741825 by omega)
      have a2 := Int.mul_le_mul_of_nonneg_right (show (1073741825 : Int) ≤ m by omega) (show 0 ≤ cnt (sets t) by omega)
      omega
theorem rdL (pre : List (List Sp)) (p : List Sp) (t : List (List Sp)) : rd_L4 (pre ++ p :: t) (pre.length : Int) = p := by simp [rd_L4]
theorem last_loop (qs : List (List Sp)) (a : Int) : ∀ (t pre : List (List Sp)) (n : Int), (∀ p ∈ t, In1 p) → t.all okPart = true → (pre ++ t).length ≤ 8 → 1 ≤ n → n ≤ 1073741825 → 0 ≤ a → a ≤ 1073741823 →
    Ev (fun k => scheme_last.l0 k n (pre ++ t) (((pre ++ t).length : Nat) : Int) (pre.length : Int) qs a) (a + capd n t - 1)
  | [], pre, n, _, _, hl, h0, h1, a0, a1 => by
    refine evSucc ?_
    simp only [scheme_last.l0]
    rw [List.append_nil]
    have w1 : Aside0 (wrap64 (wrap64 (a + n) - 1) = a + n - 1) := Aside0.mk (by rw [w64 (x := a + n) (by omega) (by omega), w64 (by omega) (by omega)])
    simp only [if_neg (show ¬ ((pre.length : Nat) : Int) < ((pre.length : Nat) : Int) by omega), w1.out]
    exact evNow _
  | p :: t, pre, n, hi, hk, hl, h0, h1, a0, a1 => by
    have hlc := len_cons pre p t
    have hp : okPart p = true ∧ t.all okPart = true := by simpa using hk
    have hs := okPart_good hp.1
    have hz := size_256 hs.1
    have ih := last_loop qs a t (pre ++ [p]) (min (n * size (runs p)) 1073741825) (fun q hq => hi q (List.mem_cons_of_mem _ hq)) hp.2 (by rw [app_snoc]; exact hl) (by have := Int.mul_le_mul h0 hs.2 (by omega) (by omega); omega) (by omega) a0 a1
    rw [app_snoc, snoc_len] at ih
    have c1 : (pre.length : Int) < ((pre ++ p :: t).length : Nat) := by rw [hlc]; omega
    have c2 : (0 : Int) ≤ pre.length := by omega
    have hpl : pre.length ≤ 8 := by simp at hl; omega
    have m0 : 0 ≤ n * size (runs p) := Int.mul_nonneg (by omega) (by omega)
    have m1 : n * size (runs p) ≤ 1073741825 * 256 := Int.mul_le_mul h1 hz (by omega) (by omega)
    have w1 : Aside0 (wrap64 ((pre.length : Int) + 1) = (pre.length : Int) + 1) := Aside0.mk (w64 (by omega) (by omega))
    have w2 : Aside0 (wrap64 (n * size (runs p)) = n * size (runs p)) := Aside0.mk (w64 (by omega) (by omega))
    refine evSucc ?_
    simp only [scheme_last.l0, if_pos c1, if_pos c2, rdL]
    refine Ev.bind (size_is3 p (hi p List.mem_cons_self) hp.1) ?_
    simp only [w1.out, w2.out, mn_eq]
    exact ih
def lastOf (p : Sh) : Int := p.f1 + cnt (sets p.f0) - 1
theorem last_is (ps : List (List Sp)) (a : Int) (hi : In2 ps) (hk : ps.all okPart = true) (hl : ps.length ≤ 8) (a0 : 0 ≤ a) (a1 : a ≤ 1073741823) :
    Ev (fun k => scheme_last.f k ps a) (a + min (cnt (sets ps)) 1073741825 - 1) := by
  have h := last_loop ps a ps [] 1 hi.2 hk (by simpa using hl) (by omega) (by omega) a0 a1
  rw [capd_is ps 1 hk (by omega) (by omega), Int.one_mul] at h
  simpa [scheme_last.f] using h
def InS (ss : List Sh) : Prop := ss.length * 32 ≤ 140737488351232 ∧ ∀ p ∈ ss, In2 p.f0
def meetsB (p q : Sh) : Bool := decide (p.f1 ≤ lastOf q) && decide (q.f1 ≤ lastOf p)
def vS : List Sh → List Sh → Bool
  | _, [] => true
  | pre, p :: t => vShape p.f0 p.f1 && (!(pre.any (meetsB p)) && vS (pre ++ [p]) t)
def vScheme (ss : List Sh) : Bool := decide (ss.length ≤ 32) && vS [] ss
theorem rdSh (pre : List Sh) (p : Sh) (t : List Sh) : rd_T50 (pre ++ p :: t) (pre.length : Int) = p := by simp [rd_T50]
theorem one_mem {x y z : Int} : Mem ([(⟨x, y⟩ : Ra)].map PB4.L102) z ↔ (x ≤ z ∧ z ≤ y) := by
  show Mem [(x, y)] z ↔ _
  rw [mem_cons]
  exact ⟨fun h => by rcases h with h | h; exact h; exact (Mem.nil h).elim, fun h => .inl h⟩
def Taken (pre : List Sh) (x : Int) : Prop := ∃ q ∈ pre, q.f1 ≤ x ∧ x ≤ lastOf q
theorem valid_loop3 (N : Nat) (hN : N ≤ 4398046511103) : ∀ (t pre : List Sh) (tk : List Ra), (pre ++ t).length ≤ N → (∀ p ∈ t, In2 p.f0) → (∀ q ∈ pre, 0 ≤ q.f1 ∧ q.f1 ≤ lastOf q ∧ lastOf q ≤ 1073741823) → PB4.scalars_IsSet tk (Taken pre) →
    Ev (fun k => scheme_Valid.l0 k tk (pre ++ t) (((pre ++ t).length : Nat) : Int) (pre.length : Int)) (vS pre t)
  | [], pre, tk, _, _, _, _ => by
    refine evSucc ?_
    simp only [scheme_Valid.l0]
    rw [List.append_nil]
    simp only [if_neg (show ¬ ((pre.length : Nat) : Int) < ((pre.length : Nat) : Int) by omega)]
    exact evNow _
  | p :: t, pre, tk, hl, hi, hq, ht => by
    have hlc := len_cons pre p t
    have hpl : pre.length ≤ N := by simp at hl; omega
    have c1 : (pre.length : Int) < ((pre ++ p :: t).length : Nat) := by rw [hlc]; omega
    have c2 : (0 : Int) ≤ pre.length := by omega
    have hw : Aside0 (wrap64 ((pre.length : Int) + 1) = (pre.length : Int) + 1) := Aside0.mk (w64 (by omega) (by omega))
    have hip := hi p List.mem_cons_self
    have no : vShape p.f0 p.f1 = false → vS pre (p :: t) = false := fun h => by show (vShape p.f0 p.f1 && _) = false; rw [h, Bool.false_and]
    have jT : Ev (fun k => scheme_Valid.j1 k tk (pre ++ p :: t) (((pre ++ p :: t).length : Nat) : Int) (pre.length : Int) true p.f0 p.f1) false := by
      refine evSucc ?_
      simp only [scheme_Valid.j1, if_true]
      exact evNow _
    refine evSucc ?_
    simp only [scheme_Valid.l0, if_pos c1, if_pos c2, rdSh]
    by_cases d1 : (p.f0.length : Int) < 1
    · simp only [if_pos d1]
      rw [no (by simp only [vShape, decide_eq_false (show ¬ (1 ≤ p.f0.length ∧ p.f0.length ≤ 8) by omega), Bool.false_and])]
      exact jT
    by_cases d2 : (p.f0.length : Int) > 8
    · simp only [if_neg d1, if_pos d2]
      rw [no (by simp only [vShape, decide_eq_false (show ¬ (1 ≤ p.f0.length ∧ p.f0.length ≤ 8) by omega), Bool.false_and])]
      exact jT
    by_cases d3 : p.f1 < 0
    · simp only [if_neg d1, if_neg d2, if_pos d3]
      rw [no (by simp only [vShape, decide_eq_false (show ¬ (0 ≤ p.f1 ∧ p.f1 ≤ 1073741823) by omega), Bool.false_and, Bool.and_false])]
      exact jT
    by_cases d4 : p.f1 > 1073741823
    · simp only [if_neg d1, if_neg d2, if_neg d3, if_pos d4]
      rw [no (by simp only [vShape, decide_eq_false (show ¬ (0 ≤ p.f1 ∧ p.f1 ≤ 1073741823) by omega), Bool.false_and, Bool.and_false])]
      exact jT
    simp only [if_neg d1, if_neg d2, if_neg d3, if_neg d4]
    refine Ev.bind (any_is p.f0 hip) ?_
    cases ha : p.f0.all okPart
    · rw [no (by simp only [vShape, ha, Bool.false_and, Bool.and_false])]
      exact jT
    have hg := good_of ha
    have hc := cnt_pos hg
    have hlast := last_is p.f0 p.f1 hip ha (by omega) (by omega) (by omega)
    refine evSucc ?_
    simp only [Bool.not_true, scheme_Valid.j1, Bool.false_eq_true, if_false]
    refine Ev.bind hlast ?_
    simp only [Option.bind_some]
    have c3 : (0 : Int) < (([(⟨p.f1, p.f1 + min (cnt (sets p.f0)) 1073741825 - 1⟩ : Ra)].length : Nat) : Int) := by simp
    simp only [if_pos c3]
    have e3 : (rd_T102 [(⟨p.f1, p.f1 + min (cnt (sets p.f0)) 1073741825 - 1⟩ : Ra)] 0).f1 = p.f1 + min (cnt (sets p.f0)) 1073741825 - 1 := rfl
    simp only [e3]
    by_cases d5 : p.f1 + min (cnt (sets p.f0)) 1073741825 - 1 > 1073741823
    · simp only [if_pos d5]
      rw [no (by simp only [vShape, decide_eq_false (show ¬ (p.f1 + cnt (sets p.f0) - 1 ≤ 1073741823) by omega), Bool.and_false])]
      exact evNow _
    have hmin : min (cnt (sets p.f0)) 1073741825 = cnt (sets p.f0) := by omega
    have hvp : vShape p.f0 p.f1 = true := by
      simp only [vShape, ha, Bool.true_and, decide_eq_true (show 1 ≤ p.f0.length ∧ p.f0.length ≤ 8 by omega), decide_eq_true (show 0 ≤ p.f1 ∧ p.f1 ≤ 1073741823 by omega), decide_eq_true (show p.f1 + cnt (sets p.f0) - 1 ≤ 1073741823 by omega)]
    simp only [hmin] at d5 ⊢
    simp only [if_neg d5]
    have small : tk.length * 16 ≤ 140737488351232 := by have := ht.2.1; omega
    have hvr : ValidFrom 1073741823 (-2) ([(⟨p.f1, p.f1 + cnt (sets p.f0) - 1⟩ : Ra)].map PB4.L102) := ⟨by show 0 ≤ p.f1; omega, by show p.f1 ≤ p.f1 + cnt (sets p.f0) - 1; omega, by show p.f1 + cnt (sets p.f0) - 1 ≤ 1073741823; omega, by show (-2 : Int) < p.f1 - 1; omega, trivial⟩
    obtain ⟨m, m1, m2⟩ := PB4.scalars_Meet_is tk [(⟨p.f1, p.f1 + cnt (sets p.f0) - 1⟩ : Ra)] small (by simp)
    obtain ⟨u, u1, u2⟩ := PB4.scalars_Union_is tk [(⟨p.f1, p.f1 + cnt (sets p.f0) - 1⟩ : Ra)] small (by simp)
    have mm : ∀ x, Mem (m.map PB4.L102) x ↔ (Taken pre x ∧ p.f1 ≤ x ∧ x ≤ lastOf p) := fun x => by
      have h0 := m2.2.2 x
      simp only [PB4.setL_of ht.1, PB4.setL_of hvr, one_mem, ht.2.2 x] at h0
      exact h0
    have hmt : (m.length : Int) > 0 ↔ pre.any (meetsB p) = true := by
      constructor
      · intro hm
        cases m with
        | nil => simp at hm
        | cons r s =>
          have hr := m2.1.each (PB4.L102 r) (List.mem_cons_self)
          obtain ⟨⟨q, hq1, hq2, hq3⟩, h4, h5⟩ := (mm (PB4.L102 r).1).1 ⟨_, List.mem_cons_self, Int.le_refl _, hr.2.1⟩
          refine List.any_eq_true.2 ⟨q, hq1, ?_⟩
          simp only [meetsB, Bool.and_eq_true, decide_eq_true_eq]
          omega
      · intro hm
        obtain ⟨q, hq1, hq2⟩ := List.any_eq_true.1 hm
        simp only [meetsB, Bool.and_eq_true, decide_eq_true_eq] at hq2
        have hqq := hq q hq1
        have hpp : p.f1 ≤ lastOf p := by show p.f1 ≤ p.f1 + cnt (sets p.f0) - 1; omega
        have := (mm (max p.f1 q.f1)).2 ⟨⟨q, hq1, by omega, by omega⟩, by omega, by omega⟩
        cases m with
        | nil => exact (Mem.nil this).elim
        | cons r s => simp
    refine Ev.bind m1 ?_
    by_cases d6 : (m.length : Int) > 0
    · simp only [if_pos d6]
      rw [show vS pre (p :: t) = false by show (vShape p.f0 p.f1 && (!(pre.any (meetsB p)) && _)) = false; rw [hmt.1 d6]; simp]
      exact evNow _
    · simp only [if_neg d6]
      rw [show vS pre (p :: t) = vS (pre ++ [p]) t by
        show (vShape p.f0 p.f1 && (!(pre.any (meetsB p)) && vS (pre ++ [p]) t)) = _
        rw [hvp, show pre.any (meetsB p) = false by simpa using fun h => d6 (hmt.2 h)]; rfl]
      refine Ev.bind u1 ?_
      simp only [hw.out]
      have ih := valid_loop3 N hN t (pre ++ [p]) u (by rw [app_snoc]; exact hl) (fun q hq => hi q (List.mem_cons_of_mem _ hq))
        (fun q hq' => by
          rcases List.mem_append.1 hq' with h | h
          · exact hq q h
          · rw [List.mem_singleton.1 h]; show 0 ≤ p.f1 ∧ p.f1 ≤ p.f1 + cnt (sets p.f0) - 1 ∧ p.f1 + cnt (sets p.f0) - 1 ≤ 1073741823; omega)
        ⟨u2.1, u2.2.1, fun x => by
          have h0 := u2.2.2 x
          simp only [PB4.setL_of ht.1, PB4.setL_of hvr, one_mem, ht.2.2 x] at h0
          rw [h0]
          constructor
          · rintro (⟨q, h1, h2⟩ | h)
            · exact ⟨q, List.mem_append_left _ h1, h2⟩
            · exact ⟨p, List.mem_append_right _ (List.mem_singleton.2 rfl), h⟩
          · rintro ⟨q, h1, h2⟩
            rcases List.mem_append.1 h1 with h1 | h1
            · exact .inl ⟨q, h1, h2⟩
            · rw [List.mem_singleton.1 h1] at h2; exact .inr h2⟩
      rw [app_snoc, snoc_len] at ih
      exact ih
theorem schemeValid_is (ss : List Sh) (h : InS ss) : Ev (fun k => scheme_Valid.f k ss) (vScheme ss) := by
  simp only [scheme_Valid.f]
  by_cases c : (ss.length : Int) > 32
  · simp only [if_pos c]
    rw [show vScheme ss = false by simp only [vScheme, decide_eq_false (show ¬ ss.length ≤ 32 by omega), Bool.false_and]]
    exact evNow _
  · simp only [if_neg c]
    rw [show vScheme ss = vS [] ss by simp only [vScheme, decide_eq_true (show ss.length ≤ 32 by omega), Bool.true_and]]
    have := valid_loop3 32 (by omega) ss [] [] (by simp; omega) h.2 (fun q hq => by cases hq) ⟨trivial, by simp, fun x => ⟨fun h => (Mem.nil h).elim, fun ⟨q, hq, _⟩ => by cases hq⟩⟩
    simpa using this
theorem shapeValid_is (ps : List (List Sp)) (a : Int) (h : In2 ps) : Ev (fun k => shape_Valid.f k ps a) (vShape ps a) := by
  simp only [shape_Valid.f]
  have := schemeValid_is [⟨ps, a⟩] ⟨by simp, fun p hp => by rw [List.mem_singleton.1 hp]; exact h⟩
  refine Ev.bind this ?_
  rw [show vScheme [⟨ps, a⟩] = vShape ps a by show (_ && (vShape ps a && (_ && true))) = _; simp]
  exact evNow _
end Go.Proofs.Ytkcklnmbeinfkaa.PBS
