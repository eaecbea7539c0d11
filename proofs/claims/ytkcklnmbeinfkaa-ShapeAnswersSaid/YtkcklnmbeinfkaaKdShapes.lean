/- Words and walks of this claim, of the text Shapes. -/
import Derived.Test.YtkcklnmbeinfkaaKdSets
namespace Go.Proofs.LT
set_option linter.unusedVariables false
def cnt : List (List Run) → Int
  | [] => 1
  | s :: t => size s * cnt t
def GoodP (ps : List (List Run)) : Prop := ∀ s ∈ ps, ValidFrom 255 (-2) s ∧ 1 ≤ size s
theorem GoodP.head {s : List Run} {t : List (List Run)} (h : GoodP (s :: t)) : ValidFrom 255 (-2) s ∧ 1 ≤ size s := h s List.mem_cons_self
theorem GoodP.tail {s : List Run} {t : List (List Run)} (h : GoodP (s :: t)) : GoodP t := fun x hx => h x (List.mem_cons_of_mem _ hx)
theorem GoodP.drop {ps : List (List Run)} (h : GoodP ps) (i : Nat) : GoodP (ps.drop i) := fun x hx => h x (List.mem_of_mem_drop hx)
theorem cnt_pos : ∀ {ps : List (List Run)}, GoodP ps → 1 ≤ cnt ps
  | [], _ => by show (1 : Int) ≤ 1; omega
  | s :: t, h => by
    have h1 := cnt_pos h.tail
    have h2 := h.head.2
    show 1 ≤ size s * cnt t
    have := Int.mul_le_mul h2 h1 (by omega) (by omega)
    omega
theorem cnt_tail {s : List Run} {t : List (List Run)} (h : GoodP (s :: t)) : cnt t ≤ cnt (s :: t) := by
  have h1 := cnt_pos h.tail
  have h2 := h.head.2
  show cnt t ≤ size s * cnt t
  have := Int.mul_le_mul_of_nonneg_right h2 (show 0 ≤ cnt t by omega)
  omega
theorem cnt_drop {ps : List (List Run)} : ∀ (i : Nat), GoodP ps → cnt (ps.drop i) ≤ cnt ps
  | 0, _ => by rw [List.drop_zero]; omega
  | i + 1, h => by
    cases ps with
    | nil => simp
    | cons s t =>
      have := cnt_drop (ps := t) i h.tail
      have := cnt_tail h
      rw [List.drop_succ_cons]; omega
theorem size_256 {s : List Run} (h : ValidFrom 255 (-2) s) : size s ≤ 256 := by have := size_le h (by omega); omega
noncomputable def selV (s : List Run) (d : Int) : Int := Classical.epsilon fun x => Mem s x ∧ (cd (memB s) x.toNat : Int) = d
theorem selV_spec {s : List Run} {d : Int} (hv : ValidFrom 255 (-2) s) (h0 : 0 ≤ d) (h1 : d < size s) : Mem s (selV s d) ∧ (cd (memB s) (selV s d).toNat : Int) = d := by
  have hz := cd_size (n := 256) hv (by omega)
  obtain ⟨m, m1, m2, m3⟩ := cd_exists (memB s) (n := 256) (k := d.toNat) (by omega)
  exact Classical.epsilon_spec (p := fun x : Int => Mem s x ∧ (cd (memB s) x.toNat : Int) = d) ⟨m, memB_iff.1 m2, by rw [Int.toNat_natCast, m3]; omega⟩
theorem cd_less {s : List Run} {x : Int} (hv : ValidFrom 255 (-2) s) (hx : Mem s x) : (cd (memB s) x.toNat : Int) < size s := by
  have hr := hv.range hx
  have hz := cd_size (n := 256) hv (by omega)
  have := cd_lt (memB s) (m := x.toNat) (n := 256) (by omega) (by rw [Int.toNat_of_nonneg hr.1]; exact memB_iff.2 hx)
  omega
theorem mem_uniq {s : List Run} {x y : Int} (hv : ValidFrom 255 (-2) s) (hx : Mem s x) (hy : Mem s y) (h : cd (memB s) x.toNat = cd (memB s) y.toNat) : x = y := by
  have rx := hv.range hx
  have ry := hv.range hy
  have := cd_inj (memB s) (m := x.toNat) (n := y.toNat) (by rw [Int.toNat_of_nonneg rx.1]; exact memB_iff.2 hx) (by rw [Int.toNat_of_nonneg ry.1]; exact memB_iff.2 hy) h
  omega
theorem selV_rank {s : List Run} {x : Int} (hv : ValidFrom 255 (-2) s) (hx : Mem s x) : selV s (cd (memB s) x.toNat) = x := by
  have h := selV_spec hv (d := (cd (memB s) x.toNat : Int)) (by omega) (cd_less hv hx)
  exact mem_uniq hv h.1 hx (by omega)
noncomputable def unr : List (List Run) → Int → List Int
  | [], _ => []
  | s :: t, k => selV s (k / cnt t) :: unr t (k % cnt t)
def rnk : List (List Run) → List Int → Option Int
  | [], [] => some 0
  | s :: t, b :: bs => if memB s b = true then (rnk t bs).map (fun r => (cd (memB s) b.toNat : Int) * cnt t + r) else none
  | _, _ => none
theorem unr_len : ∀ (ps : List (List Run)) (k : Int), (unr ps k).length = ps.length
  | [], _ => rfl
  | s :: t, k => by simp [unr, unr_len t]
theorem digit {c k z : Int} (hc : 1 ≤ c) (h0 : 0 ≤ k) (h1 : k < z * c) : 0 ≤ k / c ∧ k / c < z ∧ 0 ≤ k % c ∧ k % c < c :=
  ⟨Int.ediv_nonneg h0 (by omega), Int.ediv_lt_of_lt_mul (by omega) h1, Int.emod_nonneg _ (by omega), Int.emod_lt_of_pos _ (by omega)⟩
def SP : List (List Run) → List Int
  | [] => [1]
  | s :: t => (size s * cnt t) :: SP t
theorem SP_cons : ∀ ps, SP ps = cnt ps :: (SP ps).tail
  | [] => rfl
  | s :: t => rfl
theorem SP_len : ∀ ps, (SP ps).length = ps.length + 1
  | [] => rfl
  | s :: t => by show (SP t).length + 1 = _; rw [SP_len t]; rfl
theorem SP_at : ∀ (ps : List (List Run)) (i : Nat), i ≤ ps.length → (SP ps)[i]? = some (cnt (ps.drop i))
  | ps, 0, _ => by rw [SP_cons]; rfl
  | [], i + 1, h => by simp at h
  | s :: t, i + 1, h => by
    show ((size s * cnt t) :: SP t)[i + 1]? = _
    rw [List.getElem?_cons_succ, SP_at t i (by simpa using h)]; rfl
theorem cnt_nil : cnt [] = 1 := rfl
theorem cnt_cons (s : List Run) (t : List (List Run)) : cnt (s :: t) = size s * cnt t := rfl
theorem unr_nil (k : Int) : unr [] k = [] := rfl
theorem unr_cons (s : List Run) (t : List (List Run)) (k : Int) : unr (s :: t) k = selV s (k / cnt t) :: unr t (k % cnt t) := rfl
theorem rnk_nil : rnk [] [] = some 0 := rfl
theorem rnk_cons (s : List Run) (t : List (List Run)) (b : Int) (bs : List Int) : rnk (s :: t) (b :: bs) = if memB s b = true then (rnk t bs).map (fun r => (cd (memB s) b.toNat : Int) * cnt t + r) else none := rfl
theorem rnk_len : ∀ {ps : List (List Run)} {bs : List Int} {k : Int}, rnk ps bs = some k → bs.length = ps.length
  | [], [], _, _ => rfl
  | [], _ :: _, _, h => by cases h
  | _ :: _, [], _, h => by cases h
  | s :: t, b :: bs, k, h => by
    have h' : (if memB s b = true then (rnk t bs).map (fun r => (cd (memB s) b.toNat : Int) * cnt t + r) else none) = some k := h
    by_cases hm : memB s b = true
    · rw [if_pos hm] at h'
      obtain ⟨r, hr, _⟩ := Option.map_eq_some_iff.1 h'
      simp [rnk_len hr]
    · rw [if_neg hm] at h'; cases h'
attribute [irreducible] cnt unr rnk
end Go.Proofs.LT
