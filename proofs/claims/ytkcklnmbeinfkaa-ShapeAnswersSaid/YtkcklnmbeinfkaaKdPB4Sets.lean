/- Words and walks of this claim, of the text PB4Sets. -/
import Derived.Test.YtkcklnmbeinfkaaKdBx0
import Derived.Test.YtkcklnmbeinfkaaKdBx3
import Derived.Test.YtkcklnmbeinfkaaKdBx4
import Derived.Test.YtkcklnmbeinfkaaKdBx5
import Derived.Test.YtkcklnmbeinfkaaKdBx6
import Derived.Test.YtkcklnmbeinfkaaKdBx8
import Derived.Test.YtkcklnmbeinfkaaKdBx9
import Derived.Test.YtkcklnmbeinfkaaKdBx12
import Derived.Test.YtkcklnmbeinfkaaKdBx11
import Derived.Test.YtkcklnmbeinfkaaKdSets
import Derived.OpenShut
namespace Go.Proofs.Ytkcklnmbeinfkaa.PB4
open Go.RowKit Go.Proofs.YtkcklnmbeinfkaaW.PrintWords Go.Proofs.YtkcklnmbeinfkaaW.PrintLast Go.Proofs.YtkcklnmbeinfkaaW.PrintMore Go.Proofs.Ytkcklnmbeinfkaa.B Go.Proofs.LT
set_option linter.unusedVariables false
set_option linter.unusedSimpArgs false
theorem evSucc {α : Type} {g : Nat → Option α} {r : α} (h : Ev (fun k => g (k + 1)) r) : Ev g r := Ev.step (fun _ => rfl) h
theorem evNow {α : Type} (r : α) : Ev (fun _ => some r) r := Ev.now r
theorem w64 {x : Int} (h0 : -9223372036854775808 ≤ x) (h1 : x ≤ 9223372036854775807) : wrap64 x = x := by unfold wrap64; omega
def L139 (x : S139) : Run := (x.f0, x.f1)
def L102 (x : S102) : Run := (x.f0, x.f1)
theorem L102_inj : ∀ {a b : List S102}, a.map L102 = b.map L102 → a = b
  | [], [], _ => rfl
  | [], _ :: _, h => by simp at h
  | _ :: _, [], h => by simp at h
  | ⟨_, _⟩ :: t, ⟨_, _⟩ :: t', h => by
    simp only [List.map_cons, List.cons.injEq, L102, Prod.mk.injEq] at h
    obtain ⟨⟨rfl, rfl⟩, h⟩ := h
    rw [L102_inj h]
theorem rd139 (pre : List S139) (r : S139) (t : List S139) : rd_T139 (pre ++ r :: t) (pre.length : Int) = r := by simp [rd_T139]
theorem rd102 (pre : List S102) (r : S102) (t : List S102) : rd_T102 (pre ++ r :: t) (pre.length : Int) = r := by simp [rd_T102]
theorem snoc_len {α : Type} (pre : List α) (r : α) : (((pre ++ [r]).length : Nat) : Int) = (pre.length : Int) + 1 := by simp
theorem app_snoc {α : Type} (pre : List α) (r : α) (t : List α) : (pre ++ [r]) ++ t = pre ++ r :: t := by simp
theorem len_cons {α : Type} (pre : List α) (r : α) (t : List α) : (((pre ++ r :: t).length : Nat) : Int) = pre.length + 1 + t.length := by simp; omega
def api_Range_c (x : S102) : S139 := ⟨x.f0, x.f1⟩
theorem api_Range_loop (N : Nat) (hN : N ≤ 8796093022206) : ∀ (t pre : List S102) (out : List S139), (pre ++ t).length ≤ N → out.length = pre.length → Ev (fun k => api_Range.l0 k out (pre ++ t) (((pre ++ t).length : Nat) : Int) (pre.length : Int)) (out ++ t.map api_Range_c)
  | [], pre, out, _, _ => by
    refine evSucc ?_
    simp only [api_Range.l0]
    rw [List.append_nil]
    simp only [if_neg (show ¬ ((pre.length : Nat) : Int) < ((pre.length : Nat) : Int) by omega)]
    simpa using evNow out
  | r :: t, pre, out, hl, ho => by
    have hlc := len_cons pre r t
    have hlt : out.length < 8796093022208 := by simp at hl; omega
    have ih := api_Range_loop N hN t (pre ++ [r]) (out ++ [api_Range_c r]) (by rw [app_snoc]; exact hl) (by simp [ho])
    rw [app_snoc, snoc_len] at ih
    refine evSucc ?_
    have hw : Aside0 (wrap64 ((pre.length : Int) + 1) = (pre.length : Int) + 1) := Aside0.mk (w64 (by omega) (by simp at hl; omega))
    have c1 : (pre.length : Int) < ((pre ++ r :: t).length : Nat) := by rw [hlc]; omega
    have c2 : (0 : Int) ≤ pre.length := by omega
    simp only [api_Range.l0, if_pos c1, if_pos c2, if_pos hlt, rd102, hw.out]
    simpa [api_Range_c] using ih
theorem api_Range_is (l : List S102) (hl : l.length * 16 ≤ 140737488351232) : Ev (fun k => api_Range.f k l) (l.map api_Range_c) := by
  have h := api_Range_loop l.length (by omega) l [] [] (by simp) rfl
  have c1 : (0 : Int) ≤ (l.length : Int) := by omega
  have c2 : ((l.length : Int) : Int).toNat ≤ 17592186044416 := by omega
  simp only [api_Range.f, if_pos c1, if_pos c2]
  simpa using h
theorem api_Range_len (l : List S102) : (l.map api_Range_c).map L139 = l.map L102 := by rw [List.map_map]; rfl
def sets_Run_140_c (x : S139) : S102 := ⟨x.f0, x.f1⟩
theorem sets_Run_140_loop (N : Nat) (hN : N ≤ 8796093022206) : ∀ (t pre : List S139) (out : List S102), (pre ++ t).length ≤ N → out.length = pre.length → Ev (fun k => sets_Run_140.l0 k out (pre ++ t) (((pre ++ t).length : Nat) : Int) (pre.length : Int)) (out ++ t.map sets_Run_140_c)
  | [], pre, out, _, _ => by
    refine evSucc ?_
    simp only [sets_Run_140.l0]
    rw [List.append_nil]
    simp only [if_neg (show ¬ ((pre.length : Nat) : Int) < ((pre.length : Nat) : Int) by omega)]
    simpa using evNow out
  | r :: t, pre, out, hl, ho => by
    have hlc := len_cons pre r t
    have hlt : out.length < 8796093022208 := by simp at hl; omega
    have ih := sets_Run_140_loop N hN t (pre ++ [r]) (out ++ [sets_Run_140_c r]) (by rw [app_snoc]; exact hl) (by simp [ho])
    rw [app_snoc, snoc_len] at ih
    refine evSucc ?_
    have hw : Aside0 (wrap64 ((pre.length : Int) + 1) = (pre.length : Int) + 1) := Aside0.mk (w64 (by omega) (by simp at hl; omega))
    have c1 : (pre.length : Int) < ((pre ++ r :: t).length : Nat) := by rw [hlc]; omega
    have c2 : (0 : Int) ≤ pre.length := by omega
    simp only [sets_Run_140.l0, if_pos c1, if_pos c2, if_pos hlt, rd139, hw.out]
    simpa [sets_Run_140_c] using ih
theorem sets_Run_140_is (l : List S139) (hl : l.length * 16 ≤ 140737488351232) : Ev (fun k => sets_Run_140.f k l) (l.map sets_Run_140_c) := by
  have h := sets_Run_140_loop l.length (by omega) l [] [] (by simp) rfl
  have c1 : (0 : Int) ≤ (l.length : Int) := by omega
  have c2 : ((l.length : Int) : Int).toNat ≤ 17592186044416 := by omega
  simp only [sets_Run_140.f, if_pos c1, if_pos c2]
  simpa using h
theorem sets_Run_140_len (l : List S139) : (l.map sets_Run_140_c).map L102 = l.map L139 := by rw [List.map_map]; rfl
theorem valid_loop (N : Nat) (hN : N ≤ 8796093022206) (top : Int) (ht : top ≤ 1073741823) : ∀ (t pre : List S139) (last : Int), (pre ++ t).length ≤ N → Ev (fun k => sets_Valid.l0 k top last (pre ++ t) (((pre ++ t).length : Nat) : Int) (pre.length : Int)) (validB top last (t.map L139))
  | [], pre, last, _ => by
    refine evSucc ?_
    simp only [sets_Valid.l0]
    rw [List.append_nil]
    simp only [if_neg (show ¬ ((pre.length : Nat) : Int) < ((pre.length : Nat) : Int) by omega)]
    rw [show validB top last (([] : List S139).map L139) = true from validB_nil _ _]
    exact evNow _
  | r :: t, pre, last, hl => by
    have hlc := len_cons pre r t
    have ih := valid_loop N hN top ht t (pre ++ [r]) r.f1 (by rw [app_snoc]; exact hl)
    rw [app_snoc, snoc_len] at ih
    refine evSucc ?_
    have hw : Aside0 (wrap64 ((pre.length : Int) + 1) = (pre.length : Int) + 1) := Aside0.mk (w64 (by omega) (by simp at hl; omega))
    have c1 : (pre.length : Int) < ((pre ++ r :: t).length : Nat) := by rw [hlc]; omega
    have c2 : (0 : Int) ≤ pre.length := by omega
    simp only [sets_Valid.l0, if_pos c1, if_pos c2, rd139, hw.out, List.map_cons, validB_cons, L139]
    by_cases d1 : r.f0 < 0
    · simp only [if_pos d1]; exact evNow _
    by_cases d2 : r.f0 > r.f1
    · simp only [if_neg d1, if_pos d2]; exact evNow _
    by_cases d3 : r.f1 > top
    · simp only [if_neg d1, if_neg d2, if_pos d3]; exact evNow _
    have hw2 : Aside0 (wrap64 (r.f0 - 1) = r.f0 - 1) := Aside0.mk (w64 (by omega) (by omega))
    simp only [if_neg d1, if_neg d2, if_neg d3, hw2.out]
    by_cases d4 : r.f0 - 1 ≤ last
    · simp only [if_pos d4]; exact evNow _
    · simp only [if_neg d4]; exact ih
theorem valid_is (top : Int) (ht : top ≤ 1073741823) (l : List S139) (hl : l.length ≤ 8796093022206) : Ev (fun k => sets_Valid.f k l top) (validB top (-2) (l.map L139)) := by
  have h := valid_loop l.length hl top ht l [] (-2) (by simp)
  simpa [sets_Valid.f] using h
theorem size_loop (N : Nat) (hN : N ≤ 8796093022206) (top : Int) (ht : top ≤ 1073741823) : ∀ (t pre : List S139) (last acc : Int), (pre ++ t).length ≤ N → ValidFrom top last (t.map L139) → 0 ≤ acc → acc + size (t.map L139) ≤ 4294967296 →
    Ev (fun k => sets_Size.l0 k acc (pre ++ t) (((pre ++ t).length : Nat) : Int) (pre.length : Int)) (acc + size (t.map L139))
  | [], pre, last, acc, _, _, _, _ => by
    refine evSucc ?_
    simp only [sets_Size.l0]
    rw [List.append_nil]
    simp only [if_neg (show ¬ ((pre.length : Nat) : Int) < ((pre.length : Nat) : Int) by omega)]
    simpa [size_nil] using evNow acc
  | r :: t, pre, last, acc, hl, hv, h0, h1 => by
    have hlc := len_cons pre r t
    have hs := size_nonneg hv.2.2.2.2
    have e1 : size ((r :: t).map L139) = (r.f1 - r.f0 + 1) + size (t.map L139) := size_cons _ _
    have v0 : 0 ≤ r.f0 := hv.1
    have v1 : r.f0 ≤ r.f1 := hv.2.1
    have v2 : r.f1 ≤ top := hv.2.2.1
    have ih := size_loop N hN top ht t (pre ++ [r]) r.f1 (acc + (r.f1 - r.f0 + 1)) (by rw [app_snoc]; exact hl) hv.2.2.2.2 (by omega) (by omega)
    rw [app_snoc, snoc_len] at ih
    refine evSucc ?_
    have hw : Aside0 (wrap64 ((pre.length : Int) + 1) = (pre.length : Int) + 1) := Aside0.mk (w64 (by omega) (by simp at hl; omega))
    have c1 : (pre.length : Int) < ((pre ++ r :: t).length : Nat) := by rw [hlc]; omega
    have c2 : (0 : Int) ≤ pre.length := by omega
    have w1 : Aside0 (wrap64 (r.f1 - r.f0) = r.f1 - r.f0) := Aside0.mk (w64 (by omega) (by omega))
    have w2 : Aside0 (wrap64 (r.f1 - r.f0 + 1) = r.f1 - r.f0 + 1) := Aside0.mk (w64 (by omega) (by omega))
    have w3 : Aside0 (wrap64 (acc + (r.f1 - r.f0 + 1)) = acc + (r.f1 - r.f0 + 1)) := Aside0.mk (w64 (by omega) (by omega))
    simp only [sets_Size.l0, if_pos c1, if_pos c2, rd139, hw.out, w1.out, w2.out, w3.out]
    have e2 : acc + size ((r :: t).map L139) = acc + (r.f1 - r.f0 + 1) + size (t.map L139) := by omega
    rw [e2]
    exact ih
theorem size_is (top : Int) (ht : top ≤ 1073741823) (l : List S139) (hl : l.length ≤ 8796093022206) (hv : ValidFrom top (-2) (l.map L139)) : Ev (fun k => sets_Size.f k l) (size (l.map L139)) := by
  have h0 : (0:Int) ≤ top ∨ l = [] := by
    cases l with
    | nil => exact .inr rfl
    | cons r t => have := hv.1; have := hv.2.1; have := hv.2.2.1; exact .inl (by omega)
  have hs : size (l.map L139) ≤ 4294967296 := by
    rcases h0 with h0 | rfl
    · have := size_le hv h0; omega
    · simp [size_nil]
  have h := size_loop l.length hl top ht l [] (-2) 0 (by simp) hv (by omega) (by omega)
  simpa [sets_Size.f] using h
def rankL (l : List Run) (x : Int) : Int × Bool := if memB l x = true then ((cd (memB l) x.toNat : Int), true) else (0, false)
theorem rank_loop (N : Nat) (hN : N ≤ 8796093022206) (top : Int) (ht : top ≤ 1073741823) (x : Int) (hx : (Lit.int .i64 x).wf = true) : ∀ (t pre : List S139) (last acc : Int), (pre ++ t).length ≤ N → ValidFrom top last (t.map L139) → 0 ≤ acc → acc + size (t.map L139) ≤ 4294967296 →
    Ev (fun k => sets_Rank.l0 k x acc (pre ++ t) (((pre ++ t).length : Nat) : Int) (pre.length : Int)) (if memB (t.map L139) x = true then (acc + (cd (memB (t.map L139)) x.toNat : Int), true) else (0, false))
  | [], pre, last, acc, _, _, _, _ => by
    refine evSucc ?_
    simp only [sets_Rank.l0]
    rw [List.append_nil]
    simp only [if_neg (show ¬ ((pre.length : Nat) : Int) < ((pre.length : Nat) : Int) by omega)]
    simpa [memB] using evNow ((0 : Int), false)
  | r :: t, pre, last, acc, hl, hv, h0, h1 => by
    have hlc := len_cons pre r t
    have hs := size_nonneg hv.2.2.2.2
    have e1 : size ((r :: t).map L139) = (r.f1 - r.f0 + 1) + size (t.map L139) := size_cons _ _
    have v0 : 0 ≤ r.f0 := hv.1
    have v1 : r.f0 ≤ r.f1 := hv.2.1
    have v2 : r.f1 ≤ top := hv.2.2.1
    have ih := rank_loop N hN top ht x hx t (pre ++ [r]) r.f1 (acc + (r.f1 - r.f0 + 1)) (by rw [app_snoc]; exact hl) hv.2.2.2.2 (by omega) (by omega)
    rw [app_snoc, snoc_len] at ih
    refine evSucc ?_
    have hw : Aside0 (wrap64 ((pre.length : Int) + 1) = (pre.length : Int) + 1) := Aside0.mk (w64 (by omega) (by simp at hl; omega))
    have c1 : (pre.length : Int) < ((pre ++ r :: t).length : Nat) := by rw [hlc]; omega
    have c2 : (0 : Int) ≤ pre.length := by omega
    have w1 : Aside0 (wrap64 (r.f1 - r.f0) = r.f1 - r.f0) := Aside0.mk (w64 (by omega) (by omega))
    have w2 : Aside0 (wrap64 (r.f1 - r.f0 + 1) = r.f1 - r.f0 + 1) := Aside0.mk (w64 (by omega) (by omega))
    have w3 : Aside0 (wrap64 (acc + (r.f1 - r.f0 + 1)) = acc + (r.f1 - r.f0 + 1)) := Aside0.mk (w64 (by omega) (by omega))
    simp only [sets_Rank.l0, if_pos c1, if_pos c2, rd139, hw.out, w1.out, w2.out, w3.out]
    have hm : (L139 r).1 = r.f0 ∧ (L139 r).2 = r.f1 := ⟨rfl, rfl⟩
    by_cases d1 : x < r.f0
    · simp only [if_pos d1]
      have : ¬ memB ((r :: t).map L139) x = true := fun h => by
        rcases mem_cons.1 (memB_iff.1 h) with h | h
        · have := h.1; simp only [hm.1] at this; omega
        · have := ValidFrom.gt hv.2.2.2.2 h; simp only [hm.2] at this; omega
      rw [if_neg this]; exact evNow _
    by_cases d2 : x ≤ r.f1
    · have w4 : Aside0 (wrap64 (acc + x) = acc + x) := Aside0.mk (w64 (by omega) (by omega))
      have w5 : Aside0 (wrap64 (acc + x - r.f0) = acc + x - r.f0) := Aside0.mk (w64 (by omega) (by omega))
      simp only [if_neg d1, if_pos d2, w4.out, w5.out]
      have h : memB ((r :: t).map L139) x = true := memB_iff.2 (mem_cons.2 (.inl ⟨by simp only [hm.1]; omega, by simp only [hm.2]; omega⟩))
      have hc := cd_in_first (x := x) (show ValidFrom top last (L139 r :: t.map L139) from hv) (by simp only [hm.1]; omega) (by simp only [hm.2]; omega)
      rw [if_pos h, List.map_cons, hc, hm.1, show acc + (x - r.f0) = acc + x - r.f0 by omega]
      exact evNow _
    · simp only [if_neg d1, if_neg d2]
      have hc := cd_past_first (x := x) (show ValidFrom top last (L139 r :: t.map L139) from hv) (by simp only [hm.2]; omega)
      have e2 : memB ((r :: t).map L139) x = memB (t.map L139) x := memB_eq ⟨fun h => by
        rcases mem_cons.1 h with h | h
        · have := h.2; simp only [hm.2] at this; omega
        · exact h, fun h => mem_cons.2 (.inr h)⟩
      have e3 : acc + (cd (memB ((r :: t).map L139)) x.toNat : Int) = acc + (r.f1 - r.f0 + 1) + (cd (memB (t.map L139)) x.toNat : Int) := by rw [List.map_cons, hc, hm.1, hm.2]; omega
      rw [e2, e3]
      exact ih
theorem valid_top {top : Int} {l : List Run} (hv : ValidFrom top (-2) l) (ht : top ≤ 1073741823) : size l ≤ 4294967296 := by
  cases l with
  | nil => simp [size_nil]
  | cons r t => have := hv.1; have := hv.2.1; have := hv.2.2.1; have := size_le hv (by omega); omega
theorem rank_is (top : Int) (ht : top ≤ 1073741823) (l : List S139) (x : Int) (hx : (Lit.int .i64 x).wf = true) (hl : l.length ≤ 8796093022206) (hv : ValidFrom top (-2) (l.map L139)) : Ev (fun k => sets_Rank.f k l x) (rankL (l.map L139) x) := by
  have h := rank_loop l.length hl top ht x hx l [] (-2) 0 (by simp) hv (by omega) (by have := valid_top hv ht; omega)
  simpa [sets_Rank.f, rankL] using h
def Sel (l : List Run) (k : Int) (r : Int × Bool) : Prop := (∃ x, Mem l x ∧ (cd (memB l) x.toNat : Int) = k ∧ r = (x, true)) ∨ ((k < 0 ∨ size l ≤ k) ∧ r = (0, false))
theorem Sel.uniq {top : Int} {l : List Run} (hv : ValidFrom top (-2) l) {k : Int} {r q : Int × Bool} (h : Sel l k r) (h' : Sel l k q) : r = q := by
  have lt : ∀ x, Mem l x → (cd (memB l) x.toNat : Int) < size l := fun x hx => by
    have hr := hv.range hx
    have := cd_size (n := top.toNat + 1) hv (by omega)
    have e : ((x.toNat : Nat) : Int) = x := Int.toNat_of_nonneg hr.1
    have := cd_lt (memB l) (m := x.toNat) (n := top.toNat + 1) (by omega) (by rw [e]; exact memB_iff.2 hx)
    omega
  rcases h with ⟨x, hx, hk, rfl⟩ | ⟨hk, rfl⟩ <;> rcases h' with ⟨y, hy, hk', rfl⟩ | ⟨hk', rfl⟩
  · have ex : ((x.toNat : Nat) : Int) = x := Int.toNat_of_nonneg (hv.range hx).1
    have ey : ((y.toNat : Nat) : Int) = y := Int.toNat_of_nonneg (hv.range hy).1
    have := cd_inj (memB l) (m := x.toNat) (n := y.toNat) (by rw [ex]; exact memB_iff.2 hx) (by rw [ey]; exact memB_iff.2 hy) (by omega)
    rw [show x = y by omega]
  · have := lt x hx; omega
  · have := lt y hy; omega
  · rfl
theorem select_loop (N : Nat) (hN : N ≤ 8796093022206) (top : Int) (ht : top ≤ 1073741823) : ∀ (t pre : List S139) (last kk : Int), (pre ++ t).length ≤ N → ValidFrom top last (t.map L139) → 0 ≤ kk → kk ≤ 9223372036854775807 →
    ∃ r, Ev (fun k => sets_Select.l0 k kk (pre ++ t) (((pre ++ t).length : Nat) : Int) (pre.length : Int)) r ∧ Sel (t.map L139) kk r
  | [], pre, last, kk, _, _, h0, _ => by
    refine ⟨(0, false), evSucc ?_, .inr ⟨.inr (by simpa [size_nil] using h0), rfl⟩⟩
    simp only [sets_Select.l0]
    rw [List.append_nil]
    simp only [if_neg (show ¬ ((pre.length : Nat) : Int) < ((pre.length : Nat) : Int) by omega)]
    exact evNow _
  | r :: t, pre, last, kk, hl, hv, h0, h1 => by
    have hlc := len_cons pre r t
    have v0 : 0 ≤ r.f0 := hv.1
    have v1 : r.f0 ≤ r.f1 := hv.2.1
    have v2 : r.f1 ≤ top := hv.2.2.1
    have hm : (L139 r).1 = r.f0 ∧ (L139 r).2 = r.f1 := ⟨rfl, rfl⟩
    have hw : Aside0 (wrap64 ((pre.length : Int) + 1) = (pre.length : Int) + 1) := Aside0.mk (w64 (by omega) (by simp at hl; omega))
    have c1 : (pre.length : Int) < ((pre ++ r :: t).length : Nat) := by rw [hlc]; omega
    have c2 : (0 : Int) ≤ pre.length := by omega
    have w1 : Aside0 (wrap64 (r.f1 - r.f0) = r.f1 - r.f0) := Aside0.mk (w64 (by omega) (by omega))
    have w2 : Aside0 (wrap64 (r.f1 - r.f0 + 1) = r.f1 - r.f0 + 1) := Aside0.mk (w64 (by omega) (by omega))
    by_cases d1 : kk ≤ r.f1 - r.f0
    · have w3 : Aside0 (wrap64 (r.f0 + kk) = r.f0 + kk) := Aside0.mk (w64 (by omega) (by omega))
      refine ⟨(r.f0 + kk, true), evSucc ?_, .inl ⟨r.f0 + kk, mem_cons.2 (.inl ⟨by simp only [hm.1]; omega, by simp only [hm.2]; omega⟩), ?_, rfl⟩⟩
      · simp only [sets_Select.l0, if_pos c1, if_pos c2, rd139, hw.out, w1.out, w2.out, w3.out, if_pos d1]; exact evNow _
      · have hc := cd_in_first (x := r.f0 + kk) (show ValidFrom top last (L139 r :: t.map L139) from hv) (by simp only [hm.1]; omega) (by simp only [hm.2]; omega)
        rw [List.map_cons, hc, hm.1]; omega
    · have w3 : Aside0 (wrap64 (kk - (r.f1 - r.f0 + 1)) = kk - (r.f1 - r.f0 + 1)) := Aside0.mk (w64 (by omega) (by omega))
      obtain ⟨q, hq, hs⟩ := select_loop N hN top ht t (pre ++ [r]) r.f1 (kk - (r.f1 - r.f0 + 1)) (by rw [app_snoc]; exact hl) hv.2.2.2.2 (by omega) (by omega)
      rw [app_snoc, snoc_len] at hq
      refine ⟨q, evSucc ?_, ?_⟩
      · simp only [sets_Select.l0, if_pos c1, if_pos c2, rd139, hw.out, w1.out, w2.out, w3.out, if_neg d1]; exact hq
      · rcases hs with ⟨x, hx, hk, rfl⟩ | ⟨hk, rfl⟩
        · have hg := ValidFrom.gt hv.2.2.2.2 hx
          rw [hm.2] at hg
          refine .inl ⟨x, mem_cons.2 (.inr hx), ?_, rfl⟩
          have hc := cd_past_first (x := x) (show ValidFrom top last (L139 r :: t.map L139) from hv) (by simp only [hm.2]; omega)
          rw [List.map_cons, hc, hk, hm.1, hm.2]; omega
        · have e1 : size ((r :: t).map L139) = (r.f1 - r.f0 + 1) + size (t.map L139) := size_cons _ _
          exact .inr ⟨.inr (by omega), rfl⟩
theorem select_is (top : Int) (ht : top ≤ 1073741823) (l : List S139) (kk : Int) (hk : (Lit.int .i64 kk).wf = true) (hl : l.length ≤ 8796093022206) (hv : ValidFrom top (-2) (l.map L139)) : ∃ r, Ev (fun k => sets_Select.f k l kk) r ∧ Sel (l.map L139) kk r := by
  by_cases h0 : kk < 0
  · exact ⟨(0, false), by simp only [sets_Select.f, if_pos h0]; exact evNow _, .inr ⟨.inl h0, rfl⟩⟩
  · have hb := bounds_i64 hk
    obtain ⟨r, hr, hs⟩ := select_loop l.length hl top ht l [] (-2) kk (by simp) hv (by omega) (by omega)
    exact ⟨r, by simp only [sets_Select.f, if_neg h0]; simpa using hr, hs⟩
theorem mx_eq (a b : Int) : mx a b = max a b := by unfold mx; omega
theorem mn_eq (a b : Int) : mn a b = min a b := by unfold mn; omega
theorem norm_loop (N : Nat) (hN : N ≤ 8796093022206) (top : Int) (ht : top ≤ 1073741823) : ∀ (t pre o : List S139) (q : S139), (pre ++ t).length ≤ N → o.length + t.length + 1 ≤ N → (∀ r ∈ t, q.f0 ≤ r.f0) → t.Pairwise (fun x y => x.f0 ≤ y.f0) → (∀ r ∈ q :: t, 0 ≤ r.f0 ∧ r.f0 ≤ r.f1 ∧ r.f1 ≤ top) →
    ∃ m, Ev (fun k => sets_Norm.l0 k (pre ++ t) (o ++ [q]) (((pre ++ t).length : Nat) : Int) (pre.length : Int)) (o ++ m, pre ++ t) ∧ m.length ≤ t.length + 1 ∧ (∀ last, last < q.f0 - 1 → ValidFrom top last (m.map L139)) ∧ ∀ x, Mem (m.map L139) x ↔ Mem ((q :: t).map L139) x
  | [], pre, o, q, _, _, _, _, hr => by
    have hq := hr q List.mem_cons_self
    refine ⟨[q], evSucc ?_, by simp, fun last hlast => ⟨hq.1, hq.2.1, hq.2.2, hlast, trivial⟩, fun x => Iff.rfl⟩
    simp only [sets_Norm.l0]
    rw [List.append_nil]
    simp only [if_neg (show ¬ ((pre.length : Nat) : Int) < ((pre.length : Nat) : Int) by omega)]
    exact evNow _
  | r :: t, pre, o, q, hl, ho, hs, hp, hr => by
    have hq := hr q List.mem_cons_self
    have hr1 := hr r (List.mem_cons_of_mem _ List.mem_cons_self)
    have hqr := hs r List.mem_cons_self
    have hp' := List.pairwise_cons.1 hp
    have hlc := len_cons pre r t
    have hw : Aside0 (wrap64 ((pre.length : Int) + 1) = (pre.length : Int) + 1) := Aside0.mk (w64 (by omega) (by simp at hl; omega))
    have c1 : (pre.length : Int) < ((pre ++ r :: t).length : Nat) := by rw [hlc]; omega
    have c2 : (0 : Int) ≤ pre.length := by omega
    have ol : (((o ++ [q]).length : Nat) : Int) = (o.length : Int) + 1 := snoc_len o q
    have hob : (o.length : Int) ≤ 8796093022207 := by omega
    have c3 : (((o ++ [q]).length : Nat) : Int) > 0 := by omega
    have w1 : Aside0 (wrap64 ((((o ++ [q]).length : Nat) : Int) - 1) = (o.length : Int)) := Aside0.mk (by rw [ol, w64 (by omega) (by omega)]; omega)
    have c4 : (0 : Int) ≤ (o.length : Int) := by omega
    have c5 : (o.length : Int) < (((o ++ [q]).length : Nat) : Int) := by omega
    have r1 : rd_T139 (o ++ [q]) (o.length : Int) = q := rd139 o q []
    have w2 : Aside0 (wrap64 (q.f1 + 1) = q.f1 + 1) := Aside0.mk (w64 (by omega) (by omega))
    have hlt : (o ++ [q]).length < 8796093022208 := by simp at ho ⊢; omega
    by_cases d : r.f0 ≤ q.f1 + 1
    · obtain ⟨m, g1, g2, g3, g4⟩ := norm_loop N hN top ht t (pre ++ [r]) o ⟨q.f0, max q.f1 r.f1⟩ (by rw [app_snoc]; exact hl) (by simp at ho ⊢; omega) (fun z hz => Int.le_trans hqr (hp'.1 z hz)) hp'.2 (fun z hz => by
        rcases List.mem_cons.1 hz with rfl | hz
        · exact ⟨hq.1, by show q.f0 ≤ max q.f1 r.f1; omega, by show max q.f1 r.f1 ≤ top; omega⟩
        · exact hr z (List.mem_cons_of_mem _ (List.mem_cons_of_mem _ hz)))
      rw [app_snoc, snoc_len] at g1
      refine ⟨m, evSucc ?_, by simp; omega, g3, fun x => ?_⟩
      · simp only [sets_Norm.l0, if_pos c1, if_pos c2, rd139, hw.out, if_pos c3, w1.out, if_pos c4, if_pos c5, r1, w2.out, if_pos d, mx_eq]
        have : (o ++ [q]).set (o.length : Int).toNat (⟨q.f0, max q.f1 r.f1⟩ : S139) = o ++ [⟨q.f0, max q.f1 r.f1⟩] := by simp
        rw [this]
        exact g1
      · rw [g4 x]
        simp only [List.map_cons, mem_cons]
        show (q.f0 ≤ x ∧ x ≤ max q.f1 r.f1) ∨ _ ↔ (q.f0 ≤ x ∧ x ≤ q.f1) ∨ (r.f0 ≤ x ∧ x ≤ r.f1) ∨ _
        constructor
        · rintro (h | h)
          · by_cases e : x ≤ q.f1
            · exact .inl (by omega)
            · exact .inr (.inl (by omega))
          · exact .inr (.inr h)
        · rintro (h | h | h)
          · exact .inl (by omega)
          · exact .inl (by omega)
          · exact .inr h
    · obtain ⟨m, g1, g2, g3, g4⟩ := norm_loop N hN top ht t (pre ++ [r]) (o ++ [q]) r (by rw [app_snoc]; exact hl) (by simp at ho ⊢; omega) hp'.1 hp'.2 (fun z hz => hr z (List.mem_cons_of_mem _ hz))
      rw [app_snoc, snoc_len] at g1
      refine ⟨q :: m, evSucc ?_, by simp; omega, fun last hlast => ⟨hq.1, hq.2.1, hq.2.2, hlast, g3 _ (by show q.f1 < _; omega)⟩, fun x => ?_⟩
      · simp only [sets_Norm.l0, if_pos c1, if_pos c2, rd139, hw.out, if_pos c3, w1.out, if_pos c4, if_pos c5, r1, w2.out, if_neg d, if_pos hlt]
        simpa using g1
      · rw [List.map_cons, mem_cons, g4 x]
        exact mem_cons.symm
theorem norm_is (top : Int) (ht : top ≤ 1073741823) (l : List S139) (hl : l.length ≤ 8796093022206) (hr : ∀ r ∈ l, 0 ≤ r.f0 ∧ r.f0 ≤ r.f1 ∧ r.f1 ≤ top) :
    ∃ m s, Ev (fun k => sets_Norm.f k l) (m, s) ∧ m.length ≤ l.length ∧ ValidFrom top (-2) (m.map L139) ∧ ∀ x, Mem (m.map L139) x ↔ Mem (l.map L139) x := by
  obtain ⟨s, hs⟩ : ∃ s, sortRun.f l = some s := ⟨_, by unfold sortRun.f; rw [if_pos (show l.length < 8796093022208 by omega)]⟩
  obtain ⟨hp, hsort⟩ := sortRun.spec l s hs
  have hlen := hp.length_eq
  have hmem : ∀ x, Mem (s.map L139) x ↔ Mem (l.map L139) x := fun x => mem_perm (hp.map _)
  cases s with
  | nil =>
    refine ⟨[], [], ?_, by simp, trivial, hmem⟩
    simp only [sets_Norm.f, hs, Option.bind_some]
    refine evSucc ?_
    simp only [sets_Norm.l0, ← hlen]
    simp only [List.length_nil, if_neg (show ¬ (0 : Int) < ((0 : Nat) : Int) by omega)]
    exact evNow _
  | cons q t =>
    have hr' : ∀ r ∈ q :: t, 0 ≤ r.f0 ∧ r.f0 ≤ r.f1 ∧ r.f1 ≤ top := fun r h => hr r (hp.mem_iff.1 h)
    have hsp := List.pairwise_cons.1 hsort
    obtain ⟨m, g1, g2, g3, g4⟩ := norm_loop (q :: t).length (by omega) top ht t [q] [] q (by simp) (by simp) hsp.1 hsp.2 hr'
    have hq := hr' q List.mem_cons_self
    refine ⟨m, q :: t, ?_, by rw [← hlen]; simpa using g2, g3 _ (by omega), fun x => (g4 x).trans (hmem x)⟩
    simp only [sets_Norm.f, hs, Option.bind_some, ← hlen]
    refine evSucc ?_
    have c1 : (0 : Int) < (((q :: t).length : Nat) : Int) := by rw [List.length_cons]; omega
    have r1 : rd_T139 (q :: t) 0 = q := rfl
    have hw : Aside0 (wrap64 ((0 : Int) + 1) = 1) := Aside0.mk (by rw [w64 (by omega) (by omega)]; rfl)
    simp only [sets_Norm.l0, if_pos c1, if_pos (show (0 : Int) ≤ 0 by omega), r1, List.length_nil, if_neg (show ¬ ((0 : Nat) : Int) > 0 by omega), if_pos (show (0 : Nat) < 8796093022208 from Nat.zero_lt_succ _), hw.out]
    exact g1
def setL (top : Int) (l : List Run) : List Run := if validB top (-2) l = true then l else []
theorem setL_valid (top : Int) (l : List Run) : ValidFrom top (-2) (setL top l) := by
  unfold setL
  split
  · rename_i h; exact (validB_iff _ _ _).1 h
  · trivial
theorem setL_of {top : Int} {l : List Run} (h : ValidFrom top (-2) l) : setL top l = l := by unfold setL; rw [if_pos ((validB_iff _ _ _).2 h)]
theorem valid_len {top : Int} : ∀ {l : List Run} {last : Int}, ValidFrom top last l → (l.length : Int) ≤ size l
  | [], _, _ => by simp [size_nil]
  | r :: t, _, hv => by
    have := valid_len hv.2.2.2.2
    have := hv.2.1
    rw [size_cons]; simp; omega
theorem valid_len' {top : Int} {l : List Run} {last : Int} (hv : ValidFrom top last l) (h0 : 0 ≤ top) (ht : top ≤ 1073741823) : l.length ≤ 1073741824 := by
  have := valid_len hv
  have := size_le hv h0
  omega
theorem scalars_set_is (l : List S102) (hl : l.length * 16 ≤ 140737488351232) : ∃ s, Ev (fun k => scalars_set.f k l) s ∧ s.map L139 = setL 1073741823 (l.map L102) := by
  have h1 := api_Range_is l hl
  have h2 := valid_is 1073741823 (by omega) (l.map api_Range_c) (by simp; omega)
  rw [api_Range_len] at h2
  by_cases d : validB 1073741823 (-2) (l.map L102) = true
  · refine ⟨l.map api_Range_c, Ev.bind h1 (Ev.bind h2 ?_), by rw [api_Range_len]; unfold setL; rw [if_pos d]⟩
    simp only [if_pos d]; exact evNow _
  · refine ⟨[], Ev.bind h1 (Ev.bind h2 ?_), by unfold setL; rw [if_neg d]; rfl⟩
    simp only [if_neg d]; exact evNow _
theorem scalars_back_is (l : List S139) (hl : l.length * 16 ≤ 140737488351232) : Ev (fun k => scalars_back.f k l) (l.map sets_Run_140_c) := Ev.bind (sets_Run_140_is l hl) (evNow _)
theorem scalars_set_facts {l : List S102} {s : List S139} (h : s.map L139 = setL 1073741823 (l.map L102)) : ValidFrom 1073741823 (-2) (s.map L139) ∧ s.length ≤ 1073741824 := by
  have hv : ValidFrom 1073741823 (-2) (s.map L139) := by rw [h]; exact setL_valid _ _
  have := valid_len' hv (by omega) (by omega)
  exact ⟨hv, by simpa using this⟩
def scalars_IsSet (l : List S102) (p : Int → Prop) : Prop := ValidFrom 1073741823 (-2) (l.map L102) ∧ l.length ≤ 1073741824 ∧ ∀ x, Mem (l.map L102) x ↔ p x
theorem scalars_IsSet.uniq {a b : List S102} {p q : Int → Prop} (ha : scalars_IsSet a p) (hb : scalars_IsSet b q) (h : ∀ x, p x ↔ q x) : a = b :=
  L102_inj (canon 1073741823 _ _ _ _ ha.1 hb.1 fun x => (ha.2.2 x).trans ((h x).trans (hb.2.2 x).symm))
theorem scalars_out {m : List S139} {p : Int → Prop} (hv : ValidFrom 1073741823 (-2) (m.map L139)) (hm : ∀ x, Mem (m.map L139) x ↔ p x) : ∃ r, Ev (fun k => scalars_back.f k m) r ∧ scalars_IsSet r p := by
  have hn := valid_len' hv (by omega) (by omega)
  have e := sets_Run_140_len m
  refine ⟨_, scalars_back_is m (by simp at hn; omega), ?_, ?_, fun x => ?_⟩
  · rw [e]; exact hv
  · simpa using hn
  · rw [e]; exact hm x
end Go.Proofs.Ytkcklnmbeinfkaa.PB4
