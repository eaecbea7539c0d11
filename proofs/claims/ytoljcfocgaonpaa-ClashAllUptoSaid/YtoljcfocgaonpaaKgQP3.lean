/- Words and laws of this claim, of 12 texts. -/
import Derived.Test.YtoljcfocgaonpaaKgIx0
import Derived.Test.YtoljcfocgaonpaaKgIx4
import Derived.Test.YtoljcfocgaonpaaKgIx5
import Derived.Test.YtoljcfocgaonpaaKgIx6
import Derived.Test.YtoljcfocgaonpaaKgIx8
import Derived.Test.YtoljcfocgaonpaaKgIx9
import Derived.Test.YtoljcfocgaonpaaKgIx15
import Derived.Test.YtoljcfocgaonpaaKgQP0
import Derived.Test.YtoljcfocgaonpaaKgQP1
import Derived.Test.YtoljcfocgaonpaaKgQP2
import Derived.Test.YtoljcfocgaonpaaKgQW1
import Derived.OpenShut
import Derived.Test.YtoljcfocgaonpaaKgIx13
import Derived.Test.YtoljcfocgaonpaaKgIx12
import Derived.Test.YtoljcfocgaonpaaKgIx14
import Derived.Test.YtoljcfocgaonpaaKgIx16
import Derived.Lib.Bytes
import Derived.Test.YtoljcfocgaonpaaKgIx7
import Derived.Test.YtoljcfocgaonpaaKgIx17
import Derived.Test.YtoljcfocgaonpaaKgIx1
import Derived.Test.YtoljcfocgaonpaaKgIx32
import Derived.Test.YtoljcfocgaonpaaKgIx23
import Derived.Test.YtoljcfocgaonpaaKgIx25
import Derived.Test.YtoljcfocgaonpaaKgIx33
import Derived.KernelRfl
section
namespace Go.Proofs.Ytoljcfocgaonpaa.PB4
open Go.RowKit Go.Proofs.YtoljcfocgaonpaaW.PrintWords Go.Proofs.YtoljcfocgaonpaaW.PrintLast Go.Proofs.YtoljcfocgaonpaaW.PrintMore Go.Proofs.Ytoljcfocgaonpaa.I Go.Proofs.LT
set_option linter.unusedVariables false
set_option linter.unusedSimpArgs false
theorem evSucc {α : Type} {g : Nat → Option α} {r : α} (h : Ev (fun k => g (k + 1)) r) : Ev g r := Ev.step (fun _ => rfl) h
theorem evNow {α : Type} (r : α) : Ev (fun _ => some r) r := Ev.now r
theorem w64 {x : Int} (h0 : -9223372036854775808 ≤ x) (h1 : x ≤ 9223372036854775807) : wrap64 x = x := by unfold wrap64; omega
def L133 (x : S133) : Run := (x.f0, x.f1)
def L43 (x : S43) : Run := (x.f0, x.f1)
theorem L43_inj : ∀ {a b : List S43}, a.map L43 = b.map L43 → a = b
 | [], [], _ => rfl
 | [], _ :: _, h => by simp at h
 | _ :: _, [], h => by simp at h
 | ⟨_, _⟩ :: t, ⟨_, _⟩ :: t', h => by
  simp only [List.map_cons, List.cons.injEq, L43, Prod.mk.injEq] at h; obtain ⟨⟨rfl, rfl⟩, h⟩ := h; rw [L43_inj h]
theorem rd133 (pre : List S133) (r : S133) (t : List S133) : rd_T133 (pre ++ r :: t) (pre.length : Int) = r := by simp [rd_T133]
theorem rd43 (pre : List S43) (r : S43) (t : List S43) : rd_T43 (pre ++ r :: t) (pre.length : Int) = r := by simp [rd_T43]
theorem snoc_len {α : Type} (pre : List α) (r : α) : (((pre ++ [r]).length : Nat) : Int) = (pre.length : Int) + 1 := by simp
theorem app_snoc {α : Type} (pre : List α) (r : α) (t : List α) : (pre ++ [r]) ++ t = pre ++ r :: t := by simp
theorem len_cons {α : Type} (pre : List α) (r : α) (t : List α) : (((pre ++ r :: t).length : Nat) : Int) = pre.length + 1 + t.length := by simp; omega
def api_Range_c (x : S43) : S133 := ⟨x.f0, x.f1⟩
theorem api_Range_loop (N : Nat) (hN : N ≤ 8796093022206) : ∀ (t pre : List S43) (out : List S133), (pre ++ t).length ≤ N → out.length = pre.length → Ev (fun k => api_Range.l0 k out (pre ++ t) (((pre ++ t).length : Nat) : Int) (pre.length : Int)) (out ++ t.map api_Range_c)
 | [], pre, out, _, _ => by
  refine evSucc ?_; simp only [api_Range.l0]; rw [List.append_nil]; simp only [if_neg (show ¬ ((pre.length : Nat) : Int) < ((pre.length : Nat) : Int) by omega)]; simpa using evNow out
 | r :: t, pre, out, hl, ho => by
  have hlc := len_cons pre r t; have hlt : out.length < 8796093022208 := by simp at hl; omega
  have ih := api_Range_loop N hN t (pre ++ [r]) (out ++ [api_Range_c r]) (by rw [app_snoc]; exact hl) (by simp [ho]); rw [app_snoc, snoc_len] at ih; refine evSucc ?_; have hw : Aside0 (wrap64 ((pre.length : Int) + 1) = (pre.length : Int) + 1) := Aside0.mk (w64 (by omega) (by simp at hl; omega)); have c1 : (pre.length : Int) < ((pre ++ r :: t).length : Nat) := by rw [hlc]; omega
  have c2 : (0 : Int) ≤ pre.length := by omega
  simp only [api_Range.l0, if_pos c1, if_pos c2, if_pos hlt, rd43, hw.out]; simpa [api_Range_c] using ih
theorem api_Range_is (l : List S43) (hl : l.length * 16 ≤ 140737488351232) : Ev (fun k => api_Range.f k l) (l.map api_Range_c) := by
 have h := api_Range_loop l.length (by omega) l [] [] (by simp) rfl; have c1 : (0 : Int) ≤ (l.length : Int) := by omega
 have c2 : ((l.length : Int) : Int).toNat ≤ 17592186044416 := by omega
 simp only [api_Range.f, if_pos c1, if_pos c2]; simpa using h
theorem api_Range_len (l : List S43) : (l.map api_Range_c).map L133 = l.map L43 := by rw [List.map_map]; rfl
def sets_Run_135_c (x : S133) : S43 := ⟨x.f0, x.f1⟩
theorem sets_Run_135_loop (N : Nat) (hN : N ≤ 8796093022206) : ∀ (t pre : List S133) (out : List S43), (pre ++ t).length ≤ N → out.length = pre.length → Ev (fun k => sets_Run_135.l0 k out (pre ++ t) (((pre ++ t).length : Nat) : Int) (pre.length : Int)) (out ++ t.map sets_Run_135_c)
 | [], pre, out, _, _ => by
  refine evSucc ?_; simp only [sets_Run_135.l0]; rw [List.append_nil]; simp only [if_neg (show ¬ ((pre.length : Nat) : Int) < ((pre.length : Nat) : Int) by omega)]; simpa using evNow out
 | r :: t, pre, out, hl, ho => by
  have hlc := len_cons pre r t; have hlt : out.length < 8796093022208 := by simp at hl; omega
  have ih := sets_Run_135_loop N hN t (pre ++ [r]) (out ++ [sets_Run_135_c r]) (by rw [app_snoc]; exact hl) (by simp [ho]); rw [app_snoc, snoc_len] at ih; refine evSucc ?_; have hw : Aside0 (wrap64 ((pre.length : Int) + 1) = (pre.length : Int) + 1) := Aside0.mk (w64 (by omega) (by simp at hl; omega)); have c1 : (pre.length : Int) < ((pre ++ r :: t).length : Nat) := by rw [hlc]; omega
  have c2 : (0 : Int) ≤ pre.length := by omega
  simp only [sets_Run_135.l0, if_pos c1, if_pos c2, if_pos hlt, rd133, hw.out]; simpa [sets_Run_135_c] using ih
theorem sets_Run_135_is (l : List S133) (hl : l.length * 16 ≤ 140737488351232) : Ev (fun k => sets_Run_135.f k l) (l.map sets_Run_135_c) := by
 have h := sets_Run_135_loop l.length (by omega) l [] [] (by simp) rfl; have c1 : (0 : Int) ≤ (l.length : Int) := by omega
 have c2 : ((l.length : Int) : Int).toNat ≤ 17592186044416 := by omega
 simp only [sets_Run_135.f, if_pos c1, if_pos c2]; simpa using h
theorem sets_Run_135_len (l : List S133) : (l.map sets_Run_135_c).map L43 = l.map L133 := by rw [List.map_map]; rfl
theorem valid_loop (N : Nat) (hN : N ≤ 8796093022206) (top : Int) (ht : top ≤ 1073741823) : ∀ (t pre : List S133) (last : Int), (pre ++ t).length ≤ N → Ev (fun k => sets_Valid.l0 k top last (pre ++ t) (((pre ++ t).length : Nat) : Int) (pre.length : Int)) (validB top last (t.map L133))
 | [], pre, last, _ => by
  refine evSucc ?_; simp only [sets_Valid.l0]; rw [List.append_nil]; simp only [if_neg (show ¬ ((pre.length : Nat) : Int) < ((pre.length : Nat) : Int) by omega)]; rw [show validB top last (([] : List S133).map L133) = true from validB_nil _ _]; exact evNow _
 | r :: t, pre, last, hl => by
  have hlc := len_cons pre r t; have ih := valid_loop N hN top ht t (pre ++ [r]) r.f1 (by rw [app_snoc]; exact hl); rw [app_snoc, snoc_len] at ih; refine evSucc ?_; have hw : Aside0 (wrap64 ((pre.length : Int) + 1) = (pre.length : Int) + 1) := Aside0.mk (w64 (by omega) (by simp at hl; omega)); have c1 : (pre.length : Int) < ((pre ++ r :: t).length : Nat) := by rw [hlc]; omega
  have c2 : (0 : Int) ≤ pre.length := by omega
  simp only [sets_Valid.l0, if_pos c1, if_pos c2, rd133, hw.out, List.map_cons, validB_cons, L133]; by_cases d1 : r.f0 < 0
  ·simp only [if_pos d1]; exact evNow _
  by_cases d2 : r.f0 > r.f1
  ·simp only [if_neg d1, if_pos d2]; exact evNow _
  by_cases d3 : r.f1 > top
  ·simp only [if_neg d1, if_neg d2, if_pos d3]; exact evNow _
  have hw2 : Aside0 (wrap64 (r.f0 - 1) = r.f0 - 1) := Aside0.mk (w64 (by omega) (by omega)); simp only [if_neg d1, if_neg d2, if_neg d3, hw2.out]; by_cases d4 : r.f0 - 1 ≤ last
  ·simp only [if_pos d4]; exact evNow _
  ·simp only [if_neg d4]; exact ih
theorem valid_is (top : Int) (ht : top ≤ 1073741823) (l : List S133) (hl : l.length ≤ 8796093022206) : Ev (fun k => sets_Valid.f k l top) (validB top (-2) (l.map L133)) := by
 have h := valid_loop l.length hl top ht l [] (-2) (by simp); simpa [sets_Valid.f] using h
theorem size_loop (N : Nat) (hN : N ≤ 8796093022206) (top : Int) (ht : top ≤ 1073741823) : ∀ (t pre : List S133) (last acc : Int), (pre ++ t).length ≤ N → ValidFrom top last (t.map L133) → 0 ≤ acc → acc + size (t.map L133) ≤ 4294967296 →
 Ev (fun k => sets_Size.l0 k acc (pre ++ t) (((pre ++ t).length : Nat) : Int) (pre.length : Int)) (acc + size (t.map L133))
 | [], pre, last, acc, _, _, _, _ => by
  refine evSucc ?_; simp only [sets_Size.l0]; rw [List.append_nil]; simp only [if_neg (show ¬ ((pre.length : Nat) : Int) < ((pre.length : Nat) : Int) by omega)]; simpa [size_nil] using evNow acc
 | r :: t, pre, last, acc, hl, hv, h0, h1 => by
  have hlc := len_cons pre r t; have hs := size_nonneg hv.2.2.2.2; have e1 : size ((r :: t).map L133) = (r.f1 - r.f0 + 1) + size (t.map L133) := size_cons _ _; have v0 : 0 ≤ r.f0 := hv.1; have v1 : r.f0 ≤ r.f1 := hv.2.1; have v2 : r.f1 ≤ top := hv.2.2.1; have ih := size_loop N hN top ht t (pre ++ [r]) r.f1 (acc + (r.f1 - r.f0 + 1)) (by rw [app_snoc]; exact hl) hv.2.2.2.2 (by omega) (by omega); rw [app_snoc, snoc_len] at ih; refine evSucc ?_; have hw : Aside0 (wrap64 ((pre.length : Int) + 1) = (pre.length : Int) + 1) := Aside0.mk (w64 (by omega) (by simp at hl; omega)); have c1 : (pre.length : Int) < ((pre ++ r :: t).length : Nat) := by rw [hlc]; omega
  have c2 : (0 : Int) ≤ pre.length := by omega
  have w1 : Aside0 (wrap64 (r.f1 - r.f0) = r.f1 - r.f0) := Aside0.mk (w64 (by omega) (by omega)); have w2 : Aside0 (wrap64 (r.f1 - r.f0 + 1) = r.f1 - r.f0 + 1) := Aside0.mk (w64 (by omega) (by omega)); have w3 : Aside0 (wrap64 (acc + (r.f1 - r.f0 + 1)) = acc + (r.f1 - r.f0 + 1)) := Aside0.mk (w64 (by omega) (by omega)); simp only [sets_Size.l0, if_pos c1, if_pos c2, rd133, hw.out, w1.out, w2.out, w3.out]; have e2 : acc + size ((r :: t).map L133) = acc + (r.f1 - r.f0 + 1) + size (t.map L133) := by omega
  rw [e2]; exact ih
theorem size_is (top : Int) (ht : top ≤ 1073741823) (l : List S133) (hl : l.length ≤ 8796093022206) (hv : ValidFrom top (-2) (l.map L133)) : Ev (fun k => sets_Size.f k l) (size (l.map L133)) := by
 have h0 : (0:Int) ≤ top ∨ l = [] := by
  cases l with
  | nil => exact .inr rfl
  | cons r t => have := hv.1; have := hv.2.1; have := hv.2.2.1; exact .inl (by omega)
 have hs : size (l.map L133) ≤ 4294967296 := by
  rcases h0 with h0 | rfl
  ·have := size_le hv h0; omega
  ·simp [size_nil]
 have h := size_loop l.length hl top ht l [] (-2) 0 (by simp) hv (by omega) (by omega); simpa [sets_Size.f] using h
def rankL (l : List Run) (x : Int) : Int × Bool := if memB l x = true then ((cd (memB l) x.toNat : Int), true) else (0, false)
theorem rank_loop (N : Nat) (hN : N ≤ 8796093022206) (top : Int) (ht : top ≤ 1073741823) (x : Int) (hx : (Lit.int .i64 x).wf = true) : ∀ (t pre : List S133) (last acc : Int), (pre ++ t).length ≤ N → ValidFrom top last (t.map L133) → 0 ≤ acc → acc + size (t.map L133) ≤ 4294967296 →
 Ev (fun k => sets_Rank.l0 k x acc (pre ++ t) (((pre ++ t).length : Nat) : Int) (pre.length : Int)) (if memB (t.map L133) x = true then (acc + (cd (memB (t.map L133)) x.toNat : Int), true) else (0, false))
 | [], pre, last, acc, _, _, _, _ => by
  refine evSucc ?_; simp only [sets_Rank.l0]; rw [List.append_nil]; simp only [if_neg (show ¬ ((pre.length : Nat) : Int) < ((pre.length : Nat) : Int) by omega)]; simpa [memB] using evNow ((0 : Int), false)
 | r :: t, pre, last, acc, hl, hv, h0, h1 => by
  have hlc := len_cons pre r t; have hs := size_nonneg hv.2.2.2.2; have e1 : size ((r :: t).map L133) = (r.f1 - r.f0 + 1) + size (t.map L133) := size_cons _ _; have v0 : 0 ≤ r.f0 := hv.1; have v1 : r.f0 ≤ r.f1 := hv.2.1; have v2 : r.f1 ≤ top := hv.2.2.1; have ih := rank_loop N hN top ht x hx t (pre ++ [r]) r.f1 (acc + (r.f1 - r.f0 + 1)) (by rw [app_snoc]; exact hl) hv.2.2.2.2 (by omega) (by omega); rw [app_snoc, snoc_len] at ih; refine evSucc ?_; have hw : Aside0 (wrap64 ((pre.length : Int) + 1) = (pre.length : Int) + 1) := Aside0.mk (w64 (by omega) (by simp at hl; omega)); have c1 : (pre.length : Int) < ((pre ++ r :: t).length : Nat) := by rw [hlc]; omega
  have c2 : (0 : Int) ≤ pre.length := by omega
  have w1 : Aside0 (wrap64 (r.f1 - r.f0) = r.f1 - r.f0) := Aside0.mk (w64 (by omega) (by omega)); have w2 : Aside0 (wrap64 (r.f1 - r.f0 + 1) = r.f1 - r.f0 + 1) := Aside0.mk (w64 (by omega) (by omega)); have w3 : Aside0 (wrap64 (acc + (r.f1 - r.f0 + 1)) = acc + (r.f1 - r.f0 + 1)) := Aside0.mk (w64 (by omega) (by omega)); simp only [sets_Rank.l0, if_pos c1, if_pos c2, rd133, hw.out, w1.out, w2.out, w3.out]; have hm : (L133 r).1 = r.f0 ∧ (L133 r).2 = r.f1 := ⟨rfl, rfl⟩; by_cases d1 : x < r.f0
  ·simp only [if_pos d1]; have : ¬ memB ((r :: t).map L133) x = true := fun h => by
    rcases mem_cons.1 (memB_iff.1 h) with h | h
    ·have := h.1; simp only [hm.1] at this; omega
    ·have := ValidFrom.gt hv.2.2.2.2 h; simp only [hm.2] at this; omega
   rw [if_neg this]; exact evNow _
  by_cases d2 : x ≤ r.f1
  ·have w4 : Aside0 (wrap64 (acc + x) = acc + x) := Aside0.mk (w64 (by omega) (by omega)); have w5 : Aside0 (wrap64 (acc + x - r.f0) = acc + x - r.f0) := Aside0.mk (w64 (by omega) (by omega)); simp only [if_neg d1, if_pos d2, w4.out, w5.out]; have h : memB ((r :: t).map L133) x = true := memB_iff.2 (mem_cons.2 (.inl ⟨by simp only [hm.1]; omega, by simp only [hm.2]; omega⟩)); have hc := cd_in_first (x := x) (show ValidFrom top last (L133 r :: t.map L133) from hv) (by simp only [hm.1]; omega) (by simp only [hm.2]; omega); rw [if_pos h, List.map_cons, hc, hm.1, show acc + (x - r.f0) = acc + x - r.f0 by omega]; exact evNow _
  ·simp only [if_neg d1, if_neg d2]; have hc := cd_past_first (x := x) (show ValidFrom top last (L133 r :: t.map L133) from hv) (by simp only [hm.2]; omega); have e2 : memB ((r :: t).map L133) x = memB (t.map L133) x := memB_eq ⟨fun h => by
    rcases mem_cons.1 h with h | h
    ·have := h.2; simp only [hm.2] at this; omega
    ·exact h, fun h => mem_cons.2 (.inr h)⟩
   have e3 : acc + (cd (memB ((r :: t).map L133)) x.toNat : Int) = acc + (r.f1 - r.f0 + 1) + (cd (memB (t.map L133)) x.toNat : Int) := by rw [List.map_cons, hc, hm.1, hm.2]; omega
   rw [e2, e3]; exact ih
theorem valid_top {top : Int} {l : List Run} (hv : ValidFrom top (-2) l) (ht : top ≤ 1073741823) : size l ≤ 4294967296 := by
 cases l with
 | nil => simp [size_nil]
 | cons r t => have := hv.1; have := hv.2.1; have := hv.2.2.1; have := size_le hv (by omega); omega
theorem rank_is (top : Int) (ht : top ≤ 1073741823) (l : List S133) (x : Int) (hx : (Lit.int .i64 x).wf = true) (hl : l.length ≤ 8796093022206) (hv : ValidFrom top (-2) (l.map L133)) : Ev (fun k => sets_Rank.f k l x) (rankL (l.map L133) x) := by
 have h := rank_loop l.length hl top ht x hx l [] (-2) 0 (by simp) hv (by omega) (by have := valid_top hv ht; omega); simpa [sets_Rank.f, rankL] using h
def Sel (l : List Run) (k : Int) (r : Int × Bool) : Prop := (∃ x, Mem l x ∧ (cd (memB l) x.toNat : Int) = k ∧ r = (x, true)) ∨ ((k < 0 ∨ size l ≤ k) ∧ r = (0, false))
theorem Sel.uniq {top : Int} {l : List Run} (hv : ValidFrom top (-2) l) {k : Int} {r q : Int × Bool} (h : Sel l k r) (h' : Sel l k q) : r = q := by
 have lt : ∀ x, Mem l x → (cd (memB l) x.toNat : Int) < size l := fun x hx => by
  have hr := hv.range hx; have := cd_size (n := top.toNat + 1) hv (by omega); have e : ((x.toNat : Nat) : Int) = x := Int.toNat_of_nonneg hr.1; have := cd_lt (memB l) (m := x.toNat) (n := top.toNat + 1) (by omega) (by rw [e]; exact memB_iff.2 hx); omega
 rcases h with ⟨x, hx, hk, rfl⟩ | ⟨hk, rfl⟩ <;> rcases h' with ⟨y, hy, hk', rfl⟩ | ⟨hk', rfl⟩
 ·have ex : ((x.toNat : Nat) : Int) = x := Int.toNat_of_nonneg (hv.range hx).1; have ey : ((y.toNat : Nat) : Int) = y := Int.toNat_of_nonneg (hv.range hy).1; have := cd_inj (memB l) (m := x.toNat) (n := y.toNat) (by rw [ex]; exact memB_iff.2 hx) (by rw [ey]; exact memB_iff.2 hy) (by omega); rw [show x = y by omega]
 ·have := lt x hx; omega
 ·have := lt y hy; omega
 ·rfl
theorem select_loop (N : Nat) (hN : N ≤ 8796093022206) (top : Int) (ht : top ≤ 1073741823) : ∀ (t pre : List S133) (last kk : Int), (pre ++ t).length ≤ N → ValidFrom top last (t.map L133) → 0 ≤ kk → kk ≤ 9223372036854775807 →
 ∃ r, Ev (fun k => sets_Select.l0 k kk (pre ++ t) (((pre ++ t).length : Nat) : Int) (pre.length : Int)) r ∧ Sel (t.map L133) kk r
 | [], pre, last, kk, _, _, h0, _ => by
  refine ⟨(0, false), evSucc ?_, .inr ⟨.inr (by simpa [size_nil] using h0), rfl⟩⟩; simp only [sets_Select.l0]; rw [List.append_nil]; simp only [if_neg (show ¬ ((pre.length : Nat) : Int) < ((pre.length : Nat) : Int) by omega)]; exact evNow _
 | r :: t, pre, last, kk, hl, hv, h0, h1 => by
  have hlc := len_cons pre r t; have v0 : 0 ≤ r.f0 := hv.1; have v1 : r.f0 ≤ r.f1 := hv.2.1; have v2 : r.f1 ≤ top := hv.2.2.1; have hm : (L133 r).1 = r.f0 ∧ (L133 r).2 = r.f1 := ⟨rfl, rfl⟩; have hw : Aside0 (wrap64 ((pre.length : Int) + 1) = (pre.length : Int) + 1) := Aside0.mk (w64 (by omega) (by simp at hl; omega)); have c1 : (pre.length : Int) < ((pre ++ r :: t).length : Nat) := by rw [hlc]; omega
  have c2 : (0 : Int) ≤ pre.length := by omega
  have w1 : Aside0 (wrap64 (r.f1 - r.f0) = r.f1 - r.f0) := Aside0.mk (w64 (by omega) (by omega)); have w2 : Aside0 (wrap64 (r.f1 - r.f0 + 1) = r.f1 - r.f0 + 1) := Aside0.mk (w64 (by omega) (by omega)); by_cases d1 : kk ≤ r.f1 - r.f0
  ·have w3 : Aside0 (wrap64 (r.f0 + kk) = r.f0 + kk) := Aside0.mk (w64 (by omega) (by omega)); refine ⟨(r.f0 + kk, true), evSucc ?_, .inl ⟨r.f0 + kk, mem_cons.2 (.inl ⟨by simp only [hm.1]; omega, by simp only [hm.2]; omega⟩), ?_, rfl⟩⟩
   ·simp only [sets_Select.l0, if_pos c1, if_pos c2, rd133, hw.out, w1.out, w2.out, w3.out, if_pos d1]; exact evNow _
   ·have hc := cd_in_first (x := r.f0 + kk) (show ValidFrom top last (L133 r :: t.map L133) from hv) (by simp only [hm.1]; omega) (by simp only [hm.2]; omega); rw [List.map_cons, hc, hm.1]; omega
  ·have w3 : Aside0 (wrap64 (kk - (r.f1 - r.f0 + 1)) = kk - (r.f1 - r.f0 + 1)) := Aside0.mk (w64 (by omega) (by omega)); obtain ⟨q, hq, hs⟩ := select_loop N hN top ht t (pre ++ [r]) r.f1 (kk - (r.f1 - r.f0 + 1)) (by rw [app_snoc]; exact hl) hv.2.2.2.2 (by omega) (by omega); rw [app_snoc, snoc_len] at hq; refine ⟨q, evSucc ?_, ?_⟩
   ·simp only [sets_Select.l0, if_pos c1, if_pos c2, rd133, hw.out, w1.out, w2.out, w3.out, if_neg d1]; exact hq
   ·rcases hs with ⟨x, hx, hk, rfl⟩ | ⟨hk, rfl⟩
    ·have hg := ValidFrom.gt hv.2.2.2.2 hx; rw [hm.2] at hg; refine .inl ⟨x, mem_cons.2 (.inr hx), ?_, rfl⟩; have hc := cd_past_first (x := x) (show ValidFrom top last (L133 r :: t.map L133) from hv) (by simp only [hm.2]; omega); rw [List.map_cons, hc, hk, hm.1, hm.2]; omega
    ·have e1 : size ((r :: t).map L133) = (r.f1 - r.f0 + 1) + size (t.map L133) := size_cons _ _; exact .inr ⟨.inr (by omega), rfl⟩
theorem select_is (top : Int) (ht : top ≤ 1073741823) (l : List S133) (kk : Int) (hk : (Lit.int .i64 kk).wf = true) (hl : l.length ≤ 8796093022206) (hv : ValidFrom top (-2) (l.map L133)) : ∃ r, Ev (fun k => sets_Select.f k l kk) r ∧ Sel (l.map L133) kk r := by
 by_cases h0 : kk < 0
 ·exact ⟨(0, false), by simp only [sets_Select.f, if_pos h0]; exact evNow _, .inr ⟨.inl h0, rfl⟩⟩
 ·have hb := bounds_i64 hk; obtain ⟨r, hr, hs⟩ := select_loop l.length hl top ht l [] (-2) kk (by simp) hv (by omega) (by omega); exact ⟨r, by simp only [sets_Select.f, if_neg h0]; simpa using hr, hs⟩
theorem mx_eq (a b : Int) : mx a b = max a b := by unfold mx; omega
theorem mn_eq (a b : Int) : mn a b = min a b := by unfold mn; omega
theorem norm_loop (N : Nat) (hN : N ≤ 8796093022206) (top : Int) (ht : top ≤ 1073741823) : ∀ (t pre o : List S133) (q : S133), (pre ++ t).length ≤ N → o.length + t.length + 1 ≤ N → (∀ r ∈ t, q.f0 ≤ r.f0) → t.Pairwise (fun x y => x.f0 ≤ y.f0) → (∀ r ∈ q :: t, 0 ≤ r.f0 ∧ r.f0 ≤ r.f1 ∧ r.f1 ≤ top) →
 ∃ m, Ev (fun k => sets_Norm.l0 k (pre ++ t) (o ++ [q]) (((pre ++ t).length : Nat) : Int) (pre.length : Int)) (o ++ m, pre ++ t) ∧ m.length ≤ t.length + 1 ∧ (∀ last, last < q.f0 - 1 → ValidFrom top last (m.map L133)) ∧ ∀ x, Mem (m.map L133) x ↔ Mem ((q :: t).map L133) x
 | [], pre, o, q, _, _, _, _, hr => by
  have hq := hr q List.mem_cons_self; refine ⟨[q], evSucc ?_, by simp, fun last hlast => ⟨hq.1, hq.2.1, hq.2.2, hlast, trivial⟩, fun x => Iff.rfl⟩; simp only [sets_Norm.l0]; rw [List.append_nil]; simp only [if_neg (show ¬ ((pre.length : Nat) : Int) < ((pre.length : Nat) : Int) by omega)]; exact evNow _
 | r :: t, pre, o, q, hl, ho, hs, hp, hr => by
  have hq := hr q List.mem_cons_self; have hr1 := hr r (List.mem_cons_of_mem _ List.mem_cons_self); have hqr := hs r List.mem_cons_self; have hp' := List.pairwise_cons.1 hp; have hlc := len_cons pre r t; have hw : Aside0 (wrap64 ((pre.length : Int) + 1) = (pre.length : Int) + 1) := Aside0.mk (w64 (by omega) (by simp at hl; omega)); have c1 : (pre.length : Int) < ((pre ++ r :: t).length : Nat) := by rw [hlc]; omega
  have c2 : (0 : Int) ≤ pre.length := by omega
  have ol : (((o ++ [q]).length : Nat) : Int) = (o.length : Int) + 1 := snoc_len o q; have hob : (o.length : Int) ≤ 8796093022207 := by omega
  have c3 : (((o ++ [q]).length : Nat) : Int) > 0 := by omega
  have w1 : Aside0 (wrap64 ((((o ++ [q]).length : Nat) : Int) - 1) = (o.length : Int)) := Aside0.mk (by rw [ol, w64 (by omega) (by omega)]; omega); have c4 : (0 : Int) ≤ (o.length : Int) := by omega
  have c5 : (o.length : Int) < (((o ++ [q]).length : Nat) : Int) := by omega
  have r1 : rd_T133 (o ++ [q]) (o.length : Int) = q := rd133 o q []; have w2 : Aside0 (wrap64 (q.f1 + 1) = q.f1 + 1) := Aside0.mk (w64 (by omega) (by omega)); have hlt : (o ++ [q]).length < 8796093022208 := by simp at ho ⊢; omega
  by_cases d : r.f0 ≤ q.f1 + 1
  ·obtain ⟨m, g1, g2, g3, g4⟩ := norm_loop N hN top ht t (pre ++ [r]) o ⟨q.f0, max q.f1 r.f1⟩ (by rw [app_snoc]; exact hl) (by simp at ho ⊢; omega) (fun z hz => Int.le_trans hqr (hp'.1 z hz)) hp'.2 (fun z hz => by
    rcases List.mem_cons.1 hz with rfl | hz
    ·exact ⟨hq.1, by show q.f0 ≤ max q.f1 r.f1; omega, by show max q.f1 r.f1 ≤ top; omega⟩
    ·exact hr z (List.mem_cons_of_mem _ (List.mem_cons_of_mem _ hz)))
   rw [app_snoc, snoc_len] at g1; refine ⟨m, evSucc ?_, by simp; omega, g3, fun x => ?_⟩
   ·simp only [sets_Norm.l0, if_pos c1, if_pos c2, rd133, hw.out, if_pos c3, w1.out, if_pos c4, if_pos c5, r1, w2.out, if_pos d, mx_eq]; have : (o ++ [q]).set (o.length : Int).toNat (⟨q.f0, max q.f1 r.f1⟩ : S133) = o ++ [⟨q.f0, max q.f1 r.f1⟩] := by simp
    rw [this]; exact g1
   ·rw [g4 x]; simp only [List.map_cons, mem_cons]; show (q.f0 ≤ x ∧ x ≤ max q.f1 r.f1) ∨ _ ↔ (q.f0 ≤ x ∧ x ≤ q.f1) ∨ (r.f0 ≤ x ∧ x ≤ r.f1) ∨ _; constructor
    ·rintro (h | h)
     ·by_cases e : x ≤ q.f1
      ·exact .inl (by omega)
      ·exact .inr (.inl (by omega))
     ·exact .inr (.inr h)
    ·rintro (h | h | h)
     ·exact .inl (by omega)
     ·exact .inl (by omega)
     ·exact .inr h
  ·obtain ⟨m, g1, g2, g3, g4⟩ := norm_loop N hN top ht t (pre ++ [r]) (o ++ [q]) r (by rw [app_snoc]; exact hl) (by simp at ho ⊢; omega) hp'.1 hp'.2 (fun z hz => hr z (List.mem_cons_of_mem _ hz)); rw [app_snoc, snoc_len] at g1; refine ⟨q :: m, evSucc ?_, by simp; omega, fun last hlast => ⟨hq.1, hq.2.1, hq.2.2, hlast, g3 _ (by show q.f1 < _; omega)⟩, fun x => ?_⟩
   ·simp only [sets_Norm.l0, if_pos c1, if_pos c2, rd133, hw.out, if_pos c3, w1.out, if_pos c4, if_pos c5, r1, w2.out, if_neg d, if_pos hlt]; simpa using g1
   ·rw [List.map_cons, mem_cons, g4 x]; exact mem_cons.symm
theorem norm_is (top : Int) (ht : top ≤ 1073741823) (l : List S133) (hl : l.length ≤ 8796093022206) (hr : ∀ r ∈ l, 0 ≤ r.f0 ∧ r.f0 ≤ r.f1 ∧ r.f1 ≤ top) :
 ∃ m s, Ev (fun k => sets_Norm.f k l) (m, s) ∧ m.length ≤ l.length ∧ ValidFrom top (-2) (m.map L133) ∧ ∀ x, Mem (m.map L133) x ↔ Mem (l.map L133) x := by
 obtain ⟨s, hs⟩ : ∃ s, sortRun.f l = some s := ⟨_, by unfold sortRun.f; rw [if_pos (show l.length < 8796093022208 by omega)]⟩
 obtain ⟨hp, hsort⟩ := sortRun.spec l s hs; have hlen := hp.length_eq; have hmem : ∀ x, Mem (s.map L133) x ↔ Mem (l.map L133) x := fun x => mem_perm (hp.map _)
 cases s with
 | nil =>
  refine ⟨[], [], ?_, by simp, trivial, hmem⟩; simp only [sets_Norm.f, hs, Option.bind_some]; refine evSucc ?_; simp only [sets_Norm.l0, ← hlen]; simp only [List.length_nil, if_neg (show ¬ (0 : Int) < ((0 : Nat) : Int) by omega)]; exact evNow _
 | cons q t =>
  have hr' : ∀ r ∈ q :: t, 0 ≤ r.f0 ∧ r.f0 ≤ r.f1 ∧ r.f1 ≤ top := fun r h => hr r (hp.mem_iff.1 h)
  have hsp := List.pairwise_cons.1 hsort; obtain ⟨m, g1, g2, g3, g4⟩ := norm_loop (q :: t).length (by omega) top ht t [q] [] q (by simp) (by simp) hsp.1 hsp.2 hr'; have hq := hr' q List.mem_cons_self; refine ⟨m, q :: t, ?_, by rw [← hlen]; simpa using g2, g3 _ (by omega), fun x => (g4 x).trans (hmem x)⟩; simp only [sets_Norm.f, hs, Option.bind_some, ← hlen]; refine evSucc ?_; have c1 : (0 : Int) < (((q :: t).length : Nat) : Int) := by rw [List.length_cons]; omega
  have r1 : rd_T133 (q :: t) 0 = q := rfl; have hw : Aside0 (wrap64 ((0 : Int) + 1) = 1) := Aside0.mk (by rw [w64 (by omega) (by omega)]; rfl); simp only [sets_Norm.l0, if_pos c1, if_pos (show (0 : Int) ≤ 0 by omega), r1, List.length_nil, if_neg (show ¬ ((0 : Nat) : Int) > 0 by omega), if_pos (show (0 : Nat) < 8796093022208 from Nat.zero_lt_succ _), hw.out]; exact g1
def setL (top : Int) (l : List Run) : List Run := if validB top (-2) l = true then l else []
theorem setL_valid (top : Int) (l : List Run) : ValidFrom top (-2) (setL top l) := by
 unfold setL; split
 ·rename_i h; exact (validB_iff _ _ _).1 h
 ·trivial
theorem setL_of {top : Int} {l : List Run} (h : ValidFrom top (-2) l) : setL top l = l := by unfold setL; rw [if_pos ((validB_iff _ _ _).2 h)]
theorem valid_len {top : Int} : ∀ {l : List Run} {last : Int}, ValidFrom top last l → (l.length : Int) ≤ size l
 | [], _, _ => by simp [size_nil]
 | r :: t, _, hv => by
  have := valid_len hv.2.2.2.2; have := hv.2.1; rw [size_cons]; simp; omega
theorem valid_len' {top : Int} {l : List Run} {last : Int} (hv : ValidFrom top last l) (h0 : 0 ≤ top) (ht : top ≤ 1073741823) : l.length ≤ 1073741824 := by
 have := valid_len hv; have := size_le hv h0; omega
theorem scalars_set_is (l : List S43) (hl : l.length * 16 ≤ 140737488351232) : ∃ s, Ev (fun k => scalars_set.f k l) s ∧ s.map L133 = setL 1073741823 (l.map L43) := by
 have h1 := api_Range_is l hl; have h2 := valid_is 1073741823 (by omega) (l.map api_Range_c) (by simp; omega); rw [api_Range_len] at h2; by_cases d : validB 1073741823 (-2) (l.map L43) = true
 ·refine ⟨l.map api_Range_c, Ev.bind h1 (Ev.bind h2 ?_), by rw [api_Range_len]; unfold setL; rw [if_pos d]⟩; simp only [if_pos d]; exact evNow _
 ·refine ⟨[], Ev.bind h1 (Ev.bind h2 ?_), by unfold setL; rw [if_neg d]; rfl⟩; simp only [if_neg d]; exact evNow _
theorem scalars_back_is (l : List S133) (hl : l.length * 16 ≤ 140737488351232) : Ev (fun k => scalars_back.f k l) (l.map sets_Run_135_c) := Ev.bind (sets_Run_135_is l hl) (evNow _)
theorem scalars_set_facts {l : List S43} {s : List S133} (h : s.map L133 = setL 1073741823 (l.map L43)) : ValidFrom 1073741823 (-2) (s.map L133) ∧ s.length ≤ 1073741824 := by
 have hv : ValidFrom 1073741823 (-2) (s.map L133) := by rw [h]; exact setL_valid _ _
 have := valid_len' hv (by omega) (by omega); exact ⟨hv, by simpa using this⟩
def scalars_IsSet (l : List S43) (p : Int → Prop) : Prop := ValidFrom 1073741823 (-2) (l.map L43) ∧ l.length ≤ 1073741824 ∧ ∀ x, Mem (l.map L43) x ↔ p x
theorem scalars_IsSet.uniq {a b : List S43} {p q : Int → Prop} (ha : scalars_IsSet a p) (hb : scalars_IsSet b q) (h : ∀ x, p x ↔ q x) : a = b :=
 L43_inj (canon 1073741823 _ _ _ _ ha.1 hb.1 fun x => (ha.2.2 x).trans ((h x).trans (hb.2.2 x).symm))
theorem scalars_out {m : List S133} {p : Int → Prop} (hv : ValidFrom 1073741823 (-2) (m.map L133)) (hm : ∀ x, Mem (m.map L133) x ↔ p x) : ∃ r, Ev (fun k => scalars_back.f k m) r ∧ scalars_IsSet r p := by
 have hn := valid_len' hv (by omega) (by omega); have e := sets_Run_135_len m; refine ⟨_, scalars_back_is m (by simp at hn; omega), ?_, ?_, fun x => ?_⟩
 ·rw [e]; exact hv
 ·simpa using hn
 ·rw [e]; exact hm x
end Go.Proofs.Ytoljcfocgaonpaa.PB4
end
section
namespace Go.Proofs.Ytoljcfocgaonpaa.PB4
open Go.RowKit Go.Proofs.YtoljcfocgaonpaaW.PrintWords Go.Proofs.YtoljcfocgaonpaaW.PrintLast Go.Proofs.YtoljcfocgaonpaaW.PrintMore Go.Proofs.Ytoljcfocgaonpaa.I Go.Proofs.LT
set_option linter.unusedVariables false
set_option linter.unusedSimpArgs false
theorem meet_loop (N : Nat) (hN : N ≤ 8796093022206) (top : Int) (ht : top ≤ 1073741823) : ∀ (n : Nat) (a b out : List S133) (la lb : Int), a.length + b.length = n → out.length + a.length + b.length ≤ N → ValidFrom top la (a.map L133) → ValidFrom top lb (b.map L133) →
 ∃ m, Ev (fun k => sets_Meet.l0 k a b out) (out ++ m) ∧ m.length ≤ a.length + b.length ∧ ValidFrom top (max la lb) (m.map L133) ∧ ∀ x, Mem (m.map L133) x ↔ Mem (a.map L133) x ∧ Mem (b.map L133) x
 | n, [], b, out, la, lb, _, _, _, _ => by
  refine ⟨[], evSucc (evSucc ?_), by simp, trivial, fun x => ⟨fun h => (Mem.nil h).elim, fun h => (Mem.nil h.1).elim⟩⟩; simp only [sets_Meet.l0, List.length_nil]; simp only [if_neg (show ¬ ((0 : Nat) : Int) > 0 by omega), sets_Meet.j1]; simpa using evNow out
 | n, x :: a, [], out, la, lb, _, _, _, _ => by
  refine ⟨[], evSucc (evSucc ?_), by simp, trivial, fun x => ⟨fun h => (Mem.nil h).elim, fun h => (Mem.nil h.2).elim⟩⟩; simp only [sets_Meet.l0, List.length_nil, List.length_cons]; simp only [if_pos (show ((a.length + 1 : Nat) : Int) > 0 by omega), show decide (((0 : Nat) : Int) > 0) = false by decide, sets_Meet.j1]; simpa using evNow out
 | n, x :: a, y :: b, out, la, lb, hn, hl, ha, hb => by
  obtain ⟨a0, a1, a2, a3, a4⟩ := ha; obtain ⟨b0, b1, b2, b3, b4⟩ := hb; have ex : (L133 x).1 = x.f0 ∧ (L133 x).2 = x.f1 := ⟨rfl, rfl⟩; have ey : (L133 y).1 = y.f0 ∧ (L133 y).2 = y.f1 := ⟨rfl, rfl⟩; have c1 : ((((x :: a).length : Nat) : Int) > 0) := by rw [List.length_cons]; omega
  have c2 : decide ((((y :: b).length : Nat) : Int) > 0) = true := by rw [List.length_cons]; exact decide_eq_true (by omega)
  have c3 : (0 : Int) < (((x :: a).length : Nat) : Int) := c1; have c4 : (0 : Int) < (((y :: b).length : Nat) : Int) := by rw [List.length_cons]; omega
  have c5 : (1 : Int) ≤ (((x :: a).length : Nat) : Int) := by omega
  have c6 : (1 : Int) ≤ (((y :: b).length : Nat) : Int) := by omega
  have r1 : rd_T133 (x :: a) 0 = x := rfl; have r2 : rd_T133 (y :: b) 0 = y := rfl; have hlo : out.length < 8796093022208 := by simp at hl; omega
  simp only [ex.1, ex.2, ey.1, ey.2] at a0 a1 a2 a3 b0 b1 b2 b3; have main : ∀ (out' : List S133) (n' : Nat), out'.length + a.length + b.length + 1 ≤ N →
   ∃ m, Ev (fun k => if x.f1 < y.f1 then (if (1 : Int) ≤ (((x :: a).length : Nat) : Int) then sets_Meet.l0 k ((x :: a).drop 1) (y :: b) out' else none) else (if (1 : Int) ≤ (((y :: b).length : Nat) : Int) then sets_Meet.l0 k (x :: a) ((y :: b).drop 1) out' else none)) (out' ++ m) ∧ m.length ≤ a.length + b.length + 1 ∧ ValidFrom top (if x.f1 < y.f1 then max x.f1 lb else max la y.f1) (m.map L133) ∧
    ∀ z, Mem (m.map L133) z ↔ (if x.f1 < y.f1 then Mem (a.map L133) z ∧ Mem ((y :: b).map L133) z else Mem ((x :: a).map L133) z ∧ Mem (b.map L133) z) := fun out' n' hl' => by
   by_cases d : x.f1 < y.f1
   ·obtain ⟨m, h1, h2, h3, h4⟩ := meet_loop N hN top ht (a.length + (y :: b).length) a (y :: b) out' x.f1 lb rfl (by simp; omega) a4 ⟨b0, b1, b2, b3, b4⟩; refine ⟨m, ?_, by simp at h2; omega, by rw [if_pos d]; exact h3, fun z => by rw [if_pos d]; exact h4 z⟩; simp only [if_pos d, if_pos c5, List.drop_one, List.tail_cons]; exact h1
   ·obtain ⟨m, h1, h2, h3, h4⟩ := meet_loop N hN top ht ((x :: a).length + b.length) (x :: a) b out' la y.f1 rfl (by simp; omega) ⟨a0, a1, a2, a3, a4⟩ b4; refine ⟨m, ?_, by simp at h2; omega, by rw [if_neg d]; exact h3, fun z => by rw [if_neg d]; exact h4 z⟩; simp only [if_neg d, if_pos c6, List.drop_one, List.tail_cons]; exact h1
  by_cases d0 : max x.f0 y.f0 ≤ min x.f1 y.f1
  ·obtain ⟨m, h1, h2, h3, h4⟩ := main (out ++ [⟨max x.f0 y.f0, min x.f1 y.f1⟩]) 0 (by simp at hl ⊢; omega); refine ⟨⟨max x.f0 y.f0, min x.f1 y.f1⟩ :: m, evSucc (evSucc ?_), by simp; omega, ?_, fun z => ?_⟩
   ·simp only [sets_Meet.l0, if_pos c1, c2, sets_Meet.j1, if_true, if_pos c3, if_pos c4, r1, r2, mx_eq, mn_eq, if_pos d0, if_pos hlo, Option.bind_some]; simpa using h1
   ·refine ⟨?_, ?_, ?_, ?_, ?_⟩
    ·show 0 ≤ max x.f0 y.f0; omega
    ·exact d0
    ·show min x.f1 y.f1 ≤ top; omega
    ·show max la lb < max x.f0 y.f0 - 1; omega
    ·refine ValidFrom.mono ?_ h3; show min x.f1 y.f1 ≤ _; split <;> omega
   ·rw [List.map_cons, mem_cons, h4 z]; have e : (L133 ⟨max x.f0 y.f0, min x.f1 y.f1⟩).1 = max x.f0 y.f0 ∧ (L133 ⟨max x.f0 y.f0, min x.f1 y.f1⟩).2 = min x.f1 y.f1 := ⟨rfl, rfl⟩; rw [e.1, e.2]; have ga : ∀ z, Mem (a.map L133) z → x.f1 + 1 < z := fun z h => ValidFrom.gt a4 h
    have gb : ∀ z, Mem (b.map L133) z → y.f1 + 1 < z := fun z h => ValidFrom.gt b4 h
    simp only [List.map_cons, mem_cons, ex.1, ex.2, ey.1, ey.2]; by_cases d : x.f1 < y.f1
    ·simp only [if_pos d]; constructor
     ·rintro (h | ⟨h, h'⟩)
      ·exact ⟨.inl (by omega), .inl (by omega)⟩
      ·exact ⟨.inr h, h'⟩
     ·rintro ⟨h | h, h'⟩
      ·rcases h' with h' | h'
       ·exact .inl (by omega)
       ·have := gb z h'; omega
      ·exact .inr ⟨h, h'⟩
    ·simp only [if_neg d]; constructor
     ·rintro (h | ⟨h, h'⟩)
      ·exact ⟨.inl (by omega), .inl (by omega)⟩
      ·exact ⟨h, .inr h'⟩
     ·rintro ⟨h, h' | h'⟩
      ·rcases h with h | h
       ·exact .inl (by omega)
       ·have := ga z h; omega
      ·exact .inr ⟨h, h'⟩
  ·obtain ⟨m, h1, h2, h3, h4⟩ := main out 0 (by simp at hl; omega); refine ⟨m, evSucc (evSucc ?_), by simp; omega, ?_, fun z => ?_⟩
   ·simp only [sets_Meet.l0, if_pos c1, c2, sets_Meet.j1, if_true, if_pos c3, if_pos c4, r1, r2, mx_eq, mn_eq, if_neg d0]; exact h1
   ·refine ValidFrom.mono ?_ h3; split <;> omega
   ·rw [h4 z]; have ga : ∀ z, Mem (a.map L133) z → x.f1 + 1 < z := fun z h => ValidFrom.gt a4 h
    have gb : ∀ z, Mem (b.map L133) z → y.f1 + 1 < z := fun z h => ValidFrom.gt b4 h
    simp only [List.map_cons, mem_cons, ex.1, ex.2, ey.1, ey.2]; by_cases d : x.f1 < y.f1
    ·simp only [if_pos d]; constructor
     ·rintro ⟨h, h'⟩; exact ⟨.inr h, h'⟩
     ·rintro ⟨h | h, h'⟩
      ·rcases h' with h' | h'
       ·omega
       ·have := gb z h'; omega
      ·exact ⟨h, h'⟩
    ·simp only [if_neg d]; constructor
     ·rintro ⟨h, h'⟩; exact ⟨h, .inr h'⟩
     ·rintro ⟨h, h' | h'⟩
      ·rcases h with h | h
       ·omega
       ·have := ga z h; omega
      ·exact ⟨h, h'⟩
termination_by n a b => a.length + b.length
theorem meet_is (top : Int) (ht : top ≤ 1073741823) (a b : List S133) (hl : a.length + b.length ≤ 8796093022206) (ha : ValidFrom top (-2) (a.map L133)) (hb : ValidFrom top (-2) (b.map L133)) :
 ∃ m, Ev (fun k => sets_Meet.f k a b) m ∧ m.length ≤ a.length + b.length ∧ ValidFrom top (-2) (m.map L133) ∧ ∀ x, Mem (m.map L133) x ↔ Mem (a.map L133) x ∧ Mem (b.map L133) x := by
 obtain ⟨m, h1, h2, h3, h4⟩ := meet_loop (a.length + b.length) hl top ht _ a b [] (-2) (-2) rfl (by simp) ha hb; exact ⟨m, by simpa [sets_Meet.f] using h1, h2, by simpa using h3, h4⟩
theorem scalars_Union_is (a b : List S43) (ha : a.length * 16 ≤ 140737488351232) (hb : b.length * 16 ≤ 140737488351232) : ∃ r, Ev (fun k => scalars_Union.f k a b) r ∧ scalars_IsSet r (fun x => Mem (setL 1073741823 (a.map L43)) x ∨ Mem (setL 1073741823 (b.map L43)) x) := by
 obtain ⟨s, h1, h2⟩ := scalars_set_is a ha; obtain ⟨hv, hn⟩ := scalars_set_facts h2; obtain ⟨t, g1, g2⟩ := scalars_set_is b hb; obtain ⟨gv, gn⟩ := scalars_set_facts g2; obtain ⟨m, w, k1, k2, k3, k4⟩ := norm_is 1073741823 (by omega) (s ++ t) (by simp; omega) (fun r hr => by
  rcases List.mem_append.1 hr with hr | hr
  ·exact hv.each (L133 r) (List.mem_map.2 ⟨r, hr, rfl⟩)
  ·exact gv.each (L133 r) (List.mem_map.2 ⟨r, hr, rfl⟩))
 obtain ⟨r, q1, q2⟩ := scalars_out (p := fun x => Mem (setL 1073741823 (a.map L43)) x ∨ Mem (setL 1073741823 (b.map L43)) x) k3 (fun x => by rw [k4 x, List.map_append, mem_append, h2, g2]); refine ⟨r, Ev.bind h1 (Ev.bind g1 ?_), q2⟩; simp only [if_pos (show s.length + t.length < 8796093022208 by omega)]; exact Ev.bind k1 (Ev.bind q1 (evNow _))
theorem scalars_Meet_is (a b : List S43) (ha : a.length * 16 ≤ 140737488351232) (hb : b.length * 16 ≤ 140737488351232) : ∃ r, Ev (fun k => scalars_Meet.f k a b) r ∧ scalars_IsSet r (fun x => Mem (setL 1073741823 (a.map L43)) x ∧ Mem (setL 1073741823 (b.map L43)) x) := by
 obtain ⟨s, h1, h2⟩ := scalars_set_is a ha; obtain ⟨hv, hn⟩ := scalars_set_facts h2; obtain ⟨t, g1, g2⟩ := scalars_set_is b hb; obtain ⟨gv, gn⟩ := scalars_set_facts g2; obtain ⟨m, k1, k2, k3, k4⟩ := meet_is 1073741823 (by omega) s t (by omega) hv gv; obtain ⟨r, q1, q2⟩ := scalars_out (p := fun x => Mem (setL 1073741823 (a.map L43)) x ∧ Mem (setL 1073741823 (b.map L43)) x) k3 (fun x => by rw [k4 x, h2, g2]); exact ⟨r, Ev.bind h1 (Ev.bind g1 (Ev.bind k1 (Ev.bind q1 (evNow _)))), q2⟩
end Go.Proofs.Ytoljcfocgaonpaa.PB4
end
section
namespace Go.Proofs.Ytoljcfocgaonpaa.PBS
open Go.RowKit Go.Proofs.YtoljcfocgaonpaaW.PrintWords Go.Proofs.YtoljcfocgaonpaaW.PrintLast Go.Proofs.YtoljcfocgaonpaaW.PrintMore Go.Proofs.Ytoljcfocgaonpaa.I Go.Proofs.LT Go.Proofs.Ytoljcfocgaonpaa.PB3
set_option linter.unusedVariables false
set_option linter.unusedSimpArgs false
abbrev Sp := S34
abbrev Ra := S43
abbrev Sh := S47
def runs (p : List Sp) : List Run := p.map L34
def sets (ps : List (List Sp)) : List (List Run) := ps.map runs
def In1 (p : List Sp) : Prop := p.length * 16 ≤ 140737488351232
def In2 (ps : List (List Sp)) : Prop := ps.length * 24 ≤ 140737488351232 ∧ ∀ p ∈ ps, In1 p
def okPart (p : List Sp) : Bool := !(decide (p.length = 0)) && validB 255 (-2) (runs p)
def vShape (ps : List (List Sp)) (a : Int) : Bool := decide (1 ≤ ps.length ∧ ps.length ≤ 8) && (decide (0 ≤ a ∧ a ≤ 1073741823) && (ps.all okPart && decide (a + cnt (sets ps) - 1 ≤ 1073741823)))
theorem okPart_good {p : List Sp} (h : okPart p = true) : ValidFrom 255 (-2) (runs p) ∧ 1 ≤ size (runs p) := by
 simp only [okPart, Bool.and_eq_true, Bool.not_eq_true', decide_eq_false_iff_not] at h; have hv := (validB_iff _ _ _).1 h.2; refine ⟨hv, ?_⟩; have := valid_len hv; have e : (runs p).length = p.length := List.length_map ..; omega
theorem good_of {ps : List (List Sp)} (h : ps.all okPart = true) : GoodP (sets ps) := fun s hs => by
 obtain ⟨p, hp, rfl⟩ := List.mem_map.1 hs; exact okPart_good (List.all_eq_true.1 h p hp)
theorem vShape_good {ps : List (List Sp)} {a : Int} (h : vShape ps a = true) : (1 ≤ ps.length ∧ ps.length ≤ 8) ∧ (0 ≤ a ∧ a ≤ 1073741823) ∧ ps.all okPart = true ∧ GoodP (sets ps) ∧ a + cnt (sets ps) - 1 ≤ 1073741823 := by
 simp only [vShape, Bool.and_eq_true, decide_eq_true_eq] at h; exact ⟨h.1, h.2.1, h.2.2.1, good_of h.2.2.1, h.2.2.2⟩
theorem sets_drop (ps : List (List Sp)) (i : Nat) : (sets ps).drop i = sets (ps.drop i) := (List.map_drop ..).symm
theorem sets_len (ps : List (List Sp)) : (sets ps).length = ps.length := List.length_map ..
theorem none_is (p : List Sp) (hp : In1 p) : Ev (fun k => scheme_none.f k p) (!okPart p) := by
 simp only [scheme_none.f]; by_cases c : (p.length : Int) = 0
 ·simp only [if_pos c]; rw [show okPart p = false by simp only [okPart, decide_eq_true (show p.length = 0 by omega)]; rfl]; exact evNow _
 ·simp only [if_neg c]; have e : okPart p = validB 255 (-2) (runs p) := by simp only [okPart, decide_eq_false (show ¬ p.length = 0 by omega)]; rfl
  rw [e]; exact Ev.bind (spans_Valid_is p hp) (evNow _)
theorem any_go : ∀ (ps : List (List Sp)), (∀ p ∈ ps, In1 p) → Ev (fun k => slices_anyNone.go k ps) (!(ps.all okPart))
 | [], _ => evNow _
 | p :: t, h => by
  have h1 := none_is p (h p List.mem_cons_self); have h2 := any_go t (fun q hq => h q (List.mem_cons_of_mem _ hq)); refine Ev.bind h1 ?_; cases hp : okPart p
  ·simp only [Bool.not_false, if_true]; rw [show (!((p :: t).all okPart)) = true by simp [hp]]; exact evNow _
  ·simp only [Bool.not_true, Bool.false_eq_true, if_false]; rw [show (!((p :: t).all okPart)) = !(t.all okPart) by simp [hp]]; exact h2
theorem any_is (ps : List (List Sp)) (h : In2 ps) : Ev (fun k => slices_anyNone.f k ps) (!(ps.all okPart)) := by
 simp only [slices_anyNone.f, if_pos (show ps.length ≤ 8796093022206 by have := h.1; omega)]; exact any_go ps h.2
theorem size_is3 (p : List Sp) (hp : In1 p) (h : okPart p = true) : Ev (fun k => spans_Size.f k p) (size (runs p)) := by
 have := spans_Size_is p hp; rwa [show p.map L34 = runs p from rfl, setL_of (okPart_good h).1] at this
def capd : Int → List (List Sp) → Int
 | n, [] => n
 | n, p :: t => capd (min (n * size (runs p)) 1073741825) t
theorem capd_is : ∀ (ps : List (List Sp)) (n : Int), ps.all okPart = true → 1 ≤ n → n ≤ 1073741825 → capd n ps = min (n * cnt (sets ps)) 1073741825
 | [], n, _, h0, h1 => by
  show n = min (n * cnt (sets [])) _; rw [show cnt (sets []) = 1 from cnt_nil]; omega
 | p :: t, n, h, h0, h1 => by
  have hp : okPart p = true ∧ t.all okPart = true := by simpa using h
  have hs := okPart_good hp.1; have hc := cnt_pos (good_of hp.2); show capd (min (n * size (runs p)) 1073741825) t = min (n * cnt (runs p :: sets t)) _; have hn1 : 1 ≤ n * size (runs p) := by have := Int.mul_le_mul h0 hs.2 (by omega) (by omega); omega
  rw [capd_is t _ hp.2 (by omega) (by omega), cnt_cons, ← Int.mul_assoc]; generalize n * size (runs p) = m at hn1 ⊢; rcases (by omega : m ≤ 1073741825 ∨ 1073741825 < m) with q | q
  ·rw [show min m 1073741825 = m by omega]
  ·rw [show min m 1073741825 = 1073741825 by omega]; have a1 := Int.mul_le_mul_of_nonneg_left hc (show (0 : Int) ≤ 1073741825 by omega); have a2 := Int.mul_le_mul_of_nonneg_right (show (1073741825 : Int) ≤ m by omega) (show 0 ≤ cnt (sets t) by omega); omega
theorem rdL (pre : List (List Sp)) (p : List Sp) (t : List (List Sp)) : rd_L4 (pre ++ p :: t) (pre.length : Int) = p := by simp [rd_L4]
theorem last_loop (qs : List (List Sp)) (a : Int) : ∀ (t pre : List (List Sp)) (n : Int), (∀ p ∈ t, In1 p) → t.all okPart = true → (pre ++ t).length ≤ 8 → 1 ≤ n → n ≤ 1073741825 → 0 ≤ a → a ≤ 1073741823 →
 Ev (fun k => scheme_last.l0 k n (pre ++ t) (((pre ++ t).length : Nat) : Int) (pre.length : Int) qs a) (a + capd n t - 1)
 | [], pre, n, _, _, hl, h0, h1, a0, a1 => by
  refine evSucc ?_; simp only [scheme_last.l0]; rw [List.append_nil]; have w1 : Aside0 (wrap64 (wrap64 (a + n) - 1) = a + n - 1) := Aside0.mk (by rw [w64 (x := a + n) (by omega) (by omega), w64 (by omega) (by omega)]); simp only [if_neg (show ¬ ((pre.length : Nat) : Int) < ((pre.length : Nat) : Int) by omega), w1.out]; exact evNow _
 | p :: t, pre, n, hi, hk, hl, h0, h1, a0, a1 => by
  have hlc := len_cons pre p t; have hp : okPart p = true ∧ t.all okPart = true := by simpa using hk
  have hs := okPart_good hp.1; have hz := size_256 hs.1; have ih := last_loop qs a t (pre ++ [p]) (min (n * size (runs p)) 1073741825) (fun q hq => hi q (List.mem_cons_of_mem _ hq)) hp.2 (by rw [app_snoc]; exact hl) (by have := Int.mul_le_mul h0 hs.2 (by omega) (by omega); omega) (by omega) a0 a1; rw [app_snoc, snoc_len] at ih; have c1 : (pre.length : Int) < ((pre ++ p :: t).length : Nat) := by rw [hlc]; omega
  have c2 : (0 : Int) ≤ pre.length := by omega
  have hpl : pre.length ≤ 8 := by simp at hl; omega
  have m0 : 0 ≤ n * size (runs p) := Int.mul_nonneg (by omega) (by omega); have m1 : n * size (runs p) ≤ 1073741825 * 256 := Int.mul_le_mul h1 hz (by omega) (by omega); have w1 : Aside0 (wrap64 ((pre.length : Int) + 1) = (pre.length : Int) + 1) := Aside0.mk (w64 (by omega) (by omega)); have w2 : Aside0 (wrap64 (n * size (runs p)) = n * size (runs p)) := Aside0.mk (w64 (by omega) (by omega)); refine evSucc ?_; simp only [scheme_last.l0, if_pos c1, if_pos c2, rdL]; refine Ev.bind (size_is3 p (hi p List.mem_cons_self) hp.1) ?_; simp only [w1.out, w2.out, mn_eq]; exact ih
def lastOf (p : Sh) : Int := p.f1 + cnt (sets p.f0) - 1
theorem last_is (ps : List (List Sp)) (a : Int) (hi : In2 ps) (hk : ps.all okPart = true) (hl : ps.length ≤ 8) (a0 : 0 ≤ a) (a1 : a ≤ 1073741823) :
 Ev (fun k => scheme_last.f k ps a) (a + min (cnt (sets ps)) 1073741825 - 1) := by
 have h := last_loop ps a ps [] 1 hi.2 hk (by simpa using hl) (by omega) (by omega) a0 a1; rw [capd_is ps 1 hk (by omega) (by omega), Int.one_mul] at h; simpa [scheme_last.f] using h
def InS (ss : List Sh) : Prop := ss.length * 32 ≤ 140737488351232 ∧ ∀ p ∈ ss, In2 p.f0
def meetsB (p q : Sh) : Bool := decide (p.f1 ≤ lastOf q) && decide (q.f1 ≤ lastOf p)
def vS : List Sh → List Sh → Bool
 | _, [] => true
 | pre, p :: t => vShape p.f0 p.f1 && (!(pre.any (meetsB p)) && vS (pre ++ [p]) t)
def vScheme (ss : List Sh) : Bool := decide (ss.length ≤ 32) && vS [] ss
theorem rdSh (pre : List Sh) (p : Sh) (t : List Sh) : rd_T47 (pre ++ p :: t) (pre.length : Int) = p := by simp [rd_T47]
theorem one_mem {x y z : Int} : Mem ([(⟨x, y⟩ : Ra)].map PB4.L43) z ↔ (x ≤ z ∧ z ≤ y) := by
 show Mem [(x, y)] z ↔ _; rw [mem_cons]; exact ⟨fun h => by rcases h with h | h; exact h; exact (Mem.nil h).elim, fun h => .inl h⟩
def Taken (pre : List Sh) (x : Int) : Prop := ∃ q ∈ pre, q.f1 ≤ x ∧ x ≤ lastOf q
theorem valid_loop3 (N : Nat) (hN : N ≤ 4398046511103) : ∀ (t pre : List Sh) (tk : List Ra), (pre ++ t).length ≤ N → (∀ p ∈ t, In2 p.f0) → (∀ q ∈ pre, 0 ≤ q.f1 ∧ q.f1 ≤ lastOf q ∧ lastOf q ≤ 1073741823) → PB4.scalars_IsSet tk (Taken pre) →
 Ev (fun k => scheme_Valid.l0 k tk (pre ++ t) (((pre ++ t).length : Nat) : Int) (pre.length : Int)) (vS pre t)
 | [], pre, tk, _, _, _, _ => by
  refine evSucc ?_; simp only [scheme_Valid.l0]; rw [List.append_nil]; simp only [if_neg (show ¬ ((pre.length : Nat) : Int) < ((pre.length : Nat) : Int) by omega)]; exact evNow _
 | p :: t, pre, tk, hl, hi, hq, ht => by
  have hlc := len_cons pre p t; have hpl : pre.length ≤ N := by simp at hl; omega
  have c1 : (pre.length : Int) < ((pre ++ p :: t).length : Nat) := by rw [hlc]; omega
  have c2 : (0 : Int) ≤ pre.length := by omega
  have hw : Aside0 (wrap64 ((pre.length : Int) + 1) = (pre.length : Int) + 1) := Aside0.mk (w64 (by omega) (by omega)); have hip := hi p List.mem_cons_self; have no : vShape p.f0 p.f1 = false → vS pre (p :: t) = false := fun h => by show (vShape p.f0 p.f1 && _) = false; rw [h, Bool.false_and]
  have jT : Ev (fun k => scheme_Valid.j1 k tk (pre ++ p :: t) (((pre ++ p :: t).length : Nat) : Int) (pre.length : Int) true p.f0 p.f1) false := by
   refine evSucc ?_; simp only [scheme_Valid.j1, if_true]; exact evNow _
  refine evSucc ?_; simp only [scheme_Valid.l0, if_pos c1, if_pos c2, rdSh]; by_cases d1 : (p.f0.length : Int) < 1
  ·simp only [if_pos d1]; rw [no (by simp only [vShape, decide_eq_false (show ¬ (1 ≤ p.f0.length ∧ p.f0.length ≤ 8) by omega), Bool.false_and])]; exact jT
  by_cases d2 : (p.f0.length : Int) > 8
  ·simp only [if_neg d1, if_pos d2]; rw [no (by simp only [vShape, decide_eq_false (show ¬ (1 ≤ p.f0.length ∧ p.f0.length ≤ 8) by omega), Bool.false_and])]; exact jT
  by_cases d3 : p.f1 < 0
  ·simp only [if_neg d1, if_neg d2, if_pos d3]; rw [no (by simp only [vShape, decide_eq_false (show ¬ (0 ≤ p.f1 ∧ p.f1 ≤ 1073741823) by omega), Bool.false_and, Bool.and_false])]; exact jT
  by_cases d4 : p.f1 > 1073741823
  ·simp only [if_neg d1, if_neg d2, if_neg d3, if_pos d4]; rw [no (by simp only [vShape, decide_eq_false (show ¬ (0 ≤ p.f1 ∧ p.f1 ≤ 1073741823) by omega), Bool.false_and, Bool.and_false])]; exact jT
  simp only [if_neg d1, if_neg d2, if_neg d3, if_neg d4]; refine Ev.bind (any_is p.f0 hip) ?_; cases ha : p.f0.all okPart
  ·rw [no (by simp only [vShape, ha, Bool.false_and, Bool.and_false])]; exact jT
  have hg := good_of ha; have hc := cnt_pos hg; have hlast := last_is p.f0 p.f1 hip ha (by omega) (by omega) (by omega); refine evSucc ?_; simp only [Bool.not_true, scheme_Valid.j1, Bool.false_eq_true, if_false]; refine Ev.bind hlast ?_; simp only [Option.bind_some]; have c3 : (0 : Int) < (([(⟨p.f1, p.f1 + min (cnt (sets p.f0)) 1073741825 - 1⟩ : Ra)].length : Nat) : Int) := by simp
  simp only [if_pos c3]; have e3 : (rd_T43 [(⟨p.f1, p.f1 + min (cnt (sets p.f0)) 1073741825 - 1⟩ : Ra)] 0).f1 = p.f1 + min (cnt (sets p.f0)) 1073741825 - 1 := rfl; simp only [e3]; by_cases d5 : p.f1 + min (cnt (sets p.f0)) 1073741825 - 1 > 1073741823
  ·simp only [if_pos d5]; rw [no (by simp only [vShape, decide_eq_false (show ¬ (p.f1 + cnt (sets p.f0) - 1 ≤ 1073741823) by omega), Bool.and_false])]; exact evNow _
  have hmin : min (cnt (sets p.f0)) 1073741825 = cnt (sets p.f0) := by omega
  have hvp : vShape p.f0 p.f1 = true := by
   simp only [vShape, ha, Bool.true_and, decide_eq_true (show 1 ≤ p.f0.length ∧ p.f0.length ≤ 8 by omega), decide_eq_true (show 0 ≤ p.f1 ∧ p.f1 ≤ 1073741823 by omega), decide_eq_true (show p.f1 + cnt (sets p.f0) - 1 ≤ 1073741823 by omega)]
  simp only [hmin] at d5 ⊢; simp only [if_neg d5]; have small : tk.length * 16 ≤ 140737488351232 := by have := ht.2.1; omega
  have hvr : ValidFrom 1073741823 (-2) ([(⟨p.f1, p.f1 + cnt (sets p.f0) - 1⟩ : Ra)].map PB4.L43) := ⟨by show 0 ≤ p.f1; omega, by show p.f1 ≤ p.f1 + cnt (sets p.f0) - 1; omega, by show p.f1 + cnt (sets p.f0) - 1 ≤ 1073741823; omega, by show (-2 : Int) < p.f1 - 1; omega, trivial⟩; obtain ⟨m, m1, m2⟩ := PB4.scalars_Meet_is tk [(⟨p.f1, p.f1 + cnt (sets p.f0) - 1⟩ : Ra)] small (by simp); obtain ⟨u, u1, u2⟩ := PB4.scalars_Union_is tk [(⟨p.f1, p.f1 + cnt (sets p.f0) - 1⟩ : Ra)] small (by simp); have mm : ∀ x, Mem (m.map PB4.L43) x ↔ (Taken pre x ∧ p.f1 ≤ x ∧ x ≤ lastOf p) := fun x => by
   have h0 := m2.2.2 x; simp only [PB4.setL_of ht.1, PB4.setL_of hvr, one_mem, ht.2.2 x] at h0; exact h0
  have hmt : (m.length : Int) > 0 ↔ pre.any (meetsB p) = true := by
   constructor
   ·intro hm; cases m with
    | nil => simp at hm
    | cons r s =>
     have hr := m2.1.each (PB4.L43 r) (List.mem_cons_self); obtain ⟨⟨q, hq1, hq2, hq3⟩, h4, h5⟩ := (mm (PB4.L43 r).1).1 ⟨_, List.mem_cons_self, Int.le_refl _, hr.2.1⟩; refine List.any_eq_true.2 ⟨q, hq1, ?_⟩; simp only [meetsB, Bool.and_eq_true, decide_eq_true_eq]; omega
   ·intro hm; obtain ⟨q, hq1, hq2⟩ := List.any_eq_true.1 hm; simp only [meetsB, Bool.and_eq_true, decide_eq_true_eq] at hq2; have hqq := hq q hq1; have hpp : p.f1 ≤ lastOf p := by show p.f1 ≤ p.f1 + cnt (sets p.f0) - 1; omega
    have := (mm (max p.f1 q.f1)).2 ⟨⟨q, hq1, by omega, by omega⟩, by omega, by omega⟩; cases m with
    | nil => exact (Mem.nil this).elim
    | cons r s => simp
  refine Ev.bind m1 ?_; by_cases d6 : (m.length : Int) > 0
  ·simp only [if_pos d6]; rw [show vS pre (p :: t) = false by show (vShape p.f0 p.f1 && (!(pre.any (meetsB p)) && _)) = false; rw [hmt.1 d6]; simp]; exact evNow _
  ·simp only [if_neg d6]; rw [show vS pre (p :: t) = vS (pre ++ [p]) t by
    show (vShape p.f0 p.f1 && (!(pre.any (meetsB p)) && vS (pre ++ [p]) t)) = _; rw [hvp, show pre.any (meetsB p) = false by simpa using fun h => d6 (hmt.2 h)]; rfl]
   refine Ev.bind u1 ?_; simp only [hw.out]; have ih := valid_loop3 N hN t (pre ++ [p]) u (by rw [app_snoc]; exact hl) (fun q hq => hi q (List.mem_cons_of_mem _ hq))
    (fun q hq' => by
     rcases List.mem_append.1 hq' with h | h
     ·exact hq q h
     ·rw [List.mem_singleton.1 h]; show 0 ≤ p.f1 ∧ p.f1 ≤ p.f1 + cnt (sets p.f0) - 1 ∧ p.f1 + cnt (sets p.f0) - 1 ≤ 1073741823; omega)
    ⟨u2.1, u2.2.1, fun x => by
     have h0 := u2.2.2 x; simp only [PB4.setL_of ht.1, PB4.setL_of hvr, one_mem, ht.2.2 x] at h0; rw [h0]; constructor
     ·rintro (⟨q, h1, h2⟩ | h)
      ·exact ⟨q, List.mem_append_left _ h1, h2⟩
      ·exact ⟨p, List.mem_append_right _ (List.mem_singleton.2 rfl), h⟩
     ·rintro ⟨q, h1, h2⟩; rcases List.mem_append.1 h1 with h1 | h1
      ·exact .inl ⟨q, h1, h2⟩
      ·rw [List.mem_singleton.1 h1] at h2; exact .inr h2⟩
   rw [app_snoc, snoc_len] at ih; exact ih
theorem schemeValid_is (ss : List Sh) (h : InS ss) : Ev (fun k => scheme_Valid.f k ss) (vScheme ss) := by
 simp only [scheme_Valid.f]; by_cases c : (ss.length : Int) > 32
 ·simp only [if_pos c]; rw [show vScheme ss = false by simp only [vScheme, decide_eq_false (show ¬ ss.length ≤ 32 by omega), Bool.false_and]]; exact evNow _
 ·simp only [if_neg c]; rw [show vScheme ss = vS [] ss by simp only [vScheme, decide_eq_true (show ss.length ≤ 32 by omega), Bool.true_and]]; have := valid_loop3 32 (by omega) ss [] [] (by simp; omega) h.2 (fun q hq => by cases hq) ⟨trivial, by simp, fun x => ⟨fun h => (Mem.nil h).elim, fun ⟨q, hq, _⟩ => by cases hq⟩⟩; simpa using this
theorem shapeValid_is (ps : List (List Sp)) (a : Int) (h : In2 ps) : Ev (fun k => shape_Valid.f k ps a) (vShape ps a) := by
 simp only [shape_Valid.f]; have := schemeValid_is [⟨ps, a⟩] ⟨by simp, fun p hp => by rw [List.mem_singleton.1 hp]; exact h⟩; refine Ev.bind this ?_; rw [show vScheme [⟨ps, a⟩] = vShape ps a by show (_ && (vShape ps a && (_ && true))) = _; simp]; exact evNow _
end Go.Proofs.Ytoljcfocgaonpaa.PBS
end
section
namespace Go.Proofs.Ytoljcfocgaonpaa.PBS
open Go.RowKit Go.Proofs.YtoljcfocgaonpaaW.PrintWords Go.Proofs.YtoljcfocgaonpaaW.PrintLast Go.Proofs.YtoljcfocgaonpaaW.PrintMore Go.Proofs.Ytoljcfocgaonpaa.I Go.Proofs.LT Go.Proofs.Ytoljcfocgaonpaa.PB3
set_option linter.unusedVariables false
set_option linter.unusedSimpArgs false
theorem wf64 {x : Int} (h0 : -9223372036854775808 ≤ x) (h1 : x ≤ 9223372036854775807) : (Lit.int .i64 x).wf = true := by
 have h := wf_wrap .i64 x; rwa [show IntKind.i64.wrap x = x from by rw [IntKind.wrap_i64]; omega] at h
theorem rdL_at (ps : List (List Sp)) (i : Nat) (h : i < ps.length) : rd_L4 ps (i : Int) = ps[i] := by simp [rd_L4, List.getD, h]
theorem rd_at (l : List Int) (i : Nat) (x : Int) (h : l[i]? = some x) : rd l (i : Int) = x := by simp [rd, List.getD, h]
theorem good_part {ps : List (List Sp)} (h : ps.all okPart = true) {i : Nat} (hi : i < ps.length) : okPart ps[i] = true := List.all_eq_true.1 h _ (List.getElem_mem hi)
theorem cnt_step (ps : List (List Sp)) (i : Nat) (hi : i < ps.length) : cnt (sets (ps.drop i)) = size (runs ps[i]) * cnt (sets (ps.drop (i + 1))) := by
 rw [List.drop_eq_getElem_cons hi]; exact cnt_cons _ _
theorem SP_step (ps : List (List Sp)) (i : Nat) (hi : i < ps.length) : SP (sets (ps.drop i)) = cnt (sets (ps.drop i)) :: SP (sets (ps.drop (i + 1))) := by
 rw [cnt_step ps i hi, List.drop_eq_getElem_cons hi]; exact (by rw [← cnt_cons]; exact SP_cons _)
theorem set_mid (i : Nat) (n : Int) (t : List Int) : (List.replicate (i + 1) 0 ++ t).set i n = List.replicate i 0 ++ n :: t := by
 rw [List.replicate_succ', List.append_assoc, List.set_append, if_neg (by simp), List.length_replicate, Nat.sub_self]; rfl
theorem steps_loop (ps : List (List Sp)) (a : Int) (hI : In2 ps) (hk : ps.all okPart = true) (hl : ps.length ≤ 8) (hc : cnt (sets ps) ≤ 1073741824) : ∀ (i : Nat), i ≤ ps.length →
 Ev (fun k => shape_steps.l0 k (cnt (sets (ps.drop i))) (i : Int) (List.replicate (i + 1) 0 ++ (SP (sets (ps.drop i))).tail) ps a) (SP (sets ps))
 | 0, _ => by
  refine evSucc ?_; rw [List.drop_zero]; have c : (0 : Int) < ((List.replicate (0 + 1) (0 : Int) ++ (SP (sets ps)).tail).length : Nat) := by simp
  simp only [shape_steps.l0, if_neg (show ¬ ((0 : Nat) : Int) > 0 by omega), if_pos c]; have e : (List.replicate (0 + 1) (0 : Int) ++ (SP (sets ps)).tail).set (0 : Int).toNat (cnt (sets ps)) = SP (sets ps) := by
   rw [show (0 : Int).toNat = 0 from rfl, set_mid 0, ← SP_cons]; first | done | rfl
  rw [e]; exact evNow _
 | i + 1, hi => by
  have ih := steps_loop ps a hI hk hl hc i (by omega); have hg := good_of hk; have hp := good_part hk (show i < ps.length by omega); have hs := okPart_good hp; have hz := size_256 hs.1; have hd := cnt_drop i hg; rw [sets_drop, cnt_step ps i (by omega)] at hd; have h1 : 1 ≤ cnt (sets (ps.drop (i + 1))) := by have := cnt_pos (hg.drop (i + 1)); rwa [sets_drop] at this
  have e1 : cnt (sets (ps.drop (i + 1))) * size (runs ps[i]) = cnt (sets (ps.drop i)) := by rw [cnt_step ps i (by omega), Int.mul_comm]
  have hpos : 0 ≤ size (runs ps[i]) * cnt (sets (ps.drop (i + 1))) := Int.mul_nonneg (by omega) (by omega); have hw : Aside0 (wrap64 (cnt (sets (ps.drop (i + 1))) * size (runs ps[i])) = cnt (sets (ps.drop i))) := Aside0.mk (by rw [w64 (by rw [Int.mul_comm]; omega) (by rw [Int.mul_comm]; omega), e1]); have hw2 : Aside0 (wrap64 (((i + 1 : Nat) : Int) - 1) = (i : Int)) := Aside0.mk (by rw [w64 (by omega) (by omega)]; omega); have hlen : ((List.replicate (i + 1 + 1) (0 : Int) ++ (SP (sets (ps.drop (i + 1)))).tail).length : Nat) = ps.length + 1 := by
   simp [SP_len, sets_len]; omega
  have c1 : ((i + 1 : Nat) : Int) < ((List.replicate (i + 1 + 1) (0 : Int) ++ (SP (sets (ps.drop (i + 1)))).tail).length : Nat) := by rw [hlen]; omega
  refine evSucc ?_; simp only [shape_steps.l0, if_pos (show ((i + 1 : Nat) : Int) > 0 by omega), if_pos (show (0 : Int) ≤ ((i + 1 : Nat) : Int) by omega), if_pos c1, hw2.out, if_pos (show (0 : Int) ≤ (i : Int) by omega), if_pos (show (i : Int) < (ps.length : Int) by omega), rdL_at ps i (by omega)]; refine Ev.bind (size_is3 _ (hI.2 _ (List.getElem_mem _)) hp) ?_; simp only [hw.out]; have e2 : (List.replicate (i + 1 + 1) (0 : Int) ++ (SP (sets (ps.drop (i + 1)))).tail).set (((i + 1 : Nat) : Int)).toNat (cnt (sets (ps.drop (i + 1)))) = List.replicate (i + 1) 0 ++ (SP (sets (ps.drop i))).tail := by
   rw [Int.toNat_natCast, set_mid (i + 1), ← SP_cons, SP_step ps i (by omega)]; rfl
  rw [e2]; exact ih
theorem steps_is {ps : List (List Sp)} {a : Int} (hI : In2 ps) (hv : vShape ps a = true) : Ev (fun k => shape_steps.f k ps a) (SP (sets ps)) := by
 obtain ⟨⟨l1, l2⟩, ⟨a1, a2⟩, hk, hg, hc⟩ := vShape_good hv; have h := steps_loop ps a hI hk l2 (by omega) ps.length (Nat.le_refl _); rw [List.drop_length] at h; have hw : Aside0 (wrap64 ((ps.length : Int) + 1) = ((ps.length + 1 : Nat) : Int)) := Aside0.mk (by rw [w64 (by omega) (by omega)]; simp); simp only [shape_steps.f, hw.out, if_pos (show (0 : Int) ≤ ((ps.length + 1 : Nat) : Int) by omega), Int.toNat_natCast, if_pos (show ps.length + 1 ≤ 35184372088832 by omega)]; simpa [sets, SP, cnt_nil] using h
theorem Count_is (ps : List (List Sp)) (a : Int) (hI : In2 ps) : Ev (fun k => shape_Count.f k ps a) (if vShape ps a = true then cnt (sets ps) else 0) := by
 simp only [shape_Count.f]; refine Ev.bind (shapeValid_is ps a hI) ?_; cases hv : vShape ps a
 ·simp only [Bool.false_eq_true, if_false]; exact evNow _
 ·simp only [if_true]; refine Ev.bind (steps_is hI hv) ?_; rw [if_pos (show (0 : Int) < ((SP (sets ps)).length : Nat) by rw [SP_len]; omega), show rd (SP (sets ps)) 0 = cnt (sets ps) by rw [SP_cons]; rfl]; exact evNow _
theorem select_at (p : List Sp) (d : Int) (hi : In1 p) (hk : okPart p = true) (h0 : 0 ≤ d) (h1 : d < size (runs p)) : Ev (fun k => spans_Select.f k p d) (selV (runs p) d, true) := by
 have hs := okPart_good hk; have hz := size_256 hs.1; obtain ⟨r, r1, r2⟩ := spans_Select_is p d (wf64 (by omega) (by omega)) hi; rw [show p.map L34 = runs p from rfl, setL_of hs.1] at r2; have hS := selV_spec hs.1 h0 h1; obtain rfl := Sel.uniq hs.1 r2 (.inl ⟨_, hS.1, hS.2, rfl⟩); exact r1
theorem tail_at (ps : List (List Sp)) (i : Nat) (hi : i < ps.length) : (SP (sets ps)).tail[i]? = some (cnt (sets (ps.drop (i + 1)))) := by
 have := SP_at (sets ps) (i + 1) (by rw [sets_len]; omega); rw [sets_drop] at this; rw [← this, List.getElem?_tail]
theorem unrank_loop (ps : List (List Sp)) (a : Int) (hI : In2 ps) (hk : ps.all okPart = true) (hl : ps.length ≤ 8) (hc : cnt (sets ps) ≤ 1073741824) : ∀ (n i : Nat) (kk : Int) (out : List Int), i + n = ps.length → out.length ≤ i → 0 ≤ kk → kk < cnt (sets (ps.drop i)) →
 Ev (fun k => shape_Unrank.l0 k kk out (SP (sets ps)).tail ((SP (sets ps)).tail.length : Int) (i : Int) ps a) (out ++ unr (sets (ps.drop i)) kk, true)
 | 0, i, kk, out, hi, _, _, _ => by
  refine evSucc ?_; have hlen : (SP (sets ps)).tail.length = ps.length := by rw [List.length_tail, SP_len, sets_len]; rfl
  simp only [shape_Unrank.l0, hlen, if_neg (show ¬ (i : Int) < ((ps.length : Nat) : Int) by omega)]; rw [List.drop_of_length_le (by omega), show unr (sets []) kk = [] from unr_nil _, List.append_nil]; exact evNow _
 | n + 1, i, kk, out, hi, ho, h0, h1 => by
  have hlen : (SP (sets ps)).tail.length = ps.length := by rw [List.length_tail, SP_len, sets_len]; rfl
  have hil : i < ps.length := by omega
  have hg := good_of hk; have hp := good_part hk hil; have hs := okPart_good hp; have hpos : 1 ≤ cnt (sets (ps.drop (i + 1))) := by have := cnt_pos (hg.drop (i + 1)); rwa [sets_drop] at this
  rw [cnt_step ps i hil] at h1; obtain ⟨d0, d1, d2, d3⟩ := digit hpos h0 h1; have hz := size_256 hs.1; have ih := unrank_loop ps a hI hk hl hc n (i + 1) (kk % cnt (sets (ps.drop (i + 1)))) (out ++ [selV (runs ps[i]) (kk / cnt (sets (ps.drop (i + 1))))]) (by omega) (by simp; omega) d2 d3; have hr := hs.1.range (selV_spec hs.1 d0 d1).1; have r1 := rd_at _ i _ (tail_at ps i hil); have t1 : Int.tdiv kk (cnt (sets (ps.drop (i + 1)))) = kk / cnt (sets (ps.drop (i + 1))) := Int.tdiv_eq_ediv_of_nonneg h0; have t2 : Int.tmod kk (cnt (sets (ps.drop (i + 1)))) = kk % cnt (sets (ps.drop (i + 1))) := Int.tmod_eq_emod_of_nonneg h0; have hw : Aside0 (wrap64 (kk / cnt (sets (ps.drop (i + 1)))) = kk / cnt (sets (ps.drop (i + 1)))) := Aside0.mk (w64 (by omega) (by omega)); have hw2 : Aside0 (wrap64 ((i : Int) + 1) = ((i + 1 : Nat) : Int)) := Aside0.mk (by rw [w64 (by omega) (by omega)]; simp); have hm : selV (runs ps[i]) (kk / cnt (sets (ps.drop (i + 1)))) % 256 = selV (runs ps[i]) (kk / cnt (sets (ps.drop (i + 1)))) := Int.emod_eq_of_lt hr.1 (by omega); refine evSucc ?_; simp only [shape_Unrank.l0, hlen, if_pos (show (i : Int) < ((ps.length : Nat) : Int) by omega), if_pos (show (0 : Int) ≤ (i : Int) by omega), r1, if_neg (show ¬ cnt (sets (ps.drop (i + 1))) = 0 by omega), rdL_at ps i hil, t1, t2, hw.out]; refine Ev.bind (select_at _ _ (hI.2 _ (List.getElem_mem _)) hp d0 d1) ?_; simp only [if_pos (show out.length < 140737488355328 by omega), hw2.out, hm]; have e : unr (sets (ps.drop i)) kk = selV (runs ps[i]) (kk / cnt (sets (ps.drop (i + 1)))) :: unr (sets (ps.drop (i + 1))) (kk % cnt (sets (ps.drop (i + 1)))) := by
   rw [List.drop_eq_getElem_cons hil]; exact unr_cons _ _ _
  rw [e]; rw [hlen, List.append_assoc] at ih; exact ih
theorem Unrank_no (ps : List (List Sp)) (a kk : Int) (hI : In2 ps) (h : ¬ (0 ≤ kk ∧ kk < (if vShape ps a = true then cnt (sets ps) else 0))) : Ev (fun k => shape_Unrank.f k ps a kk) ([], false) := by
 have j : Ev (fun k => shape_Unrank.j0 k kk true ps a) ([], false) := by
  refine evSucc ?_; simp only [shape_Unrank.j0, if_true]; exact evNow _
 simp only [shape_Unrank.f]; by_cases c : kk < 0
 ·simp only [if_pos c]; exact j
 ·simp only [if_neg c]; refine Ev.bind (Count_is ps a hI) ?_; rw [decide_eq_true (show kk ≥ (if vShape ps a = true then cnt (sets ps) else 0) by omega)]; exact j
theorem Unrank_yes {ps : List (List Sp)} {a kk : Int} (hI : In2 ps) (hv : vShape ps a = true) (h0 : 0 ≤ kk) (h1 : kk < cnt (sets ps)) : Ev (fun k => shape_Unrank.f k ps a kk) (unr (sets ps) kk, true) := by
 obtain ⟨⟨l1, l2⟩, ⟨a1, a2⟩, hk, hg, hc⟩ := vShape_good hv; simp only [shape_Unrank.f, if_neg (show ¬ kk < 0 by omega)]; have hC := Count_is ps a hI; rw [if_pos hv] at hC; refine Ev.bind hC ?_; rw [decide_eq_false (show ¬ kk ≥ cnt (sets ps) by omega)]; refine evSucc ?_; simp only [shape_Unrank.j0, Bool.false_eq_true, if_false]; refine Ev.bind (steps_is hI hv) ?_; simp only [if_pos (show (1 : Int) ≤ ((SP (sets ps)).length : Nat) by rw [SP_len]; omega)]; simp only [Option.bind_some, show (1 : Int).toNat = 1 from rfl, List.drop_one]; have := unrank_loop ps a hI hk l2 (by omega) ps.length 0 kk [] (by omega) (by simp) h0 (by rw [List.drop_zero]; exact h1); rw [List.drop_zero, List.nil_append] at this; exact this
def rkR : Option Int → Int × Bool
 | some r => (r, true)
 | none => (0, false)
theorem rank_loop3 (ps : List (List Sp)) (a : Int) (bs : List Int) (hb : ∀ b ∈ bs, 0 ≤ b ∧ b ≤ 255) (hbl : bs.length = ps.length) (hI : In2 ps) (hk : ps.all okPart = true) (hl : ps.length ≤ 8) (hc : cnt (sets ps) ≤ 1073741824) : ∀ (n i : Nat) (acc : Int), i + n = ps.length → 0 ≤ acc → acc + cnt (sets (ps.drop i)) ≤ 1073741824 →
 Ev (fun k => shape_Rank.l0 k bs acc (SP (sets ps)).tail ((SP (sets ps)).tail.length : Int) (i : Int) ps a) (rkR ((rnk (sets (ps.drop i)) (bs.drop i)).map (acc + ·)))
 | 0, i, acc, hi, _, _ => by
  refine evSucc ?_; have hlen : (SP (sets ps)).tail.length = ps.length := by rw [List.length_tail, SP_len, sets_len]; rfl
  simp only [shape_Rank.l0, hlen, if_neg (show ¬ (i : Int) < ((ps.length : Nat) : Int) by omega)]; rw [List.drop_of_length_le (show ps.length ≤ i by omega), List.drop_of_length_le (show bs.length ≤ i by omega), show rnk (sets []) [] = some 0 from rnk_nil]; simpa [rkR] using evNow (acc, true)
 | n + 1, i, acc, hi, h0, h1 => by
  have hlen : (SP (sets ps)).tail.length = ps.length := by rw [List.length_tail, SP_len, sets_len]; rfl
  have hil : i < ps.length := by omega
  have hbi : i < bs.length := by omega
  have hg := good_of hk; have hp := good_part hk hil; have hs := okPart_good hp; have hz := size_256 hs.1; have hpos : 1 ≤ cnt (sets (ps.drop (i + 1))) := by have := cnt_pos (hg.drop (i + 1)); rwa [sets_drop] at this
  have hbb := hb _ (List.getElem_mem hbi); rw [cnt_step ps i hil] at h1; have r1 := rd_at _ i _ (tail_at ps i hil); have r2 := rd_at bs i _ (List.getElem?_eq_getElem hbi); have hw : Aside0 (wrap64 (bs[i]) = bs[i]) := Aside0.mk (w64 (by omega) (by omega)); have hw2 : Aside0 (wrap64 ((i : Int) + 1) = ((i + 1 : Nat) : Int)) := Aside0.mk (by rw [w64 (by omega) (by omega)]; simp); have hR := spans_Rank_is ps[i] bs[i] (wf64 (by omega) (by omega)) (hI.2 _ (List.getElem_mem _)); rw [show ps[i].map L34 = runs ps[i] from rfl, setL_of hs.1] at hR; have e : rnk (sets (ps.drop i)) (bs.drop i) = if memB (runs ps[i]) bs[i] = true then (rnk (sets (ps.drop (i + 1))) (bs.drop (i + 1))).map (fun r => (cd (memB (runs ps[i])) bs[i].toNat : Int) * cnt (sets (ps.drop (i + 1))) + r) else none := by
   rw [List.drop_eq_getElem_cons hil, List.drop_eq_getElem_cons hbi]; exact rnk_cons _ _ _ _
  refine evSucc ?_; simp only [shape_Rank.l0, hlen, if_pos (show (i : Int) < ((ps.length : Nat) : Int) by omega), if_pos (show (0 : Int) ≤ (i : Int) by omega), if_pos (show (i : Int) < ((bs.length : Nat) : Int) by omega), r1, r2, rdL_at ps i hil, hw.out]; refine Ev.bind hR ?_; by_cases hm : memB (runs ps[i]) bs[i] = true
  ·rw [e, if_pos hm]; simp only [rankL, if_pos hm, if_true]; have hd := cd_less hs.1 (memB_iff.1 hm); have m0 : 0 ≤ (cd (memB (runs ps[i])) bs[i].toNat : Int) * cnt (sets (ps.drop (i + 1))) := Int.mul_nonneg (by omega) (by omega); have m1 := Int.mul_le_mul_of_nonneg_right (show (cd (memB (runs ps[i])) bs[i].toNat : Int) + 1 ≤ size (runs ps[i]) by omega) (show 0 ≤ cnt (sets (ps.drop (i + 1))) by omega); rw [Int.add_mul, Int.one_mul] at m1; have w1 : Aside0 (wrap64 (acc + wrap64 ((cd (memB (runs ps[i])) bs[i].toNat : Int) * cnt (sets (ps.drop (i + 1))))) = acc + (cd (memB (runs ps[i])) bs[i].toNat : Int) * cnt (sets (ps.drop (i + 1)))) := Aside0.mk (by
    rw [w64 (x := (cd (memB (runs ps[i])) bs[i].toNat : Int) * cnt (sets (ps.drop (i + 1)))) (by omega) (by omega), w64 (by omega) (by omega)])
   simp only [w1.out, hw2.out]; have ih := rank_loop3 ps a bs hb hbl hI hk hl hc n (i + 1) (acc + (cd (memB (runs ps[i])) bs[i].toNat : Int) * cnt (sets (ps.drop (i + 1)))) (by omega) (by omega) (by omega); rw [hlen] at ih; have e3 : ((rnk (sets (ps.drop (i + 1))) (bs.drop (i + 1))).map (fun r => (cd (memB (runs ps[i])) bs[i].toNat : Int) * cnt (sets (ps.drop (i + 1))) + r)).map (acc + ·) = (rnk (sets (ps.drop (i + 1))) (bs.drop (i + 1))).map (acc + (cd (memB (runs ps[i])) bs[i].toNat : Int) * cnt (sets (ps.drop (i + 1))) + ·) := by
    cases rnk (sets (ps.drop (i + 1))) (bs.drop (i + 1)) with
    | none => rfl
    | some r => simp [Int.add_assoc]
   rw [e3]; exact ih
  ·rw [e, if_neg hm]; simp only [rankL, if_neg hm, Bool.false_eq_true, if_false]; exact evNow _
def rkS (ps : List (List Sp)) (a : Int) (bs : List Int) : Int × Bool := if vShape ps a = true then rkR (rnk (sets ps) bs) else (0, false)
theorem Rank_is (ps : List (List Sp)) (a : Int) (bs : List Int) (hI : In2 ps) (hb : ∀ b ∈ bs, 0 ≤ b ∧ b ≤ 255) : Ev (fun k => shape_Rank.f k ps a bs) (rkS ps a bs) := by
 have jT : Ev (fun k => shape_Rank.j0 k bs true ps a) (0, false) := by
  refine evSucc ?_; simp only [shape_Rank.j0, if_true]; exact evNow _
 simp only [shape_Rank.f]; refine Ev.bind (shapeValid_is ps a hI) ?_; unfold rkS; cases hv : vShape ps a
 ·simp only [Bool.false_eq_true, if_false]; exact jT
 ·simp only [if_true]; obtain ⟨⟨l1, l2⟩, ⟨a1, a2⟩, hk, hg, hc⟩ := vShape_good hv; by_cases c : bs.length = ps.length
  ·rw [show ((bs.length : Int) != (ps.length : Int)) = false by simp [c]]; refine evSucc ?_; simp only [shape_Rank.j0, Bool.false_eq_true, if_false]; refine Ev.bind (steps_is hI hv) ?_; simp only [if_pos (show (1 : Int) ≤ ((SP (sets ps)).length : Nat) by rw [SP_len]; omega)]; simp only [Option.bind_some, show (1 : Int).toNat = 1 from rfl, List.drop_one]; have := rank_loop3 ps a bs hb c hI hk l2 (by omega) ps.length 0 0 (by omega) (by omega) (by rw [List.drop_zero]; omega); rw [List.drop_zero, List.drop_zero] at this; have e : (rnk (sets ps) bs).map ((0 : Int) + ·) = rnk (sets ps) bs := by cases rnk (sets ps) bs <;> simp
   rw [e] at this; exact this
  ·rw [show ((bs.length : Int) != (ps.length : Int)) = true by simp; omega]; have e : rnk (sets ps) bs = none := by
    cases hr : rnk (sets ps) bs with
    | none => rfl
    | some r => exact (c (by have := rnk_len hr; rwa [sets_len] at this)).elim
   rw [e]; exact jT
end Go.Proofs.Ytoljcfocgaonpaa.PBS
end
section
namespace Go.Proofs.Ytoljcfocgaonpaa.PBS
open Go.RowKit Go.Proofs.YtoljcfocgaonpaaW.PrintWords Go.Proofs.YtoljcfocgaonpaaW.PrintLast Go.Proofs.YtoljcfocgaonpaaW.PrintMore Go.Proofs.Ytoljcfocgaonpaa.I Go.Proofs.LT Go.Proofs.Ytoljcfocgaonpaa.PB3
set_option linter.unusedVariables false
set_option linter.unusedSimpArgs false
theorem byte_eq {a b : Int} (ha : 0 ≤ a ∧ a ≤ 255) (hb : 0 ≤ b ∧ b ≤ 255) : (UInt8.ofNat a.toNat = UInt8.ofNat b.toNat) ↔ a = b := by
 constructor
 ·intro h; have := congrArg UInt8.toNat h; rw [UInt8.toNat_ofNat', UInt8.toNat_ofNat', Nat.mod_eq_of_lt (by omega), Nat.mod_eq_of_lt (by omega)] at this; omega
 ·intro h; rw [h]
theorem bytes_inj : ∀ (x y : List Int), (∀ a ∈ x, 0 ≤ a ∧ a ≤ 255) → (∀ a ∈ y, 0 ≤ a ∧ a ≤ 255) → (Lib.bytesOf x = Lib.bytesOf y ↔ x = y)
 | [], [], _, _ => ⟨fun _ => rfl, fun _ => rfl⟩
 | [], b :: t, _, _ => ⟨fun h => (by cases h), fun h => (by cases h)⟩
 | a :: s, [], _, _ => ⟨fun h => (by cases h), fun h => (by cases h)⟩
 | a :: s, b :: t, hx, hy => by
  have h1 := hx a List.mem_cons_self; have h2 := hy b List.mem_cons_self; have ih := bytes_inj s t (fun z hz => hx z (List.mem_cons_of_mem _ hz)) (fun z hz => hy z (List.mem_cons_of_mem _ hz)); show (UInt8.ofNat a.toNat :: Lib.bytesOf s = UInt8.ofNat b.toNat :: Lib.bytesOf t) ↔ _; rw [List.cons.injEq, List.cons.injEq, ih, byte_eq h1 h2]
end Go.Proofs.Ytoljcfocgaonpaa.PBS
end
section
namespace Go.Proofs.Ytoljcfocgaonpaa.PBS
open Go.RowKit Go.Proofs.YtoljcfocgaonpaaW.PrintWords Go.Proofs.YtoljcfocgaonpaaW.PrintLast Go.Proofs.YtoljcfocgaonpaaW.PrintMore Go.Proofs.Ytoljcfocgaonpaa.I Go.Proofs.LT Go.Proofs.Ytoljcfocgaonpaa.PB3
set_option linter.unusedVariables false
set_option linter.unusedSimpArgs false
noncomputable def cntS (ps : List (List Sp)) (a : Int) : Int := if vShape ps a = true then cnt (sets ps) else 0
noncomputable def okB (ps : List (List Sp)) (a k : Int) : Bool := decide (0 ≤ k ∧ k < cntS ps a)
noncomputable def unS (ps : List (List Sp)) (a k : Int) : List Int := if okB ps a k = true then unr (sets ps) k else []
theorem okB_of {ps : List (List Sp)} {a k : Int} (h : okB ps a k = true) : vShape ps a = true ∧ 0 ≤ k ∧ k < cnt (sets ps) := by
 have h := of_decide_eq_true h; by_cases hv : vShape ps a = true
 ·have e : cntS ps a = cnt (sets ps) := if_pos hv; exact ⟨hv, h.1, by omega⟩
 ·have e : cntS ps a = 0 := if_neg hv; omega
theorem Unrank_is (ps : List (List Sp)) (a k : Int) (hI : In2 ps) : Ev (fun n => shape_Unrank.f n ps a k) (unS ps a k, okB ps a k) := by
 cases h : okB ps a k
 ·have := Unrank_no ps a k hI (of_decide_eq_false h); simpa [unS, h] using this
 ·obtain ⟨hv, h0, h1⟩ := okB_of h; have := Unrank_yes hI hv h0 h1; simpa [unS, h] using this
end Go.Proofs.Ytoljcfocgaonpaa.PBS
namespace Go.Proofs.Ytoljcfocgaonpaa.Pure
open Go.Proofs.Ytoljcfocgaonpaa.I Go.Proofs.YtoljcfocgaonpaaW.PrintWords
end Go.Proofs.Ytoljcfocgaonpaa.Pure
end
section
namespace Go.Proofs.Ytoljcfocgaonpaa.PBS
open Go.RowKit Go.Proofs.YtoljcfocgaonpaaW.PrintWords Go.Proofs.YtoljcfocgaonpaaW.PrintLast Go.Proofs.YtoljcfocgaonpaaW.PrintMore Go.Proofs.Ytoljcfocgaonpaa.I Go.Proofs.LT Go.Proofs.Ytoljcfocgaonpaa.PB3
set_option linter.unusedVariables false
set_option linter.unusedSimpArgs false
theorem evAllS {α : Type} {g : Nat → Nat → Option α} {v : Nat → α} : ∀ {N : Nat}, (∀ i, i < N → Ev (g i) (v i)) → ∃ K, ∀ k, K ≤ k → ∀ i, i < N → g i k = some (v i)
 | 0, _ => ⟨0, fun _ _ i hi => by omega⟩
 | N + 1, h => by
  obtain ⟨K, hK⟩ := evAllS (N := N) (fun i hi => h i (by omega)); obtain ⟨K', hK'⟩ := h N (by omega); refine ⟨max K K', fun k hk i hi => ?_⟩; rcases Nat.lt_or_ge i N with c | c
  ·exact hK k (by omega) i c
  ·obtain rfl : i = N := by omega
   exact hK' k (by omega)
theorem memI_R (l : List S133) (fr : Int) : memI l fr = memR (l.map L133) fr := by
 unfold memI memR; rw [List.flatMap_map]; rfl
theorem setOf_is (p : List Sp) (hp : In1 p) (hk : okPart p = true) : ∃ s, Ev (fun k => spans_set.f k p) s ∧ s.map L133 = runs p ∧ s.length ≤ 4611686018427387904 ∧ (∀ r ∈ s, r.f1 ≤ 4611686018427387904 ∧ -4611686018427387904 ≤ r.f0) := by
 obtain ⟨s, s1, s2⟩ := spans_set_is p hp; obtain ⟨hv, hn⟩ := spans_set_facts s2; have hs := okPart_good hk; rw [show p.map L34 = runs p from rfl, setL_of hs.1] at s2; refine ⟨s, s1, s2, ?_, ?_⟩
 ·have e : s.length = p.length := by have := congrArg List.length s2; rw [List.length_map] at this; rw [this]; exact List.length_map ..
  unfold In1 at hp; omega
 ·intro r hr; have := hs.1.each (L133 r) (by rw [← s2]; exact List.mem_map_of_mem hr); simp only [L133] at this; omega
theorem take_sets (ps : List (List Sp)) (n : Nat) (hn : n < ps.length) : sets (ps.take (n + 1)) = sets (ps.take n) ++ [runs ps[n]] := by
 unfold sets; rw [List.take_succ_eq_append_getElem hn, List.map_append]; rfl
theorem stepB_is (ps : List (List Sp)) (hk : ps.all okPart = true) (L : Nat → List S133) (hL : ∀ t (h : t < ps.length), (L t).map L133 = runs ps[t]) : ∀ (n : Nat) (q : Int) (r : List Int), n ≤ ps.length → 0 ≤ q → q < cnt (sets (ps.take n)) →
 stepB ps L n (unr (sets (ps.take n)) q ++ r) = if q + 1 < cnt (sets (ps.take n)) then some (unr (sets (ps.take n)) (q + 1) ++ r) else none
 | 0, q, r, _, h0, h1 => by
  rw [show cnt (sets (ps.take 0)) = 1 from cnt_nil] at h1 ⊢; rw [if_neg (by omega)]; rfl
 | n + 1, q, r, hn, h0, h1 => by
  have hnl : n < ps.length := by omega
  have hp := good_part hk hnl; have hs := okPart_good hp; have hz := size_256 hs.1; have hg : GoodP (sets (ps.take n)) := good_of (List.all_eq_true.2 fun x hx => List.all_eq_true.1 hk x (List.mem_of_mem_take hx)); have hcp := cnt_pos hg; rw [take_sets ps n hnl, cnt_snoc] at h1; have hdl : q / size (runs ps[n]) < cnt (sets (ps.take n)) := Int.ediv_lt_of_lt_mul (by omega) h1; have hd0 : 0 ≤ q / size (runs ps[n]) := Int.ediv_nonneg h0 (by omega); have m0 := Int.emod_nonneg q (show size (runs ps[n]) ≠ 0 by omega); have m1 := Int.emod_lt_of_pos q (show 0 < size (runs ps[n]) by omega); have em := Int.mul_ediv_add_emod q (size (runs ps[n])); rw [take_sets ps n hnl, cnt_snoc, unr_snoc' hs.2 hg h0 h1]; have hlen : (unr (sets (ps.take n)) (q / size (runs ps[n]))).length = n := by rw [unr_len, sets_len, List.length_take]; omega
  have eg : (unr (sets (ps.take n)) (q / size (runs ps[n])) ++ [selV (runs ps[n]) (q % size (runs ps[n]))] ++ r).getD n 0 = selV (runs ps[n]) (q % size (runs ps[n])) := by
   simp [List.getD, hlen]
  have es : ∀ y, (unr (sets (ps.take n)) (q / size (runs ps[n])) ++ [selV (runs ps[n]) (q % size (runs ps[n]))] ++ r).set n y = unr (sets (ps.take n)) (q / size (runs ps[n])) ++ (y :: r) := fun y => by
   rw [List.append_assoc, List.set_append_right _ _ (by omega), hlen]; simp
  show (match memI (L n) ((unr (sets (ps.take n)) (q / size (runs ps[n])) ++ [selV (runs ps[n]) (q % size (runs ps[n]))] ++ r).getD n 0 + 1) with
   | x :: _ => some ((unr (sets (ps.take n)) (q / size (runs ps[n])) ++ [selV (runs ps[n]) (q % size (runs ps[n]))] ++ r).set n (x % 256))
   | [] => stepB ps L n ((unr (sets (ps.take n)) (q / size (runs ps[n])) ++ [selV (runs ps[n]) (q % size (runs ps[n]))] ++ r).set n ((rd_T34 (ps.getD n []) 0).f0 % 256))) = _
  rw [eg, memI_R, hL n hnl, es]; by_cases c : q % size (runs ps[n]) + 1 < size (runs ps[n])
  ·obtain ⟨t, ht⟩ := memR_up hs.1 m0 c; have hr := hs.1.range (selV_spec hs.1 (show 0 ≤ q % size (runs ps[n]) + 1 by omega) c).1; have e1 : (q + 1) / size (runs ps[n]) = q / size (runs ps[n]) ∧ (q + 1) % size (runs ps[n]) = q % size (runs ps[n]) + 1 :=
    (Int.ediv_emod_unique (a := q + 1) (b := size (runs ps[n])) (by omega)).2 ⟨by omega, by omega, c⟩
   have hq : q + 1 < cnt (sets (ps.take n)) * size (runs ps[n]) := by
    have h2 := Int.mul_le_mul_of_nonneg_right (show q / size (runs ps[n]) + 1 ≤ cnt (sets (ps.take n)) by omega) (show 0 ≤ size (runs ps[n]) by omega); rw [Int.add_mul, Int.one_mul, Int.mul_comm] at h2; omega
   rw [ht, if_pos hq, unr_snoc' hs.2 hg (by omega) hq, e1.1, e1.2]; simp only; rw [es, Int.emod_eq_of_lt hr.1 (by omega)]; simp
  ·rw [memR_end hs.1 m0 m1 c]; simp only; have e1 : (q + 1) / size (runs ps[n]) = q / size (runs ps[n]) + 1 ∧ (q + 1) % size (runs ps[n]) = 0 :=
    (Int.ediv_emod_unique (a := q + 1) (b := size (runs ps[n])) (by omega)).2 ⟨by rw [Int.mul_add, Int.mul_one]; omega, by omega, by omega⟩
   have ih := stepB_is ps hk L hL n (q / size (runs ps[n])) (selV (runs ps[n]) 0 :: r) (by omega) hd0 hdl; have hlo : (rd_T34 (ps.getD n []) 0).f0 % 256 = selV (runs ps[n]) 0 := by
    have hne : ∃ x t, ps[n] = x :: t := by
     cases h : ps[n] with
     | nil => rw [h] at hp; simp [okPart] at hp
     | cons x t => exact ⟨x, t, rfl⟩
    obtain ⟨x, t, hx⟩ := hne; have hv := hs.1; rw [hx] at hv; have e2 := selV_zero (r := L34 x) (t := runs t) hv; rw [hx]; show _ = selV (L34 x :: runs t) 0; rw [e2]; have hr := hv.each (L34 x) (List.mem_cons_self); have e3 : ps.getD n [] = x :: t := by simp [List.getD, hnl, hx]
    rw [e3]; show x.f0 % 256 = x.f0; have h3 : 0 ≤ x.f0 := hr.1; have h4 : x.f0 ≤ x.f1 := hr.2.1; have h5 : x.f1 ≤ 255 := hr.2.2; exact Int.emod_eq_of_lt h3 (by omega)
   rw [hlo, ih]; have hiff : (q / size (runs ps[n]) + 1 < cnt (sets (ps.take n))) ↔ (q + 1 < cnt (sets (ps.take n)) * size (runs ps[n])) := by
    have e2 : q + 1 = (q / size (runs ps[n]) + 1) * size (runs ps[n]) := by rw [Int.add_mul, Int.one_mul, Int.mul_comm]; omega
    rw [e2]; exact (Int.mul_lt_mul_right (by omega)).symm
   by_cases d : q / size (runs ps[n]) + 1 < cnt (sets (ps.take n))
   ·rw [if_pos d, if_pos (hiff.1 d), unr_snoc' hs.2 hg (by omega) (hiff.1 d), e1.1, e1.2]; simp
   ·rw [if_neg d, if_neg (fun h => d (hiff.2 h))]
noncomputable def nSq (ps : List (List Sp)) (a fr : Int) : Nat := (cntS ps a - max fr 0).toNat
noncomputable def sqOf (ps : List (List Sp)) (fr : Int) (j : Nat) : List Int := unr (sets ps) (max fr 0 + j)
theorem allF_ev (ps : List (List Sp)) (a fr : Int) (hI : In2 ps) : ∃ K L, ∀ k, K ≤ k → AllF k ps a fr (unS ps a (max fr 0)) (okB ps a (max fr 0)) (nSq ps a fr) (sqOf ps fr) L := by
 obtain ⟨K0, h0⟩ := Unrank_is ps a (max fr 0) hI; cases hb : okB ps a (max fr 0)
 ·rw [hb] at h0; refine ⟨K0, fun _ => [], fun k hk_ => ⟨h0 _ hk_, fun _ => ?_, fun h => by cases h⟩⟩; have := of_decide_eq_false hb; unfold nSq; omega
 ·rw [hb] at h0; obtain ⟨hv, u0, u1⟩ := okB_of hb; obtain ⟨⟨l1, l2⟩, ha, hk, hg, hcn⟩ := vShape_good hv; have hcs : cntS ps a = cnt (sets ps) := by unfold cntS; rw [if_pos hv]
  have hset : ∀ t, ∃ s, ∀ h : t < ps.length, Ev (fun k => spans_set.f k (ps.getD t [])) s ∧ s.map L133 = runs ps[t] ∧ s.length ≤ 4611686018427387904 ∧ (∀ r ∈ s, r.f1 ≤ 4611686018427387904 ∧ -4611686018427387904 ≤ r.f0) := fun t => by
   by_cases h : t < ps.length
   ·obtain ⟨s, s1, s2, s3, s4⟩ := setOf_is ps[t] (hI.2 _ (List.getElem_mem h)) (good_part hk h); have e : ps.getD t [] = ps[t] := by simp [List.getD, h]
    exact ⟨s, fun _ => ⟨by rw [e]; exact s1, s2, s3, s4⟩⟩
   ·exact ⟨[], fun h' => absurd h' h⟩
  have hL := fun t => (hset t).choose_spec
  generalize hLe : (fun t => (hset t).choose) = L at hL; have hL' : ∀ t, ∀ h : t < ps.length, Ev (fun k => spans_set.f k (ps.getD t [])) (L t) ∧ (L t).map L133 = runs ps[t] ∧ (L t).length ≤ 4611686018427387904 ∧ (∀ r ∈ L t, r.f1 ≤ 4611686018427387904 ∧ -4611686018427387904 ≤ r.f0) := fun t h => by
   have := hL t h; rw [← hLe]; exact this
  obtain ⟨K1, h1⟩ := evAllS (g := fun t k => spans_set.f k (ps.getD t [])) (v := L) (N := ps.length) (fun t h => (hL' t h).1); have hN : ((nSq ps a fr : Nat) : Int) = cnt (sets ps) - max fr 0 := by unfold nSq; rw [hcs]; omega
  refine ⟨max K0 K1, L, fun k hk_ => ⟨h0 _ (by omega), (fun h => by cases h), fun _ => ⟨by omega, ?_, by omega, by omega, by omega, fun t ht => ⟨h1 _ (by omega) t ht, (hL' t ht).2.2.1, (hL' t ht).2.2.2, ?_⟩, fun j hj => ⟨?_, ?_, ?_⟩⟩⟩⟩
  ·unfold unS sqOf; rw [if_pos hb]; congr 1
   omega
  ·have hp := good_part hk ht; have e : ps.getD t [] = ps[t] := by simp [List.getD, ht]
   rw [e]; simp only [okPart, Bool.and_eq_true, Bool.not_eq_true', decide_eq_false_iff_not] at hp; omega
  ·unfold sqOf; rw [unr_len, sets_len]
  ·exact unr_range hg (by omega) (by omega)
  ·have := stepB_is ps hk L (fun t h => (hL' t h).2.1) ps.length (max fr 0 + j) [] (Nat.le_refl _) (by omega) (by rw [List.take_length]; omega); rw [List.take_length, List.append_nil, List.append_nil] at this; unfold sqOf; rw [this]; by_cases c : j + 1 < nSq ps a fr
   ·rw [if_pos c, if_pos (by omega)]; congr 2
    omega
   ·rw [if_neg c, if_neg (by omega)]
end Go.Proofs.Ytoljcfocgaonpaa.PBS
end
section
namespace Go.Proofs.Ytoljcfocgaonpaa.PBS
open Go.RowKit Go.Proofs.YtoljcfocgaonpaaW.PrintWords Go.Proofs.YtoljcfocgaonpaaW.PrintLast Go.Proofs.YtoljcfocgaonpaaW.PrintMore Go.Proofs.Ytoljcfocgaonpaa.I Go.Proofs.LT Go.Proofs.Ytoljcfocgaonpaa.PB3
set_option linter.unusedVariables false
set_option linter.unusedSimpArgs false
theorem cloneSpan_is (p : List Sp) (h : In1 p) : cloneSpan.f p = some p := by
 unfold In1 at h; simp only [cloneSpan.f, if_pos (show p.length < 8796093022208 by omega)]
theorem sCopy_in (ss out : List Sh) (i : Nat) (ps : List (List Sp)) (f : Int) (hp : In2 ps) (ho : out.length < 4398046511104) (hi : i ≤ 4398046511104) {r : List Sh} (h : Ev (fun k => scheme_Copy.l0 k ss (ss.length : Int) ((i + 1 : Nat) : Int) (out ++ [⟨ps, f⟩])) r) : ∀ (n j : Nat), j + n = ps.length →
 Ev (fun k => scheme_Copy.l1 k ss (ss.length : Int) (i : Int) ps (ps.length : Int) (j : Int) out (ps.take j) f) r
 | 0, j, hj => by
  obtain rfl : j = ps.length := by omega
  have hw : Aside0 (wrap64 ((i : Int) + 1) = ((i + 1 : Nat) : Int)) := Aside0.mk (by rw [w64 (by omega) (by omega)]; rfl); refine evSucc ?_; simp only [scheme_Copy.l1, if_neg (show ¬ ((ps.length : Nat) : Int) < ((ps.length : Nat) : Int) by omega), if_pos ho, hw.out, List.take_length]; exact h
 | n + 1, j, hj => by
  have hjl : j < ps.length := by omega
  have h1 := hp.1; have hw : Aside0 (wrap64 ((j : Int) + 1) = ((j + 1 : Nat) : Int)) := Aside0.mk (by rw [w64 (by omega) (by omega)]; rfl); have ih := sCopy_in ss out i ps f hp ho hi h n (j + 1) (by omega); have e : ps.take j ++ [ps[j]] = ps.take (j + 1) := (List.take_succ_eq_append_getElem hjl).symm; refine evSucc ?_; simp only [scheme_Copy.l1, if_pos (show (j : Int) < ((ps.length : Nat) : Int) by omega), if_pos (show (0 : Int) ≤ (j : Int) by omega), rdL_at ps j hjl, cloneSpan_is _ (hp.2 _ (List.getElem_mem hjl)), Option.bind_some, if_pos (show (ps.take j).length < 5864062014805 by rw [List.length_take]; omega), hw.out, e]; exact ih
theorem sCopy_loop (ss : List Sh) (hI : InS ss) : ∀ (n i : Nat), i + n = ss.length → Ev (fun k => scheme_Copy.l0 k ss (ss.length : Int) (i : Int) (ss.take i)) ss
 | 0, i, hi => by
  refine evSucc ?_; simp only [scheme_Copy.l0, if_neg (show ¬ (i : Int) < (ss.length : Int) by omega)]; rw [List.take_of_length_le (by omega)]; exact evNow _
 | n + 1, i, hi => by
  have hil : i < ss.length := by omega
  have h1 := hI.1; have ih := sCopy_loop ss hI n (i + 1) (by omega); have er : rd_T47 ss (i : Int) = ss[i] := by simp [rd_T47, List.getD, hil]
  rw [List.take_succ_eq_append_getElem hil] at ih; have h := sCopy_in ss (ss.take i) i (ss[i]).f0 (ss[i]).f1 (hI.2 _ (List.getElem_mem hil)) (by rw [List.length_take]; omega) (by omega) ih (ss[i]).f0.length 0 (by omega); refine evSucc ?_; simp only [scheme_Copy.l0, if_pos (show (i : Int) < (ss.length : Int) by omega), if_pos (show (0 : Int) ≤ (i : Int) by omega), er]; exact h
theorem sCopy_is (ss : List Sh) (hI : InS ss) : Ev (fun k => scheme_Copy.f k ss) ss := sCopy_loop ss hI ss.length 0 (by omega)
theorem sCopy_one (ps : List (List Sp)) (a : Int) (hI : In2 ps) : Ev (fun k => scheme_Copy.f k [⟨ps, a⟩]) [⟨ps, a⟩] := sCopy_is _ ⟨by simp, fun p hp => by rw [List.mem_singleton.1 hp]; exact hI⟩
end Go.Proofs.Ytoljcfocgaonpaa.PBS
end
section
namespace Go.Proofs.Ytoljcfocgaonpaa.PBS
open Go.RowKit Go.Proofs.YtoljcfocgaonpaaW.PrintWords Go.Proofs.YtoljcfocgaonpaaW.PrintLast Go.Proofs.YtoljcfocgaonpaaW.PrintMore Go.Proofs.Ytoljcfocgaonpaa.I Go.Proofs.LT Go.Proofs.Ytoljcfocgaonpaa.PB3
set_option linter.unusedVariables false
set_option linter.unusedSimpArgs false
def C (p : Sh) : Cs := (sets p.f0, p.f1)
def cs (ss : List Sh) : List Cs := ss.map C
theorem last_C (p : Sh) : lastC (C p) = lastOf p := rfl
theorem vS_facts : ∀ (t pre : List Sh), vS pre t = true → (∀ p ∈ t, vShape p.f0 p.f1 = true) ∧ (∀ q ∈ pre, ∀ p ∈ t, meetsB p q = false) ∧ Apart (cs t)
 | [], _, _ => ⟨fun _ h => (by cases h), fun _ _ _ h => (by cases h), trivial⟩
 | p :: t, pre, h => by
  have h' : (vShape p.f0 p.f1 && (!(pre.any (meetsB p)) && vS (pre ++ [p]) t)) = true := h; simp only [Bool.and_eq_true, Bool.not_eq_true'] at h'; obtain ⟨h1, h2, h3⟩ := h'; obtain ⟨k1, k2, k3⟩ := vS_facts t (pre ++ [p]) h3; refine ⟨fun q hq => ?_, fun q hq r hr => ?_, fun r hr => ?_, k3⟩
  ·rcases List.mem_cons.1 hq with rfl | hq
   ·exact h1
   ·exact k1 q hq
  ·rcases List.mem_cons.1 hr with rfl | hr
   ·cases e : meetsB r q
    ·rfl
    ·rw [List.any_eq_true.2 ⟨q, hq, e⟩] at h2; cases h2
   ·exact k2 q (List.mem_append_left _ hq) r hr
  ·obtain ⟨q, hq, rfl⟩ := List.mem_map.1 hr; have e := k2 p (List.mem_append_right _ (List.mem_singleton.2 rfl)) q hq; simp only [meetsB, Bool.and_eq_false_iff, decide_eq_false_iff_not] at e; rw [last_C, last_C]; show lastOf p < q.f1 ∨ lastOf q < p.f1; omega
theorem vScheme_facts {ss : List Sh} (h : vScheme ss = true) : ss.length ≤ 32 ∧ (∀ p ∈ ss, vShape p.f0 p.f1 = true) ∧ Apart (cs ss) ∧ AllGood (cs ss) := by
 simp only [vScheme, Bool.and_eq_true, decide_eq_true_eq] at h; obtain ⟨k1, k2, k3⟩ := vS_facts ss [] h.2; refine ⟨h.1, k1, k3, fun p hp => ?_⟩; obtain ⟨q, hq, rfl⟩ := List.mem_map.1 hp; exact (vShape_good (k1 q hq)).2.2.2.1
theorem rdSh_at (ss : List Sh) (i : Nat) (h : i < ss.length) : rd_T47 ss (i : Int) = ss[i] := by simp [rd_T47, List.getD, h]
theorem succ_wrap (i : Nat) (h : i ≤ 4611686018427387904) : Aside0 (wrap64 ((i : Int) + 1) = ((i + 1 : Nat) : Int)) := Aside0.mk (by rw [w64 (by omega) (by omega)]; simp)
theorem enc_range {ss : List Sh} (h : vScheme ss = true) {u : Int} {x : List Int} (he : encC (cs ss) u = some x) : (0 ≤ u ∧ u ≤ 1073741823) ∧ (∀ b ∈ x, 0 ≤ b ∧ b ≤ 255) ∧ 1 ≤ x.length ∧ x.length ≤ 8 := by
 obtain ⟨h1, h2, _, h4⟩ := vScheme_facts h; obtain ⟨p, hp, hh, rfl⟩ := encC_mem he; obtain ⟨q, hq, rfl⟩ := List.mem_map.1 hp; have vg := vShape_good (h2 q hq); have h' := hitC_iff.1 hh; have e1 : (C q).2 = q.f1 ∧ (C q).1 = sets q.f0 := ⟨rfl, rfl⟩; rw [e1.1, e1.2] at h'; rw [e1.1, e1.2]; refine ⟨by omega, unr_range vg.2.2.2.1 (by omega) h'.2, ?_⟩; rw [unr_len, sets_len]; exact vg.1
end Go.Proofs.Ytoljcfocgaonpaa.PBS
end
section
namespace Go.Proofs.Ytoljcfocgaonpaa.PBS
open Go.RowKit Go.Proofs.YtoljcfocgaonpaaW.PrintWords Go.Proofs.YtoljcfocgaonpaaW.PrintLast Go.Proofs.YtoljcfocgaonpaaW.PrintMore Go.Proofs.Ytoljcfocgaonpaa.I Go.Proofs.LT Go.Proofs.Ytoljcfocgaonpaa.PB3
set_option linter.unusedVariables false
set_option linter.unusedSimpArgs false
def one1 (lo hi : Int) : List Sp := [⟨lo, hi⟩]
theorem one_valid {lo hi : Int} (h0 : 0 ≤ lo) (h1 : lo ≤ hi) (h2 : hi ≤ 255) : ValidFrom 255 (-2) (runs (one1 lo hi)) := ⟨h0, h1, h2, by show (-2 : Int) < lo - 1; omega, trivial⟩
theorem one_size (lo hi : Int) : size (runs (one1 lo hi)) = hi - lo + 1 := by
 show size [(lo, hi)] = _; rw [size_cons, size_nil]; omega
theorem one_ok {lo hi : Int} (h0 : 0 ≤ lo) (h1 : lo ≤ hi) (h2 : hi ≤ 255) : okPart (one1 lo hi) = true := by
 simp only [okPart, (validB_iff _ _ _).2 (one_valid h0 h1 h2)]; rfl
theorem one_in (lo hi : Int) : In1 (one1 lo hi) := by show 1 * 16 ≤ 140737488351232; omega
theorem one_memB {lo hi x : Int} (h1 : lo ≤ x) (h2 : x ≤ hi) : memB (runs (one1 lo hi)) x = true := memB_iff.2 ⟨(lo, hi), List.mem_cons_self, h1, h2⟩
theorem one_cd {lo hi x : Int} (h0 : 0 ≤ lo) (h1 : lo ≤ x) (h2 : x ≤ hi) (h3 : hi ≤ 255) : (cd (memB (runs (one1 lo hi))) x.toNat : Int) = x - lo :=
 cd_in_first (r := (lo, hi)) (t := []) (one_valid h0 (by omega) h3) h1 (by show x ≤ hi + 1; omega)
def some10 : List Sh := [⟨[one1 194 223, one1 128 191], 128⟩, ⟨[one1 0 127], 0⟩]
theorem c10a : cnt (sets [one1 194 223, one1 128 191]) = 1920 := by
 show cnt [runs (one1 194 223), runs (one1 128 191)] = 1920; rw [cnt_cons, cnt_cons, cnt_nil, one_size, one_size]; rfl
theorem c10b : cnt (sets [one1 0 127]) = 128 := by
 show cnt [runs (one1 0 127)] = 128; rw [cnt_cons, cnt_nil, one_size]; rfl
theorem v10 : vScheme some10 = true := by
 have h1 : vShape [one1 194 223, one1 128 191] 128 = true := by
  unfold vShape; rw [c10a]; simp [one_ok (show (0 : Int) ≤ 194 by decide) (show (194 : Int) ≤ 223 by decide) (by decide), one_ok (show (0 : Int) ≤ 128 by decide) (show (128 : Int) ≤ 191 by decide) (by decide)]
 have h2 : vShape [one1 0 127] 0 = true := by
  unfold vShape; rw [c10b]; simp [one_ok (show (0 : Int) ≤ 0 by decide) (show (0 : Int) ≤ 127 by decide) (by decide)]
 have h3 : meetsB ⟨[one1 0 127], 0⟩ ⟨[one1 194 223, one1 128 191], 128⟩ = false := by
  simp only [meetsB, lastOf, c10a, c10b]; decide
 show (decide (2 ≤ 32) && (vShape [one1 194 223, one1 128 191] 128 && (!([] : List Sh).any (meetsB _) && (vShape [one1 0 127] 0 && (!([⟨[one1 194 223, one1 128 191], 128⟩] : List Sh).any (meetsB ⟨[one1 0 127], 0⟩) && true))))) = true; rw [h1, h2]; simp [h3]
end Go.Proofs.Ytoljcfocgaonpaa.PBS
end
section
namespace Go.Proofs.Ytoljcfocgaonpaa.PBS
open Go.RowKit Go.Proofs.YtoljcfocgaonpaaW.PrintWords Go.Proofs.YtoljcfocgaonpaaW.PrintLast Go.Proofs.YtoljcfocgaonpaaW.PrintMore Go.Proofs.Ytoljcfocgaonpaa.I Go.Proofs.LT Go.Proofs.Ytoljcfocgaonpaa.PB3
set_option linter.unusedVariables false
set_option linter.unusedSimpArgs false
def InB (x : List Int) : Prop := ∀ b ∈ x, 0 ≤ b ∧ b ≤ 255
theorem cnt_at {p : Sh} (hv : vShape p.f0 p.f1 = true) : 1 ≤ cnt (sets p.f0) ∧ cnt (sets p.f0) ≤ 1073741824 ∧ 0 ≤ p.f1 ∧ p.f1 ≤ 1073741823 ∧ p.f1 + cnt (sets p.f0) - 1 ≤ 1073741823 := by
 obtain ⟨_, h2, _, h4, h5⟩ := vShape_good hv; have := cnt_pos h4; omega
theorem firsts_ne {ss : List Sh} (h : vScheme ss = true) : ss.Pairwise fun x y => x.f1 ≠ y.f1 := by
 obtain ⟨h0, hv, ha, hg⟩ := vScheme_facts h; clear h h0; induction ss with
 | nil => exact List.Pairwise.nil
 | cons p t ih =>
  have ha' : (∀ q ∈ cs t, lastC (C p) < q.2 ∨ lastC q < (C p).2) ∧ Apart (cs t) := ha; refine List.pairwise_cons.2 ⟨fun q hq e => ?_, ih (fun x hx => hv x (List.mem_cons_of_mem _ hx)) ha'.2 (fun x hx => hg x (List.mem_cons_of_mem _ hx))⟩; have h1 := cnt_at (hv p List.mem_cons_self); have h2 := cnt_at (hv q (List.mem_cons_of_mem _ hq)); have := ha'.1 (C q) (List.mem_map.2 ⟨q, hq, rfl⟩); rw [last_C, last_C] at this; have e1 : (C q).2 = q.f1 ∧ (C p).2 = p.f1 := ⟨rfl, rfl⟩; unfold lastOf at this; omega
theorem riseF_of : ∀ {l : List Sh}, l.Pairwise (fun x y => x.f1 < y.f1) → RiseF (cs l)
 | [], _ => trivial
 | p :: t, h => by
  have h' := List.pairwise_cons.1 h; refine ⟨fun q hq => ?_, riseF_of h'.2⟩; obtain ⟨a, ha, rfl⟩ := List.mem_map.1 hq; exact h'.1 a ha
end Go.Proofs.Ytoljcfocgaonpaa.PBS
end
section
namespace Go.Proofs.Ytoljcfocgaonpaa.PBS
open Go.RowKit Go.Proofs.YtoljcfocgaonpaaW.PrintWords Go.Proofs.YtoljcfocgaonpaaW.PrintLast Go.Proofs.YtoljcfocgaonpaaW.PrintMore Go.Proofs.Ytoljcfocgaonpaa.I Go.Proofs.LT Go.Proofs.Ytoljcfocgaonpaa.PB3
set_option linter.unusedVariables false
set_option linter.unusedSimpArgs false
theorem codF_is (fr : Int) : ∀ (ls : List Sh), InS ls → (∀ p ∈ ls, vShape p.f0 p.f1 = true) → ∃ K, ∀ k, K ≤ k → CodF k fr ls (allC (cs ls) fr)
 | [], _, _ => ⟨0, fun k _ => rfl⟩
 | p :: t, hI, hv => by
  have hv0 := hv p List.mem_cons_self; have hI0 := hI.2 p List.mem_cons_self; obtain ⟨⟨l1, l2⟩, ⟨a1, a2⟩, hk, hg, hcn⟩ := vShape_good hv0; have hcp := cnt_pos hg; obtain ⟨K, ih⟩ := codF_is fr t ⟨by have := hI.1; simp only [List.length_cons] at this; omega, fun q hq => hI.2 q (List.mem_cons_of_mem _ hq)⟩ (fun q hq => hv q (List.mem_cons_of_mem _ hq)); obtain ⟨K1, h1⟩ := Count_is p.f0 p.f1 hI0; rw [if_pos hv0] at h1; obtain ⟨K2, h2⟩ := sCopy_one p.f0 p.f1 hI0; obtain ⟨K3, L, h3⟩ := allF_ev p.f0 p.f1 (max fr p.f1 - p.f1) hI0; have hcs : cntS p.f0 p.f1 = cnt (sets p.f0) := by unfold cntS; rw [if_pos hv0]
  refine ⟨max (max K K1) (max K2 K3), fun k hk => ⟨cnt (sets p.f0), h1 k (by omega), ⟨a1, a2⟩, ?_⟩⟩; by_cases c : p.f1 < fr ∧ cnt (sets p.f0) ≤ fr - p.f1
  ·left
   refine ⟨c, ?_⟩; have e : lstC (C p) fr = [] := by
    unfold lstC; rw [show (lastC (C p) + 1 - max fr (C p).2).toNat = 0 by show (p.f1 + cnt (sets p.f0) - 1 + 1 - max fr p.f1).toNat = 0; omega]; rfl
   show CodF k fr t (lstC (C p) fr ++ allC (cs t) fr); rw [e, List.nil_append]; exact ih k (by omega)
  ·right
   have hN : (nSq p.f0 p.f1 (max fr p.f1 - p.f1) : Int) = cnt (sets p.f0) - (max fr p.f1 - p.f1) := by
    unfold nSq; rw [hcs]; omega
   refine ⟨c, _, _, nSq p.f0 p.f1 (max fr p.f1 - p.f1), sqOf p.f0 (max fr p.f1 - p.f1), L, allC (cs t) fr, h2 k (by omega), h3 k (by omega), fun _ => by omega, ?_, ih k (by omega)⟩; show lstC (C p) fr ++ allC (cs t) fr = _; congr 1
   unfold lstC; rw [show (lastC (C p) + 1 - max fr (C p).2).toNat = nSq p.f0 p.f1 (max fr p.f1 - p.f1) by show (p.f1 + cnt (sets p.f0) - 1 + 1 - max fr p.f1).toNat = _; omega]; refine List.map_congr_left fun j _ => ?_
   show (max fr p.f1 + (j : Int), unr (sets p.f0) (max fr p.f1 - p.f1 + (j : Int))) = (p.f1 + (max fr p.f1 - p.f1 + (j : Int)), unr (sets p.f0) (max (max fr p.f1 - p.f1) 0 + (j : Int))); rw [show max (max fr p.f1 - p.f1) 0 = max fr p.f1 - p.f1 by omega]; congr 1
   omega
theorem rising_is (ss : List Sh) (hI : InS ss) : ∃ r, Ev (fun k => code_rising.f k ss) r ∧ InS r ∧ (∀ p ∈ r, vShape p.f0 p.f1 = true) ∧ r.length ≤ 32 ∧ ((vScheme ss = false ∧ r = []) ∨ (vScheme ss = true ∧ (cs r).Perm (cs ss) ∧ Apart (cs r) ∧ AllGood (cs r) ∧ RiseF (cs r))) := by
 cases h : vScheme ss
 ·refine ⟨[], ?_, ⟨by simp, fun p hp => (by cases hp)⟩, fun p hp => (by cases hp), by simp, .inl ⟨rfl, rfl⟩⟩; unfold code_rising.f; refine Ev.bind (schemeValid_is ss hI) ?_; simp only [h, Bool.false_eq_true, if_false]; exact evNow _
 ·obtain ⟨h1, h2, ha, hg⟩ := vScheme_facts h; have hne := firsts_ne h; have hso : sortShape.f ss = some (ss.mergeSort fun x y => decide (x.f1 ≤ y.f1)) := by
   unfold sortShape.f; rw [if_pos (show sortShape.ok ss = true by simp only [sortShape.ok, Bool.and_eq_true, decide_eq_true_eq]; exact ⟨by omega, hne⟩)]
  obtain ⟨_, m1, m2, _⟩ := sortShape.merge hso; generalize (ss.mergeSort fun x y => decide (x.f1 ≤ y.f1)) = ls at hso m1 m2; have hll : ls.length = ss.length := m1.length_eq; have hIl : InS ls := ⟨by rw [hll]; exact hI.1, fun p hp => hI.2 p (m1.subset hp)⟩; have hgl : AllGood (cs ls) := fun p hp => hg p ((m1.map C).subset hp)
  have hrf := riseF_of m2; refine ⟨ls, ?_, hIl, fun p hp => h2 p (m1.subset hp), by omega, .inr ⟨rfl, m1.map C, ?_, hgl, hrf⟩⟩
  ·unfold code_rising.f; refine Ev.bind (schemeValid_is ss hI) ?_; simp only [h, if_true]; refine Ev.bind (sCopy_is ss hI) ?_; rw [hso]; exact evNow _
  ·refine apart_of_rise hrf fun p hp q hq hlt => ?_
   exact apart_lt ha hg ((m1.map C).subset hp) ((m1.map C).subset hq) hlt
def HitS (l : List Cs) (u : Int) : Prop := ∃ p ∈ l, hitC u p = true
def LeastIn (l : List Cs) (u : Int) (r : Int × Bool) : Prop := (r = (0, false) ∧ ∀ y, HitS l y → ¬ u ≤ y) ∨ (∃ x, r = (x, true) ∧ HitS l x ∧ u ≤ x ∧ ∀ y, HitS l y → u ≤ y → x ≤ y)
theorem LeastIn.uniq {l : List Cs} {u : Int} {r s : Int × Bool} (h : LeastIn l u r) (k : LeastIn l u s) : r = s := by
 rcases h with ⟨rfl, h⟩ | ⟨x, rfl, h1, h2, h3⟩ <;> rcases k with ⟨rfl, k⟩ | ⟨y, rfl, k1, k2, k3⟩
 ·rfl
 ·exact absurd k2 (h y k1)
 ·exact absurd h2 (k x h1)
 ·have := h3 y k1 k2; have := k3 x h1 h2; rw [show x = y by omega]
end Go.Proofs.Ytoljcfocgaonpaa.PBS
end
