/- Words and laws of this claim, of 7 texts. -/
import Derived.Test.YtoljcfocgaonpaaKbIx0
import Derived.Test.YtoljcfocgaonpaaKbIx3
import Derived.Test.YtoljcfocgaonpaaKbIx4
import Derived.Test.YtoljcfocgaonpaaKbIx5
import Derived.Test.YtoljcfocgaonpaaKbIx7
import Derived.Test.YtoljcfocgaonpaaKbIx8
import Derived.Test.YtoljcfocgaonpaaKbQW1
import Derived.OpenShut
import Derived.Test.YtoljcfocgaonpaaKbIx9
import Derived.Test.YtoljcfocgaonpaaKbIx10
import Derived.Test.YtoljcfocgaonpaaKbIx11
import Derived.Test.YtoljcfocgaonpaaKbQP0
section
namespace Go.Proofs.Ytoljcfocgaonpaa.PI4
open Go.RowKit Go.Proofs.YtoljcfocgaonpaaW.PrintWords Go.Proofs.YtoljcfocgaonpaaW.PrintLast Go.Proofs.YtoljcfocgaonpaaW.PrintMore Go.Proofs.Ytoljcfocgaonpaa.I Go.Proofs.LT
set_option linter.unusedVariables false
set_option linter.unusedSimpArgs false
theorem evSucc {α : Type} {g : Nat → Option α} {r : α} (h : Ev (fun k => g (k + 1)) r) : Ev g r := Ev.step (fun _ => rfl) h
theorem evNow {α : Type} (r : α) : Ev (fun _ => some r) r := Ev.now r
theorem w64 {x : Int} (h0 : -9223372036854775808 ≤ x) (h1 : x ≤ 9223372036854775807) : wrap64 x = x := by unfold wrap64; omega
def L133 (x : S133) : Run := (x.f0, x.f1)
def L43 (x : S43) : Run := (x.f0, x.f1)
theorem L43_inj : ∀ {a b : List S43}, a.map L43 = b.map L43 → a = b
 | [], [], _ => rfl
 | [], _ :: _, h => by simp at h
 | _ :: _, [], h => by simp at h
 | ⟨_, _⟩ :: t, ⟨_, _⟩ :: t', h => by
  simp only [List.map_cons, List.cons.injEq, L43, Prod.mk.injEq] at h; obtain ⟨⟨rfl, rfl⟩, h⟩ := h; rw [L43_inj h]
theorem rd133 (pre : List S133) (r : S133) (t : List S133) : rd_T133 (pre ++ r :: t) (pre.length : Int) = r := by simp [rd_T133]
theorem rd43 (pre : List S43) (r : S43) (t : List S43) : rd_T43 (pre ++ r :: t) (pre.length : Int) = r := by simp [rd_T43]
theorem snoc_len {α : Type} (pre : List α) (r : α) : (((pre ++ [r]).length : Nat) : Int) = (pre.length : Int) + 1 := by simp
theorem app_snoc {α : Type} (pre : List α) (r : α) (t : List α) : (pre ++ [r]) ++ t = pre ++ r :: t := by simp
theorem len_cons {α : Type} (pre : List α) (r : α) (t : List α) : (((pre ++ r :: t).length : Nat) : Int) = pre.length + 1 + t.length := by simp; omega
def api_Range_c (x : S43) : S133 := ⟨x.f0, x.f1⟩
theorem api_Range_loop (N : Nat) (hN : N ≤ 8796093022206) : ∀ (t pre : List S43) (out : List S133), (pre ++ t).length ≤ N → out.length = pre.length → Ev (fun k => api_Range.l0 k out (pre ++ t) (((pre ++ t).length : Nat) : Int) (pre.length : Int)) (out ++ t.map api_Range_c)
 | [], pre, out, _, _ => by
  refine evSucc ?_; simp only [api_Range.l0]; rw [List.append_nil]; simp only [if_neg (show ¬ ((pre.length : Nat) : Int) < ((pre.length : Nat) : Int) by omega)]; simpa using evNow out
 | r :: t, pre, out, hl, ho => by
  have hlc := len_cons pre r t; have hlt : out.length < 8796093022208 := by simp at hl; omega
  have ih := api_Range_loop N hN t (pre ++ [r]) (out ++ [api_Range_c r]) (by rw [app_snoc]; exact hl) (by simp [ho]); rw [app_snoc, snoc_len] at ih; refine evSucc ?_; have hw : Aside0 (wrap64 ((pre.length : Int) + 1) = (pre.length : Int) + 1) := Aside0.mk (w64 (by omega) (by simp at hl; omega)); have c1 : (pre.length : Int) < ((pre ++ r :: t).length : Nat) := by rw [hlc]; omega
  have c2 : (0 : Int) ≤ pre.length := by omega
  simp only [api_Range.l0, if_pos c1, if_pos c2, if_pos hlt, rd43, hw.out]; simpa [api_Range_c] using ih
theorem api_Range_is (l : List S43) (hl : l.length * 16 ≤ 140737488351232) : Ev (fun k => api_Range.f k l) (l.map api_Range_c) := by
 have h := api_Range_loop l.length (by omega) l [] [] (by simp) rfl; have c1 : (0 : Int) ≤ (l.length : Int) := by omega
 have c2 : ((l.length : Int) : Int).toNat ≤ 17592186044416 := by omega
 simp only [api_Range.f, if_pos c1, if_pos c2]; simpa using h
theorem api_Range_len (l : List S43) : (l.map api_Range_c).map L133 = l.map L43 := by rw [List.map_map]; rfl
def sets_Run_135_c (x : S133) : S43 := ⟨x.f0, x.f1⟩
theorem sets_Run_135_loop (N : Nat) (hN : N ≤ 8796093022206) : ∀ (t pre : List S133) (out : List S43), (pre ++ t).length ≤ N → out.length = pre.length → Ev (fun k => sets_Run_135.l0 k out (pre ++ t) (((pre ++ t).length : Nat) : Int) (pre.length : Int)) (out ++ t.map sets_Run_135_c)
 | [], pre, out, _, _ => by
  refine evSucc ?_; simp only [sets_Run_135.l0]; rw [List.append_nil]; simp only [if_neg (show ¬ ((pre.length : Nat) : Int) < ((pre.length : Nat) : Int) by omega)]; simpa using evNow out
 | r :: t, pre, out, hl, ho => by
  have hlc := len_cons pre r t; have hlt : out.length < 8796093022208 := by simp at hl; omega
  have ih := sets_Run_135_loop N hN t (pre ++ [r]) (out ++ [sets_Run_135_c r]) (by rw [app_snoc]; exact hl) (by simp [ho]); rw [app_snoc, snoc_len] at ih; refine evSucc ?_; have hw : Aside0 (wrap64 ((pre.length : Int) + 1) = (pre.length : Int) + 1) := Aside0.mk (w64 (by omega) (by simp at hl; omega)); have c1 : (pre.length : Int) < ((pre ++ r :: t).length : Nat) := by rw [hlc]; omega
  have c2 : (0 : Int) ≤ pre.length := by omega
  simp only [sets_Run_135.l0, if_pos c1, if_pos c2, if_pos hlt, rd133, hw.out]; simpa [sets_Run_135_c] using ih
theorem sets_Run_135_is (l : List S133) (hl : l.length * 16 ≤ 140737488351232) : Ev (fun k => sets_Run_135.f k l) (l.map sets_Run_135_c) := by
 have h := sets_Run_135_loop l.length (by omega) l [] [] (by simp) rfl; have c1 : (0 : Int) ≤ (l.length : Int) := by omega
 have c2 : ((l.length : Int) : Int).toNat ≤ 17592186044416 := by omega
 simp only [sets_Run_135.f, if_pos c1, if_pos c2]; simpa using h
theorem sets_Run_135_len (l : List S133) : (l.map sets_Run_135_c).map L43 = l.map L133 := by rw [List.map_map]; rfl
theorem valid_loop (N : Nat) (hN : N ≤ 8796093022206) (top : Int) (ht : top ≤ 1073741823) : ∀ (t pre : List S133) (last : Int), (pre ++ t).length ≤ N → Ev (fun k => sets_Valid.l0 k top last (pre ++ t) (((pre ++ t).length : Nat) : Int) (pre.length : Int)) (validB top last (t.map L133))
 | [], pre, last, _ => by
  refine evSucc ?_; simp only [sets_Valid.l0]; rw [List.append_nil]; simp only [if_neg (show ¬ ((pre.length : Nat) : Int) < ((pre.length : Nat) : Int) by omega)]; rw [show validB top last (([] : List S133).map L133) = true from validB_nil _ _]; exact evNow _
 | r :: t, pre, last, hl => by
  have hlc := len_cons pre r t; have ih := valid_loop N hN top ht t (pre ++ [r]) r.f1 (by rw [app_snoc]; exact hl); rw [app_snoc, snoc_len] at ih; refine evSucc ?_; have hw : Aside0 (wrap64 ((pre.length : Int) + 1) = (pre.length : Int) + 1) := Aside0.mk (w64 (by omega) (by simp at hl; omega)); have c1 : (pre.length : Int) < ((pre ++ r :: t).length : Nat) := by rw [hlc]; omega
  have c2 : (0 : Int) ≤ pre.length := by omega
  simp only [sets_Valid.l0, if_pos c1, if_pos c2, rd133, hw.out, List.map_cons, validB_cons, L133]; by_cases d1 : r.f0 < 0
  ·simp only [if_pos d1]; exact evNow _
  by_cases d2 : r.f0 > r.f1
  ·simp only [if_neg d1, if_pos d2]; exact evNow _
  by_cases d3 : r.f1 > top
  ·simp only [if_neg d1, if_neg d2, if_pos d3]; exact evNow _
  have hw2 : Aside0 (wrap64 (r.f0 - 1) = r.f0 - 1) := Aside0.mk (w64 (by omega) (by omega)); simp only [if_neg d1, if_neg d2, if_neg d3, hw2.out]; by_cases d4 : r.f0 - 1 ≤ last
  ·simp only [if_pos d4]; exact evNow _
  ·simp only [if_neg d4]; exact ih
theorem valid_is (top : Int) (ht : top ≤ 1073741823) (l : List S133) (hl : l.length ≤ 8796093022206) : Ev (fun k => sets_Valid.f k l top) (validB top (-2) (l.map L133)) := by
 have h := valid_loop l.length hl top ht l [] (-2) (by simp); simpa [sets_Valid.f] using h
theorem size_loop (N : Nat) (hN : N ≤ 8796093022206) (top : Int) (ht : top ≤ 1073741823) : ∀ (t pre : List S133) (last acc : Int), (pre ++ t).length ≤ N → ValidFrom top last (t.map L133) → 0 ≤ acc → acc + size (t.map L133) ≤ 4294967296 →
 Ev (fun k => sets_Size.l0 k acc (pre ++ t) (((pre ++ t).length : Nat) : Int) (pre.length : Int)) (acc + size (t.map L133))
 | [], pre, last, acc, _, _, _, _ => by
  refine evSucc ?_; simp only [sets_Size.l0]; rw [List.append_nil]; simp only [if_neg (show ¬ ((pre.length : Nat) : Int) < ((pre.length : Nat) : Int) by omega)]; simpa [size_nil] using evNow acc
 | r :: t, pre, last, acc, hl, hv, h0, h1 => by
  have hlc := len_cons pre r t; have hs := size_nonneg hv.2.2.2.2; have e1 : size ((r :: t).map L133) = (r.f1 - r.f0 + 1) + size (t.map L133) := size_cons _ _; have v0 : 0 ≤ r.f0 := hv.1; have v1 : r.f0 ≤ r.f1 := hv.2.1; have v2 : r.f1 ≤ top := hv.2.2.1; have ih := size_loop N hN top ht t (pre ++ [r]) r.f1 (acc + (r.f1 - r.f0 + 1)) (by rw [app_snoc]; exact hl) hv.2.2.2.2 (by omega) (by omega); rw [app_snoc, snoc_len] at ih; refine evSucc ?_; have hw : Aside0 (wrap64 ((pre.length : Int) + 1) = (pre.length : Int) + 1) := Aside0.mk (w64 (by omega) (by simp at hl; omega)); have c1 : (pre.length : Int) < ((pre ++ r :: t).length : Nat) := by rw [hlc]; omega
  have c2 : (0 : Int) ≤ pre.length := by omega
  have w1 : Aside0 (wrap64 (r.f1 - r.f0) = r.f1 - r.f0) := Aside0.mk (w64 (by omega) (by omega)); have w2 : Aside0 (wrap64 (r.f1 - r.f0 + 1) = r.f1 - r.f0 + 1) := Aside0.mk (w64 (by omega) (by omega)); have w3 : Aside0 (wrap64 (acc + (r.f1 - r.f0 + 1)) = acc + (r.f1 - r.f0 + 1)) := Aside0.mk (w64 (by omega) (by omega)); simp only [sets_Size.l0, if_pos c1, if_pos c2, rd133, hw.out, w1.out, w2.out, w3.out]; have e2 : acc + size ((r :: t).map L133) = acc + (r.f1 - r.f0 + 1) + size (t.map L133) := by omega
  rw [e2]; exact ih
theorem size_is (top : Int) (ht : top ≤ 1073741823) (l : List S133) (hl : l.length ≤ 8796093022206) (hv : ValidFrom top (-2) (l.map L133)) : Ev (fun k => sets_Size.f k l) (size (l.map L133)) := by
 have h0 : (0:Int) ≤ top ∨ l = [] := by
  cases l with
  | nil => exact .inr rfl
  | cons r t => have := hv.1; have := hv.2.1; have := hv.2.2.1; exact .inl (by omega)
 have hs : size (l.map L133) ≤ 4294967296 := by
  rcases h0 with h0 | rfl
  ·have := size_le hv h0; omega
  ·simp [size_nil]
 have h := size_loop l.length hl top ht l [] (-2) 0 (by simp) hv (by omega) (by omega); simpa [sets_Size.f] using h
def rankL (l : List Run) (x : Int) : Int × Bool := if memB l x = true then ((cd (memB l) x.toNat : Int), true) else (0, false)
theorem valid_top {top : Int} {l : List Run} (hv : ValidFrom top (-2) l) (ht : top ≤ 1073741823) : size l ≤ 4294967296 := by
 cases l with
 | nil => simp [size_nil]
 | cons r t => have := hv.1; have := hv.2.1; have := hv.2.2.1; have := size_le hv (by omega); omega
def Sel (l : List Run) (k : Int) (r : Int × Bool) : Prop := (∃ x, Mem l x ∧ (cd (memB l) x.toNat : Int) = k ∧ r = (x, true)) ∨ ((k < 0 ∨ size l ≤ k) ∧ r = (0, false))
theorem Sel.uniq {top : Int} {l : List Run} (hv : ValidFrom top (-2) l) {k : Int} {r q : Int × Bool} (h : Sel l k r) (h' : Sel l k q) : r = q := by
 have lt : ∀ x, Mem l x → (cd (memB l) x.toNat : Int) < size l := fun x hx => by
  have hr := hv.range hx; have := cd_size (n := top.toNat + 1) hv (by omega); have e : ((x.toNat : Nat) : Int) = x := Int.toNat_of_nonneg hr.1; have := cd_lt (memB l) (m := x.toNat) (n := top.toNat + 1) (by omega) (by rw [e]; exact memB_iff.2 hx); omega
 rcases h with ⟨x, hx, hk, rfl⟩ | ⟨hk, rfl⟩ <;> rcases h' with ⟨y, hy, hk', rfl⟩ | ⟨hk', rfl⟩
 ·have ex : ((x.toNat : Nat) : Int) = x := Int.toNat_of_nonneg (hv.range hx).1; have ey : ((y.toNat : Nat) : Int) = y := Int.toNat_of_nonneg (hv.range hy).1; have := cd_inj (memB l) (m := x.toNat) (n := y.toNat) (by rw [ex]; exact memB_iff.2 hx) (by rw [ey]; exact memB_iff.2 hy) (by omega); rw [show x = y by omega]
 ·have := lt x hx; omega
 ·have := lt y hy; omega
 ·rfl
theorem select_loop (N : Nat) (hN : N ≤ 8796093022206) (top : Int) (ht : top ≤ 1073741823) : ∀ (t pre : List S133) (last kk : Int), (pre ++ t).length ≤ N → ValidFrom top last (t.map L133) → 0 ≤ kk → kk ≤ 9223372036854775807 →
 ∃ r, Ev (fun k => sets_Select.l0 k kk (pre ++ t) (((pre ++ t).length : Nat) : Int) (pre.length : Int)) r ∧ Sel (t.map L133) kk r
 | [], pre, last, kk, _, _, h0, _ => by
  refine ⟨(0, false), evSucc ?_, .inr ⟨.inr (by simpa [size_nil] using h0), rfl⟩⟩; simp only [sets_Select.l0]; rw [List.append_nil]; simp only [if_neg (show ¬ ((pre.length : Nat) : Int) < ((pre.length : Nat) : Int) by omega)]; exact evNow _
 | r :: t, pre, last, kk, hl, hv, h0, h1 => by
  have hlc := len_cons pre r t; have v0 : 0 ≤ r.f0 := hv.1; have v1 : r.f0 ≤ r.f1 := hv.2.1; have v2 : r.f1 ≤ top := hv.2.2.1; have hm : (L133 r).1 = r.f0 ∧ (L133 r).2 = r.f1 := ⟨rfl, rfl⟩; have hw : Aside0 (wrap64 ((pre.length : Int) + 1) = (pre.length : Int) + 1) := Aside0.mk (w64 (by omega) (by simp at hl; omega)); have c1 : (pre.length : Int) < ((pre ++ r :: t).length : Nat) := by rw [hlc]; omega
  have c2 : (0 : Int) ≤ pre.length := by omega
  have w1 : Aside0 (wrap64 (r.f1 - r.f0) = r.f1 - r.f0) := Aside0.mk (w64 (by omega) (by omega)); have w2 : Aside0 (wrap64 (r.f1 - r.f0 + 1) = r.f1 - r.f0 + 1) := Aside0.mk (w64 (by omega) (by omega)); by_cases d1 : kk ≤ r.f1 - r.f0
  ·have w3 : Aside0 (wrap64 (r.f0 + kk) = r.f0 + kk) := Aside0.mk (w64 (by omega) (by omega)); refine ⟨(r.f0 + kk, true), evSucc ?_, .inl ⟨r.f0 + kk, mem_cons.2 (.inl ⟨by simp only [hm.1]; omega, by simp only [hm.2]; omega⟩), ?_, rfl⟩⟩
   ·simp only [sets_Select.l0, if_pos c1, if_pos c2, rd133, hw.out, w1.out, w2.out, w3.out, if_pos d1]; exact evNow _
   ·have hc := cd_in_first (x := r.f0 + kk) (show ValidFrom top last (L133 r :: t.map L133) from hv) (by simp only [hm.1]; omega) (by simp only [hm.2]; omega); rw [List.map_cons, hc, hm.1]; omega
  ·have w3 : Aside0 (wrap64 (kk - (r.f1 - r.f0 + 1)) = kk - (r.f1 - r.f0 + 1)) := Aside0.mk (w64 (by omega) (by omega)); obtain ⟨q, hq, hs⟩ := select_loop N hN top ht t (pre ++ [r]) r.f1 (kk - (r.f1 - r.f0 + 1)) (by rw [app_snoc]; exact hl) hv.2.2.2.2 (by omega) (by omega); rw [app_snoc, snoc_len] at hq; refine ⟨q, evSucc ?_, ?_⟩
   ·simp only [sets_Select.l0, if_pos c1, if_pos c2, rd133, hw.out, w1.out, w2.out, w3.out, if_neg d1]; exact hq
   ·rcases hs with ⟨x, hx, hk, rfl⟩ | ⟨hk, rfl⟩
    ·have hg := ValidFrom.gt hv.2.2.2.2 hx; rw [hm.2] at hg; refine .inl ⟨x, mem_cons.2 (.inr hx), ?_, rfl⟩; have hc := cd_past_first (x := x) (show ValidFrom top last (L133 r :: t.map L133) from hv) (by simp only [hm.2]; omega); rw [List.map_cons, hc, hk, hm.1, hm.2]; omega
    ·have e1 : size ((r :: t).map L133) = (r.f1 - r.f0 + 1) + size (t.map L133) := size_cons _ _; exact .inr ⟨.inr (by omega), rfl⟩
theorem select_is (top : Int) (ht : top ≤ 1073741823) (l : List S133) (kk : Int) (hk : (Lit.int .i64 kk).wf = true) (hl : l.length ≤ 8796093022206) (hv : ValidFrom top (-2) (l.map L133)) : ∃ r, Ev (fun k => sets_Select.f k l kk) r ∧ Sel (l.map L133) kk r := by
 by_cases h0 : kk < 0
 ·exact ⟨(0, false), by simp only [sets_Select.f, if_pos h0]; exact evNow _, .inr ⟨.inl h0, rfl⟩⟩
 ·have hb := bounds_i64 hk; obtain ⟨r, hr, hs⟩ := select_loop l.length hl top ht l [] (-2) kk (by simp) hv (by omega) (by omega); exact ⟨r, by simp only [sets_Select.f, if_neg h0]; simpa using hr, hs⟩
theorem mx_eq (a b : Int) : mx a b = max a b := by unfold mx; omega
theorem norm_loop (N : Nat) (hN : N ≤ 8796093022206) (top : Int) (ht : top ≤ 1073741823) : ∀ (t pre o : List S133) (q : S133), (pre ++ t).length ≤ N → o.length + t.length + 1 ≤ N → (∀ r ∈ t, q.f0 ≤ r.f0) → t.Pairwise (fun x y => x.f0 ≤ y.f0) → (∀ r ∈ q :: t, 0 ≤ r.f0 ∧ r.f0 ≤ r.f1 ∧ r.f1 ≤ top) →
 ∃ m, Ev (fun k => sets_Norm.l0 k (pre ++ t) (o ++ [q]) (((pre ++ t).length : Nat) : Int) (pre.length : Int)) (o ++ m, pre ++ t) ∧ m.length ≤ t.length + 1 ∧ (∀ last, last < q.f0 - 1 → ValidFrom top last (m.map L133)) ∧ ∀ x, Mem (m.map L133) x ↔ Mem ((q :: t).map L133) x
 | [], pre, o, q, _, _, _, _, hr => by
  have hq := hr q List.mem_cons_self; refine ⟨[q], evSucc ?_, by simp, fun last hlast => ⟨hq.1, hq.2.1, hq.2.2, hlast, trivial⟩, fun x => Iff.rfl⟩; simp only [sets_Norm.l0]; rw [List.append_nil]; simp only [if_neg (show ¬ ((pre.length : Nat) : Int) < ((pre.length : Nat) : Int) by omega)]; exact evNow _
 | r :: t, pre, o, q, hl, ho, hs, hp, hr => by
  have hq := hr q List.mem_cons_self; have hr1 := hr r (List.mem_cons_of_mem _ List.mem_cons_self); have hqr := hs r List.mem_cons_self; have hp' := List.pairwise_cons.1 hp; have hlc := len_cons pre r t; have hw : Aside0 (wrap64 ((pre.length : Int) + 1) = (pre.length : Int) + 1) := Aside0.mk (w64 (by omega) (by simp at hl; omega)); have c1 : (pre.length : Int) < ((pre ++ r :: t).length : Nat) := by rw [hlc]; omega
  have c2 : (0 : Int) ≤ pre.length := by omega
  have ol : (((o ++ [q]).length : Nat) : Int) = (o.length : Int) + 1 := snoc_len o q; have hob : (o.length : Int) ≤ 8796093022207 := by omega
  have c3 : (((o ++ [q]).length : Nat) : Int) > 0 := by omega
  have w1 : Aside0 (wrap64 ((((o ++ [q]).length : Nat) : Int) - 1) = (o.length : Int)) := Aside0.mk (by rw [ol, w64 (by omega) (by omega)]; omega); have c4 : (0 : Int) ≤ (o.length : Int) := by omega
  have c5 : (o.length : Int) < (((o ++ [q]).length : Nat) : Int) := by omega
  have r1 : rd_T133 (o ++ [q]) (o.length : Int) = q := rd133 o q []; have w2 : Aside0 (wrap64 (q.f1 + 1) = q.f1 + 1) := Aside0.mk (w64 (by omega) (by omega)); have hlt : (o ++ [q]).length < 8796093022208 := by simp at ho ⊢; omega
  by_cases d : r.f0 ≤ q.f1 + 1
  ·obtain ⟨m, g1, g2, g3, g4⟩ := norm_loop N hN top ht t (pre ++ [r]) o ⟨q.f0, max q.f1 r.f1⟩ (by rw [app_snoc]; exact hl) (by simp at ho ⊢; omega) (fun z hz => Int.le_trans hqr (hp'.1 z hz)) hp'.2 (fun z hz => by
    rcases List.mem_cons.1 hz with rfl | hz
    ·exact ⟨hq.1, by show q.f0 ≤ max q.f1 r.f1; omega, by show max q.f1 r.f1 ≤ top; omega⟩
    ·exact hr z (List.mem_cons_of_mem _ (List.mem_cons_of_mem _ hz)))
   rw [app_snoc, snoc_len] at g1; refine ⟨m, evSucc ?_, by simp; omega, g3, fun x => ?_⟩
   ·simp only [sets_Norm.l0, if_pos c1, if_pos c2, rd133, hw.out, if_pos c3, w1.out, if_pos c4, if_pos c5, r1, w2.out, if_pos d, mx_eq]; have : (o ++ [q]).set (o.length : Int).toNat (⟨q.f0, max q.f1 r.f1⟩ : S133) = o ++ [⟨q.f0, max q.f1 r.f1⟩] := by simp
    rw [this]; exact g1
   ·rw [g4 x]; simp only [List.map_cons, mem_cons]; show (q.f0 ≤ x ∧ x ≤ max q.f1 r.f1) ∨ _ ↔ (q.f0 ≤ x ∧ x ≤ q.f1) ∨ (r.f0 ≤ x ∧ x ≤ r.f1) ∨ _; constructor
    ·rintro (h | h)
     ·by_cases e : x ≤ q.f1
      ·exact .inl (by omega)
      ·exact .inr (.inl (by omega))
     ·exact .inr (.inr h)
    ·rintro (h | h | h)
     ·exact .inl (by omega)
     ·exact .inl (by omega)
     ·exact .inr h
  ·obtain ⟨m, g1, g2, g3, g4⟩ := norm_loop N hN top ht t (pre ++ [r]) (o ++ [q]) r (by rw [app_snoc]; exact hl) (by simp at ho ⊢; omega) hp'.1 hp'.2 (fun z hz => hr z (List.mem_cons_of_mem _ hz)); rw [app_snoc, snoc_len] at g1; refine ⟨q :: m, evSucc ?_, by simp; omega, fun last hlast => ⟨hq.1, hq.2.1, hq.2.2, hlast, g3 _ (by show q.f1 < _; omega)⟩, fun x => ?_⟩
   ·simp only [sets_Norm.l0, if_pos c1, if_pos c2, rd133, hw.out, if_pos c3, w1.out, if_pos c4, if_pos c5, r1, w2.out, if_neg d, if_pos hlt]; simpa using g1
   ·rw [List.map_cons, mem_cons, g4 x]; exact mem_cons.symm
theorem norm_is (top : Int) (ht : top ≤ 1073741823) (l : List S133) (hl : l.length ≤ 8796093022206) (hr : ∀ r ∈ l, 0 ≤ r.f0 ∧ r.f0 ≤ r.f1 ∧ r.f1 ≤ top) :
 ∃ m s, Ev (fun k => sets_Norm.f k l) (m, s) ∧ m.length ≤ l.length ∧ ValidFrom top (-2) (m.map L133) ∧ ∀ x, Mem (m.map L133) x ↔ Mem (l.map L133) x := by
 obtain ⟨s, hs⟩ : ∃ s, sortRun.f l = some s := ⟨_, by unfold sortRun.f; rw [if_pos (show l.length < 8796093022208 by omega)]⟩
 obtain ⟨hp, hsort⟩ := sortRun.spec l s hs; have hlen := hp.length_eq; have hmem : ∀ x, Mem (s.map L133) x ↔ Mem (l.map L133) x := fun x => mem_perm (hp.map _)
 cases s with
 | nil =>
  refine ⟨[], [], ?_, by simp, trivial, hmem⟩; simp only [sets_Norm.f, hs, Option.bind_some]; refine evSucc ?_; simp only [sets_Norm.l0, ← hlen]; simp only [List.length_nil, if_neg (show ¬ (0 : Int) < ((0 : Nat) : Int) by omega)]; exact evNow _
 | cons q t =>
  have hr' : ∀ r ∈ q :: t, 0 ≤ r.f0 ∧ r.f0 ≤ r.f1 ∧ r.f1 ≤ top := fun r h => hr r (hp.mem_iff.1 h)
  have hsp := List.pairwise_cons.1 hsort; obtain ⟨m, g1, g2, g3, g4⟩ := norm_loop (q :: t).length (by omega) top ht t [q] [] q (by simp) (by simp) hsp.1 hsp.2 hr'; have hq := hr' q List.mem_cons_self; refine ⟨m, q :: t, ?_, by rw [← hlen]; simpa using g2, g3 _ (by omega), fun x => (g4 x).trans (hmem x)⟩; simp only [sets_Norm.f, hs, Option.bind_some, ← hlen]; refine evSucc ?_; have c1 : (0 : Int) < (((q :: t).length : Nat) : Int) := by rw [List.length_cons]; omega
  have r1 : rd_T133 (q :: t) 0 = q := rfl; have hw : Aside0 (wrap64 ((0 : Int) + 1) = 1) := Aside0.mk (by rw [w64 (by omega) (by omega)]; rfl); simp only [sets_Norm.l0, if_pos c1, if_pos (show (0 : Int) ≤ 0 by omega), r1, List.length_nil, if_neg (show ¬ ((0 : Nat) : Int) > 0 by omega), if_pos (show (0 : Nat) < 8796093022208 from Nat.zero_lt_succ _), hw.out]; exact g1
def setL (top : Int) (l : List Run) : List Run := if validB top (-2) l = true then l else []
theorem setL_valid (top : Int) (l : List Run) : ValidFrom top (-2) (setL top l) := by
 unfold setL; split
 ·rename_i h; exact (validB_iff _ _ _).1 h
 ·trivial
theorem setL_of {top : Int} {l : List Run} (h : ValidFrom top (-2) l) : setL top l = l := by unfold setL; rw [if_pos ((validB_iff _ _ _).2 h)]
theorem valid_len {top : Int} : ∀ {l : List Run} {last : Int}, ValidFrom top last l → (l.length : Int) ≤ size l
 | [], _, _ => by simp [size_nil]
 | r :: t, _, hv => by
  have := valid_len hv.2.2.2.2; have := hv.2.1; rw [size_cons]; simp; omega
theorem valid_len' {top : Int} {l : List Run} {last : Int} (hv : ValidFrom top last l) (h0 : 0 ≤ top) (ht : top ≤ 1073741823) : l.length ≤ 1073741824 := by
 have := valid_len hv; have := size_le hv h0; omega
theorem scalars_set_is (l : List S43) (hl : l.length * 16 ≤ 140737488351232) : ∃ s, Ev (fun k => scalars_set.f k l) s ∧ s.map L133 = setL 1073741823 (l.map L43) := by
 have h1 := api_Range_is l hl; have h2 := valid_is 1073741823 (by omega) (l.map api_Range_c) (by simp; omega); rw [api_Range_len] at h2; by_cases d : validB 1073741823 (-2) (l.map L43) = true
 ·refine ⟨l.map api_Range_c, Ev.bind h1 (Ev.bind h2 ?_), by rw [api_Range_len]; unfold setL; rw [if_pos d]⟩; simp only [if_pos d]; exact evNow _
 ·refine ⟨[], Ev.bind h1 (Ev.bind h2 ?_), by unfold setL; rw [if_neg d]; rfl⟩; simp only [if_neg d]; exact evNow _
theorem scalars_back_is (l : List S133) (hl : l.length * 16 ≤ 140737488351232) : Ev (fun k => scalars_back.f k l) (l.map sets_Run_135_c) := Ev.bind (sets_Run_135_is l hl) (evNow _)
theorem scalars_set_facts {l : List S43} {s : List S133} (h : s.map L133 = setL 1073741823 (l.map L43)) : ValidFrom 1073741823 (-2) (s.map L133) ∧ s.length ≤ 1073741824 := by
 have hv : ValidFrom 1073741823 (-2) (s.map L133) := by rw [h]; exact setL_valid _ _
 have := valid_len' hv (by omega) (by omega); exact ⟨hv, by simpa using this⟩
theorem scalars_Size_is (l : List S43) (hl : l.length * 16 ≤ 140737488351232) : Ev (fun k => scalars_Size.f k l) (size (setL 1073741823 (l.map L43))) := by
 obtain ⟨s, h1, h2⟩ := scalars_set_is l hl; obtain ⟨hv, hn⟩ := scalars_set_facts h2; have h3 := size_is 1073741823 (by omega) s (by omega) hv; rw [h2] at h3; exact Ev.bind h1 (Ev.bind h3 (evNow _))
theorem scalars_Select_is (l : List S43) (kk : Int) (hk : (Lit.int .i64 kk).wf = true) (hl : l.length * 16 ≤ 140737488351232) : ∃ r, Ev (fun k => scalars_Select.f k l kk) r ∧ Sel (setL 1073741823 (l.map L43)) kk r := by
 obtain ⟨s, h1, h2⟩ := scalars_set_is l hl; obtain ⟨hv, hn⟩ := scalars_set_facts h2; obtain ⟨r, h3, h4⟩ := select_is 1073741823 (by omega) s kk hk (by omega) hv; rw [h2] at h4; exact ⟨r, Ev.bind h1 (Ev.bind h3 (evNow _)), h4⟩
def scalars_IsSet (l : List S43) (p : Int → Prop) : Prop := ValidFrom 1073741823 (-2) (l.map L43) ∧ l.length ≤ 1073741824 ∧ ∀ x, Mem (l.map L43) x ↔ p x
theorem scalars_IsSet.uniq {a b : List S43} {p q : Int → Prop} (ha : scalars_IsSet a p) (hb : scalars_IsSet b q) (h : ∀ x, p x ↔ q x) : a = b :=
 L43_inj (canon 1073741823 _ _ _ _ ha.1 hb.1 fun x => (ha.2.2 x).trans ((h x).trans (hb.2.2 x).symm))
theorem scalars_out {m : List S133} {p : Int → Prop} (hv : ValidFrom 1073741823 (-2) (m.map L133)) (hm : ∀ x, Mem (m.map L133) x ↔ p x) : ∃ r, Ev (fun k => scalars_back.f k m) r ∧ scalars_IsSet r p := by
 have hn := valid_len' hv (by omega) (by omega); have e := sets_Run_135_len m; refine ⟨_, scalars_back_is m (by simp at hn; omega), ?_, ?_, fun x => ?_⟩
 ·rw [e]; exact hv
 ·simpa using hn
 ·rw [e]; exact hm x
def scalars_badP (p : S43) : Bool := decide (p.f0 < 0) || decide (p.f0 > p.f1) || decide (p.f1 > 1073741823)
theorem scalars_Norm_loop (N : Nat) (hN : N ≤ 8796093022206) (x0 : List S43) : ∀ (t pre : List S43), (pre ++ t).length ≤ N →
 (∀ i, t.findIdx? scalars_badP = some i → Ev (fun k => scalars_Norm.l0 k x0 (pre ++ t) (((pre ++ t).length : Nat) : Int) (pre.length : Int)) (([] : List S43), ((pre.length : Int) + i), 1)) ∧
 (t.findIdx? scalars_badP = none → ∀ r, Ev (fun k => (api_Range.f k x0).bind fun t136 => ((sets_Norm.f k t136).bind fun bt139 => ((scalars_back.f k bt139.1).bind fun t143 => (some (t143, (0 : Int), (0 : Int)))))) r → Ev (fun k => scalars_Norm.l0 k x0 (pre ++ t) (((pre ++ t).length : Nat) : Int) (pre.length : Int)) r)
 | [], pre, _ => by
  refine ⟨fun i h => by simp at h, fun _ r hr => evSucc ?_⟩; simp only [scalars_Norm.l0]; rw [List.append_nil]; simp only [if_neg (show ¬ ((pre.length : Nat) : Int) < ((pre.length : Nat) : Int) by omega)]; exact hr
 | r :: t, pre, hl => by
  have hlc := len_cons pre r t; have hw : Aside0 (wrap64 ((pre.length : Int) + 1) = (pre.length : Int) + 1) := Aside0.mk (w64 (by omega) (by simp at hl; omega)); have c1 : (pre.length : Int) < ((pre ++ r :: t).length : Nat) := by rw [hlc]; omega
  have c2 : (0 : Int) ≤ pre.length := by omega
  have ih := scalars_Norm_loop N hN x0 t (pre ++ [r]) (by rw [app_snoc]; exact hl); rw [app_snoc, snoc_len] at ih; by_cases hb : scalars_badP r = true
  ·refine ⟨fun i h => ?_, fun h => by simp [List.findIdx?_cons, hb] at h⟩; obtain rfl : i = 0 := by simpa [List.findIdx?_cons, hb] using h.symm
   refine evSucc ?_; simp only [scalars_badP, Bool.or_eq_true, decide_eq_true_eq] at hb; simp only [scalars_Norm.l0, if_pos c1, if_pos c2, rd43, hw.out]; by_cases d1 : r.f0 < 0
   ·simp only [if_pos d1]; simpa using evNow (([] : List S43), (pre.length : Int), (1 : Int))
   by_cases d2 : r.f0 > r.f1
   ·simp only [if_neg d1, if_pos d2]; simpa using evNow (([] : List S43), (pre.length : Int), (1 : Int))
   have d3 : r.f1 > 1073741823 := by omega
   simp only [if_neg d1, if_neg d2, if_pos d3]; simpa using evNow (([] : List S43), (pre.length : Int), (1 : Int))
  ·have hb' : scalars_badP r = false := by simpa using hb
   simp only [scalars_badP, Bool.or_eq_true, decide_eq_true_eq, not_or] at hb; refine ⟨fun i h => ?_, fun h q hq => ?_⟩
   ·simp only [List.findIdx?_cons, hb', Option.map_eq_some_iff] at h; simp at h; obtain ⟨j, hj, rfl⟩ := h; have := ih.1 j hj; refine evSucc ?_; simp only [scalars_Norm.l0, if_pos c1, if_pos c2, rd43, hw.out, if_neg hb.1.1, if_neg hb.1.2, if_neg hb.2]; rw [show ((pre.length : Int) + ((j + 1 : Nat) : Int)) = (pre.length : Int) + 1 + (j : Int) by omega]; exact this
   ·simp [List.findIdx?_cons, hb'] at h; have := ih.2 (by simpa using h) q hq; refine evSucc ?_; simp only [scalars_Norm.l0, if_pos c1, if_pos c2, rd43, hw.out, if_neg hb.1.1, if_neg hb.1.2, if_neg hb.2]; exact this
theorem scalars_Norm_is (l : List S43) (hl : l.length * 16 ≤ 140737488351232) :
 (∀ i, l.findIdx? scalars_badP = some i → Ev (fun k => scalars_Norm.f k l) (([] : List S43), (i : Int), 1)) ∧
 (l.findIdx? scalars_badP = none → ∃ r, Ev (fun k => scalars_Norm.f k l) (r, 0, 0) ∧ scalars_IsSet r (fun x => Mem (l.map L43) x)) := by
 have h := scalars_Norm_loop l.length (by omega) l l [] (by simp); refine ⟨fun i hi => ?_, fun hn => ?_⟩
 ·have := h.1 i hi; simpa [scalars_Norm.f] using this
 ·have hgood : ∀ r ∈ l, 0 ≤ r.f0 ∧ r.f0 ≤ r.f1 ∧ r.f1 ≤ 1073741823 := fun r hr => by
   have := List.findIdx?_eq_none_iff.1 hn r hr; simp only [scalars_badP, Bool.or_eq_false_iff, decide_eq_false_iff_not] at this; omega
  have h1 := api_Range_is l hl; obtain ⟨m, w, k1, k2, k3, k4⟩ := norm_is 1073741823 (by omega) (l.map api_Range_c) (by simp; omega) (fun r hr => by
   obtain ⟨q, hq, rfl⟩ := List.mem_map.1 hr; exact hgood q hq)
  obtain ⟨r, q1, q2⟩ := scalars_out (p := fun x => Mem (l.map L43) x) k3 (fun x => by rw [k4 x, api_Range_len]); refine ⟨r, ?_, q2⟩; have := h.2 hn (r, 0, 0) (Ev.bind h1 (Ev.bind k1 (Ev.bind q1 (evNow _)))); simpa [scalars_Norm.f] using this
end Go.Proofs.Ytoljcfocgaonpaa.PI4
end
section
namespace Go.Proofs.Ytoljcfocgaonpaa.PI4
open Go.RowKit Go.Proofs.YtoljcfocgaonpaaW.PrintWords Go.Proofs.YtoljcfocgaonpaaW.PrintLast Go.Proofs.YtoljcfocgaonpaaW.PrintMore Go.Proofs.Ytoljcfocgaonpaa.I Go.Proofs.LT
set_option linter.unusedVariables false
set_option linter.unusedSimpArgs false
theorem rdI (pre : List Int) (r : Int) (t : List Int) : rd (pre ++ r :: t) (pre.length : Int) = r := by simp [rd]
def mergeL : List Int → List Int → List Int
 | [], b => b
 | x :: a, [] => x :: a
 | x :: a, y :: b => if x ≤ y then x :: mergeL a (y :: b) else y :: mergeL (x :: a) b
termination_by a b => a.length + b.length
theorem mergeL_perm : ∀ (n : Nat) (a b : List Int), a.length + b.length = n → (mergeL a b).Perm (a ++ b)
 | _, [], b, _ => by unfold mergeL; exact List.Perm.refl _
 | _, x :: a, [], _ => by unfold mergeL; simp
 | 0, x :: a, y :: b, h => by simp at h
 | n + 1, x :: a, y :: b, h => by
  unfold mergeL; split
  ·exact (mergeL_perm n a (y :: b) (by simp at h ⊢; omega)).cons x
  ·refine ((mergeL_perm n (x :: a) b (by simp at h ⊢; omega)).cons y).trans ?_; exact (List.perm_middle (l₁ := x :: a) (l₂ := b) (a := y)).symm
theorem mergeL_sorted : ∀ (n : Nat) (a b : List Int), a.length + b.length = n → a.Pairwise (· ≤ ·) → b.Pairwise (· ≤ ·) → (mergeL a b).Pairwise (· ≤ ·)
 | _, [], b, _, _, hb => by unfold mergeL; exact hb
 | _, x :: a, [], _, ha, _ => by unfold mergeL; exact ha
 | 0, x :: a, y :: b, h, _, _ => by simp at h
 | n + 1, x :: a, y :: b, h, ha, hb => by
  have ha' := List.pairwise_cons.1 ha; have hb' := List.pairwise_cons.1 hb; unfold mergeL; split
  ·rename_i d
   refine List.pairwise_cons.2 ⟨fun z hz => ?_, mergeL_sorted n a (y :: b) (by simp at h ⊢; omega) ha'.2 hb⟩; have := (mergeL_perm n a (y :: b) (by simp at h ⊢; omega)).mem_iff.1 hz; rcases List.mem_append.1 this with hz | hz
   ·exact ha'.1 z hz
   ·rcases List.mem_cons.1 hz with rfl | hz
    ·exact d
    ·exact Int.le_trans d (hb'.1 z hz)
  ·rename_i d
   refine List.pairwise_cons.2 ⟨fun z hz => ?_, mergeL_sorted n (x :: a) b (by simp at h ⊢; omega) ha hb'.2⟩; have := (mergeL_perm n (x :: a) b (by simp at h ⊢; omega)).mem_iff.1 hz; rcases List.mem_append.1 this with hz | hz
   ·rcases List.mem_cons.1 hz with rfl | hz
    ·omega
    ·exact Int.le_trans (by omega) (ha'.1 z hz)
   ·exact hb'.1 z hz
theorem merged_loop (N : Nat) (hN : N ≤ 8796093022206) : ∀ (n : Nat) (ta tb pa pb out : List Int), ta.length + tb.length = n → (pa ++ ta).length ≤ N → (pb ++ tb).length ≤ N → out.length + ta.length + tb.length ≤ N + N →
 Ev (fun k => leadtrailref04_merged.l0 k (pa ++ ta) (pb ++ tb) out (pa.length : Int) (pb.length : Int)) (out ++ mergeL ta tb)
 | _, [], [], pa, pb, out, _, _, _, _ => by
  refine evSucc (evSucc ?_); simp only [leadtrailref04_merged.l0, List.append_nil]; simp only [if_neg (show ¬ ((pa.length : Nat) : Int) < ((pa.length : Nat) : Int) by omega), leadtrailref04_merged.j1, decide_eq_false (show ¬ ((pb.length : Nat) : Int) < ((pb.length : Nat) : Int) by omega), Bool.false_eq_true, if_false]; unfold mergeL; simpa using evNow out
 | 0, x :: ta, _, _, _, _, h, _, _, _ => by simp at h
 | 0, [], y :: tb, _, _, _, h, _, _, _ => by simp at h
 | n + 1, [], y :: tb, pa, pb, out, h, ha, hb, ho => by
  have hlb := len_cons pb y tb; have ih := merged_loop N hN n [] tb pa (pb ++ [y]) (out ++ [y]) (by simp at h ⊢; omega) ha (by rw [app_snoc]; exact hb) (by simp at ho ⊢; omega); rw [app_snoc, snoc_len] at ih; have c1 : (pb.length : Int) < ((pb ++ y :: tb).length : Nat) := by rw [hlb]; omega
  have c2 : (0 : Int) ≤ pb.length := by omega
  have c3 : ¬ (pb.length : Int) = ((pb ++ y :: tb).length : Nat) := by omega
  have hlt : out.length < 17592186044416 := by simp at ho; omega
  have hw : Aside0 (wrap64 ((pb.length : Int) + 1) = (pb.length : Int) + 1) := Aside0.mk (w64 (by omega) (by simp at hb; omega)); refine evSucc (evSucc ?_); simp only [leadtrailref04_merged.l0, List.append_nil] at ih ⊢; simp only [if_neg (show ¬ ((pa.length : Nat) : Int) < ((pa.length : Nat) : Int) by omega), leadtrailref04_merged.j1, decide_eq_true c1, if_true, if_neg c3, if_pos c1, if_pos c2, if_pos hlt, rdI, hw.out]; unfold mergeL; unfold mergeL at ih; simpa using ih
 | n + 1, x :: ta, [], pa, pb, out, h, ha, hb, ho => by
  have hla := len_cons pa x ta; have ih := merged_loop N hN n ta [] (pa ++ [x]) pb (out ++ [x]) (by simp at h ⊢; omega) (by rw [app_snoc]; exact ha) hb (by simp at ho ⊢; omega); rw [app_snoc, snoc_len] at ih; have c1 : (pa.length : Int) < ((pa ++ x :: ta).length : Nat) := by rw [hla]; omega
  have c2 : (0 : Int) ≤ pa.length := by omega
  have hlt : out.length < 17592186044416 := by simp at ho; omega
  have hw : Aside0 (wrap64 ((pa.length : Int) + 1) = (pa.length : Int) + 1) := Aside0.mk (w64 (by omega) (by simp at ha; omega)); refine evSucc (evSucc ?_); simp only [leadtrailref04_merged.l0, List.append_nil] at ih ⊢; simp only [if_pos c1, leadtrailref04_merged.j1, if_true, if_pos c2, if_pos hlt, rdI, hw.out]; have e : out ++ mergeL (x :: ta) [] = (out ++ [x]) ++ mergeL ta [] := by
   unfold mergeL; cases ta with
   | nil => unfold mergeL; simp
   | cons z ta => unfold mergeL; simp
  rw [e]; exact ih
 | n + 1, x :: ta, y :: tb, pa, pb, out, h, ha, hb, ho => by
  have hla := len_cons pa x ta; have hlb := len_cons pb y tb; have c1 : (pa.length : Int) < ((pa ++ x :: ta).length : Nat) := by rw [hla]; omega
  have c2 : (0 : Int) ≤ pa.length := by omega
  have d1 : (pb.length : Int) < ((pb ++ y :: tb).length : Nat) := by rw [hlb]; omega
  have d2 : (0 : Int) ≤ pb.length := by omega
  have d3 : ¬ (pb.length : Int) = ((pb ++ y :: tb).length : Nat) := by omega
  have hlt : out.length < 17592186044416 := by simp at ho; omega
  have hwa : Aside0 (wrap64 ((pa.length : Int) + 1) = (pa.length : Int) + 1) := Aside0.mk (w64 (by omega) (by simp at ha; omega)); have hwb : Aside0 (wrap64 ((pb.length : Int) + 1) = (pb.length : Int) + 1) := Aside0.mk (w64 (by omega) (by simp at hb; omega)); refine evSucc (evSucc ?_); simp only [leadtrailref04_merged.l0]; simp only [if_pos c1, leadtrailref04_merged.j1, if_true, if_pos c2, if_neg d3, if_pos d1, if_pos d2, rdI]; by_cases d : x ≤ y
  ·have ih := merged_loop N hN n ta (y :: tb) (pa ++ [x]) pb (out ++ [x]) (by simp at h ⊢; omega) (by rw [app_snoc]; exact ha) hb (by simp at ho ⊢; omega); rw [app_snoc, snoc_len] at ih; simp only [if_pos d, if_pos hlt, hwa.out]; have e : out ++ mergeL (x :: ta) (y :: tb) = (out ++ [x]) ++ mergeL ta (y :: tb) := by
    rw [mergeL]; rw [if_pos d]; simp
   rw [e]; exact ih
  ·have ih := merged_loop N hN n (x :: ta) tb pa (pb ++ [y]) (out ++ [y]) (by simp at h ⊢; omega) ha (by rw [app_snoc]; exact hb) (by simp at ho ⊢; omega); rw [app_snoc, snoc_len] at ih; simp only [if_neg d, if_pos hlt, hwb.out]; have e : out ++ mergeL (x :: ta) (y :: tb) = (out ++ [y]) ++ mergeL (x :: ta) tb := by
    rw [mergeL]; rw [if_neg d]; simp
   rw [e]; exact ih
theorem merged_is (a b : List Int) (ha : a.length ≤ 8796093022206) (hb : b.length ≤ 8796093022206) : Ev (fun k => leadtrailref04_merged.f k a b) (mergeL a b) := by
 have h := merged_loop 8796093022206 (Nat.le_refl _) _ a b [] [] [] rfl (by simpa using ha) (by simpa using hb) (by simp; omega); simpa [leadtrailref04_merged.f] using h
def cnt (l : List Int) (x : Int) : Nat := l.countP fun y => decide (y ≤ x)
attribute [irreducible] cnt
end Go.Proofs.Ytoljcfocgaonpaa.PI4
end
section
namespace Go.Proofs.Ytoljcfocgaonpaa.PI4
open Go.RowKit Go.Proofs.YtoljcfocgaonpaaW.PrintWords Go.Proofs.YtoljcfocgaonpaaW.PrintLast Go.Proofs.YtoljcfocgaonpaaW.PrintMore Go.Proofs.Ytoljcfocgaonpaa.I Go.Proofs.LT
set_option linter.unusedVariables false
set_option linter.unusedSimpArgs false
theorem refValid_loop (N : Nat) (hN : N ≤ 8796093022206) : ∀ (t q : List S43) (p : S43), (q ++ p :: t).length ≤ N → p.f1 ≤ 1073741823 → 0 ≤ p.f1 → Ev (fun k => leadtrailref04_Valid.l0 k (q ++ p :: t) ((q.length : Int) + 1)) (validB 1073741823 p.f1 (t.map L43))
 | [], q, p, _, _, _ => by
  refine evSucc ?_; have hlc := len_cons q p []; have c1 : ¬ (q.length : Int) + 1 < ((q ++ [p]).length : Nat) := by rw [hlc]; simp
  simp only [leadtrailref04_Valid.l0, if_neg c1]; rw [show validB 1073741823 p.f1 (([] : List S43).map L43) = true from validB_nil _ _]; exact evNow _
 | r :: t, q, p, hl, hp, hp0 => by
  have hlc := len_cons q p (r :: t); have e1 : q ++ p :: r :: t = (q ++ [p]) ++ r :: t := by simp
  have e2 : ((q.length : Int) + 1) = ((q ++ [p]).length : Nat) := by simp
  have rr : rd_T43 (q ++ p :: r :: t) ((q.length : Int) + 1) = r := by rw [e1, e2]; exact rd43 _ _ _
  have rp : rd_T43 (q ++ p :: r :: t) (q.length : Int) = p := rd43 _ _ _; have hq : q.length ≤ N := by simp at hl; omega
  have c1 : (q.length : Int) + 1 < ((q ++ p :: r :: t).length : Nat) := by rw [hlc]; simp; omega
  have c2 : (0 : Int) ≤ (q.length : Int) + 1 := by omega
  have c3 : (q.length : Int) + 1 > 0 := by omega
  have c4 : (0 : Int) ≤ (q.length : Int) := by omega
  have c5 : (q.length : Int) < ((q ++ p :: r :: t).length : Nat) := by omega
  have hw1 : Aside0 (wrap64 ((q.length : Int) + 1 - 1) = (q.length : Int)) := Aside0.mk (by rw [w64 (by omega) (by omega)]; omega); have hw2 : Aside0 (wrap64 ((q.length : Int) + 1 + 1) = (q.length : Int) + 1 + 1) := Aside0.mk (w64 (by omega) (by omega)); have hw3 : Aside0 (wrap64 (p.f1 + 1) = p.f1 + 1) := Aside0.mk (w64 (by omega) (by omega)); refine evSucc ?_; simp only [leadtrailref04_Valid.l0, if_pos c1, if_pos c2, if_pos c3, rr, hw1.out, hw2.out, hw3.out, if_pos c4, if_pos c5, rp, List.map_cons, validB_cons]; show Ev _ (if r.f0 < 0 then false else if r.f0 > r.f1 then false else if r.f1 > 1073741823 then false else if r.f0 - 1 ≤ p.f1 then false else validB 1073741823 r.f1 (t.map L43)); by_cases d1 : r.f0 < 0
  ·simp only [if_pos d1]; exact evNow _
  by_cases d2 : r.f0 > r.f1
  ·simp only [if_neg d1, if_pos d2]; exact evNow _
  by_cases d3 : r.f1 > 1073741823
  ·simp only [if_neg d1, if_neg d2, if_pos d3]; exact evNow _
  by_cases d4 : r.f0 ≤ p.f1 + 1
  ·simp only [if_neg d1, if_neg d2, if_neg d3, if_pos d4, if_pos (show r.f0 - 1 ≤ p.f1 by omega)]; exact evNow _
  ·have ih := refValid_loop N hN t (q ++ [p]) r (by rw [← e1]; exact hl) (by omega) (by omega); rw [← e1, ← e2] at ih; simp only [if_neg d1, if_neg d2, if_neg d3, if_neg d4, if_neg (show ¬ r.f0 - 1 ≤ p.f1 by omega)]; exact ih
theorem refValid_is (l : List S43) (hl : l.length * 16 ≤ 140737488351232) : Ev (fun k => leadtrailref04_Valid.f k l) (validB 1073741823 (-2) (l.map L43)) := by
 simp only [leadtrailref04_Valid.f]; cases l with
 | nil =>
  refine evSucc ?_; simp only [leadtrailref04_Valid.l0, List.length_nil, if_neg (show ¬ (0 : Int) < ((0 : Nat) : Int) by omega), List.map_nil, validB_nil]; exact evNow _
 | cons r t =>
  have c1 : (0 : Int) < (((r :: t).length : Nat) : Int) := by rw [List.length_cons]; omega
  have r1 : rd_T43 (r :: t) 0 = r := rfl; have hw : Aside0 (wrap64 ((0 : Int) + 1) = 1) := Aside0.mk (by rw [w64 (by omega) (by omega)]; rfl); refine evSucc ?_; simp only [leadtrailref04_Valid.l0, if_pos c1, if_pos (show (0 : Int) ≤ 0 by omega), r1, if_neg (show ¬ (0 : Int) > 0 by omega), hw.out, List.map_cons, validB_cons]; show Ev _ (if r.f0 < 0 then false else if r.f0 > r.f1 then false else if r.f1 > 1073741823 then false else if r.f0 - 1 ≤ -2 then false else validB 1073741823 r.f1 (t.map L43)); by_cases d1 : r.f0 < 0
  ·simp only [if_pos d1]; exact evNow _
  by_cases d2 : r.f0 > r.f1
  ·simp only [if_neg d1, if_pos d2]; exact evNow _
  by_cases d3 : r.f1 > 1073741823
  ·simp only [if_neg d1, if_neg d2, if_pos d3]; exact evNow _
  simp only [if_neg d1, if_neg d2, if_neg d3, if_neg (show ¬ r.f0 - 1 ≤ -2 by omega)]; exact refValid_loop (r :: t).length (by omega) t [] r (by simp) (by omega) (by omega)
theorem refSet_is (l : List S43) (hl : l.length * 16 ≤ 140737488351232) : ∃ t, Ev (fun k => leadtrailref04_set.f k l) t ∧ t.map L43 = setL 1073741823 (l.map L43) := by
 have h := refValid_is l hl; by_cases d : validB 1073741823 (-2) (l.map L43) = true
 ·refine ⟨l, Ev.bind h ?_, by unfold setL; rw [if_pos d]⟩; simp only [if_pos d]; exact evNow _
 ·refine ⟨[], Ev.bind h ?_, by unfold setL; rw [if_neg d]; rfl⟩; simp only [if_neg d]; exact evNow _
theorem refSet_facts {l : List S43} {s : List S43} (h : s.map L43 = setL 1073741823 (l.map L43)) : ValidFrom 1073741823 (-2) (s.map L43) ∧ s.length ≤ 1073741824 := by
 have hv : ValidFrom 1073741823 (-2) (s.map L43) := by rw [h]; exact setL_valid _ _
 have := valid_len' hv (by omega) (by omega); exact ⟨hv, by simpa using this⟩
def endsL (l : List S43) : List Int := l.flatMap fun r => [r.f0, r.f1 + 1]
theorem endsL_cons (r : S43) (t : List S43) : endsL (r :: t) = [r.f0, r.f1 + 1] ++ endsL t := by simp [endsL]
theorem ends_loop (N : Nat) (hN : N ≤ 1073741824) : ∀ (t pre : List S43) (out : List Int), (pre ++ t).length ≤ N → out.length = 2 * pre.length → (∀ r ∈ t, 0 ≤ r.f1 ∧ r.f1 ≤ 1073741823) → Ev (fun k => leadtrailref04_ends.l0 k (pre ++ t) out (pre.length : Int)) (out ++ endsL t)
 | [], pre, out, _, _, _ => by
  refine evSucc ?_; simp only [leadtrailref04_ends.l0]; rw [List.append_nil]; simp only [if_neg (show ¬ ((pre.length : Nat) : Int) < ((pre.length : Nat) : Int) by omega)]; simpa [endsL] using evNow out
 | r :: t, pre, out, hl, ho, hb => by
  have hlc := len_cons pre r t; have hr := hb r List.mem_cons_self; have hpl : pre.length ≤ N := by simp at hl; omega
  have c1 : (pre.length : Int) < ((pre ++ r :: t).length : Nat) := by rw [hlc]; omega
  have c2 : (0 : Int) ≤ pre.length := by omega
  have hw : Aside0 (wrap64 ((pre.length : Int) + 1) = (pre.length : Int) + 1) := Aside0.mk (w64 (by omega) (by omega)); have hw2 : Aside0 (wrap64 (r.f1 + 1) = r.f1 + 1) := Aside0.mk (w64 (by omega) (by omega)); have ih := ends_loop N hN t (pre ++ [r]) (out ++ [r.f0, r.f1 + 1]) (by rw [app_snoc]; exact hl) (by simp [ho]; omega) (fun z hz => hb z (List.mem_cons_of_mem _ hz)); rw [app_snoc, snoc_len] at ih; have e : out.length + [r.f0, r.f1 + 1].length < 17592186044416 := by simp; omega
  refine evSucc ?_; simp only [leadtrailref04_ends.l0, if_pos c1, if_pos c2, rd43, hw.out, hw2.out, Option.bind_some, if_pos e]; rw [endsL_cons, ← List.append_assoc]; exact ih
theorem ends_is (l : List S43) (hn : l.length ≤ 1073741824) (hv : ValidFrom 1073741823 (-2) (l.map L43)) : Ev (fun k => leadtrailref04_ends.f k l) (endsL l) := by
 have h := ends_loop l.length hn l [] [] (by simp) rfl (fun r hr => by
  have := hv.each (L43 r) (List.mem_map.2 ⟨r, hr, rfl⟩); have e : (L43 r).1 = r.f0 ∧ (L43 r).2 = r.f1 := ⟨rfl, rfl⟩; rw [e.1, e.2] at this; omega)
 simpa [leadtrailref04_ends.f] using h
theorem endsL_mem {l : List S43} {r : S43} (h : r ∈ l) : r.f0 ∈ endsL l ∧ r.f1 + 1 ∈ endsL l := by
 unfold endsL; simp only [List.mem_flatMap]; exact ⟨⟨r, h, by simp⟩, ⟨r, h, by simp⟩⟩
theorem endsL_range {l : List S43} (hv : ValidFrom 1073741823 (-2) (l.map L43)) : ∀ y ∈ endsL l, 0 ≤ y ∧ y ≤ 1073741824 := fun y hy => by
 unfold endsL at hy; obtain ⟨r, hr, hy⟩ := List.mem_flatMap.1 hy; have := hv.each (L43 r) (List.mem_map.2 ⟨r, hr, rfl⟩); have e : (L43 r).1 = r.f0 ∧ (L43 r).2 = r.f1 := ⟨rfl, rfl⟩; rw [e.1, e.2] at this; simp at hy; omega
theorem endsL_sorted : ∀ {l : List S43} {last : Int}, ValidFrom 1073741823 last (l.map L43) → (endsL l).Pairwise (· ≤ ·) ∧ ∀ y ∈ endsL l, last + 1 < y
 | [], _, _ => by simp [endsL]
 | r :: t, last, hv => by
  have e : (L43 r).1 = r.f0 ∧ (L43 r).2 = r.f1 := ⟨rfl, rfl⟩; obtain ⟨v0, v1, v2, v3, v4⟩ := hv; rw [e.1, e.2] at *; obtain ⟨i1, i2⟩ := endsL_sorted v4; rw [e.2] at i2; rw [endsL_cons]; refine ⟨?_, fun y hy => ?_⟩
  ·refine List.pairwise_cons.2 ⟨fun y hy => ?_, List.pairwise_cons.2 ⟨fun y hy => ?_, i1⟩⟩
   ·rcases List.mem_cons.1 hy with rfl | hy
    ·omega
    ·have := i2 y hy; omega
   ·have := i2 y hy; omega
  ·rcases List.mem_cons.1 hy with rfl | hy
   ·omega
   ·rcases List.mem_cons.1 hy with rfl | hy
    ·omega
    ·have := i2 y hy; omega
theorem endsL_len (l : List S43) : (endsL l).length = 2 * l.length := by
 induction l with
 | nil => rfl
 | cons r t ih => rw [endsL_cons, List.length_append, ih]; simp; omega
theorem valid_snoc {top : Int} : ∀ {o : List Run} {last : Int} {r : Run}, ValidFrom top last o → 0 ≤ r.1 → r.1 ≤ r.2 → r.2 ≤ top → last < r.1 - 1 → (∀ x, Mem o x → x < r.1 - 1) → ValidFrom top last (o ++ [r])
 | [], _, r, _, h0, h1, h2, h3, _ => ⟨h0, h1, h2, h3, trivial⟩
 | q :: o, last, r, hv, h0, h1, h2, h3, hm => by
  obtain ⟨v0, v1, v2, v3, v4⟩ := hv; exact ⟨v0, v1, v2, v3, valid_snoc v4 h0 h1 h2 (hm q.2 (mem_cons.2 (.inl ⟨v1, Int.le_refl _⟩))) fun x hx => hm x (mem_cons.2 (.inr hx))⟩
theorem valid_stretch {top : Int} : ∀ {o : List Run} {last : Int} {q : Run} {h : Int}, ValidFrom top last (o ++ [q]) → q.2 ≤ h → h ≤ top → ValidFrom top last (o ++ [(q.1, h)])
 | [], _, q, h, hv, h1, h2 => ⟨hv.1, Int.le_trans hv.2.1 h1, h2, hv.2.2.2.1, trivial⟩
 | p :: o, last, q, h, hv, h1, h2 => ⟨hv.1, hv.2.1, hv.2.2.1, hv.2.2.2.1, valid_stretch hv.2.2.2.2 h1 h2⟩
theorem mem_head {top : Int} {pa ta : List S43} {last y : Int} (hv : ValidFrom top last ((pa ++ ta).map L43)) (h1 : ∀ r ∈ pa, r.f1 < y) (h2 : ∀ r t, ta = r :: t → y ≤ r.f1) : Mem ((pa ++ ta).map L43) y ↔ ∃ r t, ta = r :: t ∧ r.f0 ≤ y := by
 have e : ∀ r : S43, (L43 r).1 = r.f0 ∧ (L43 r).2 = r.f1 := fun _ => ⟨rfl, rfl⟩
 rw [List.map_append, mem_append]; constructor
 ·rintro (⟨q, hq, h⟩ | h)
  ·obtain ⟨r, hr, rfl⟩ := List.mem_map.1 hq; have := h1 r hr; rw [(e r).2] at h; omega
  ·cases ta with
   | nil => exact (Mem.nil h).elim
   | cons r t =>
    rw [List.map_cons] at h; rcases mem_cons.1 h with h | h
    ·exact ⟨r, t, rfl, by rw [(e r).1] at h; exact h.1⟩
    ·have h3 := h2 r t rfl; have hvt : ValidFrom top r.f1 (t.map L43) := by
      clear h1 h2 h h3; induction pa generalizing last with
      | nil => exact hv.2.2.2.2
      | cons q pa ih => exact ih hv.2.2.2.2
     have := hvt.gt h; omega
 ·rintro ⟨r, t, rfl, h⟩; exact .inr (by rw [List.map_cons]; exact mem_cons.2 (.inl ⟨by rw [(e r).1]; exact h, by rw [(e r).2]; exact h2 r t rfl⟩))
def want (both first second : Bool) (A B : Bool) : Bool := if A then (if B then both else first) else (if B then second else false)
section
variable (a b : List S43) (both first second : Bool) (cuts : List Int)
theorem adv1 (N : Nat) (hN : N ≤ 1073741824) (out : List S43) (j kk lo hi : Int) : ∀ (ta pa : List S43), a = pa ++ ta → (pa ++ ta).length ≤ N → (∀ r ∈ pa, r.f1 < lo) →
 ∃ pa' ta', a = pa' ++ ta' ∧ (∀ r ∈ pa', r.f1 < lo) ∧ (∀ r t, ta' = r :: t → lo ≤ r.f1) ∧ ∀ res, Ev (fun k => leadtrailref04_combined.j2 k a b both first second out (pa'.length : Int) j kk lo hi cuts) res → Ev (fun k => leadtrailref04_combined.l1 k a b both first second out (pa.length : Int) j kk lo hi cuts) res
 | [], pa, ha, hl, hp => by
  refine ⟨pa, [], ha, hp, fun r t h => (by cases h), fun res hr => evSucc ?_⟩; subst ha; simp only [leadtrailref04_combined.l1, List.append_nil] at hr ⊢; simp only [if_neg (show ¬ ((pa.length : Nat) : Int) < ((pa.length : Nat) : Int) by omega)]; exact hr
 | r :: t, pa, ha, hl, hp => by
  have hlc := len_cons pa r t; have hpl : pa.length ≤ N := by simp at hl; omega
  have c1 : (pa.length : Int) < (a.length : Nat) := by rw [ha, hlc]; omega
  have c2 : (0 : Int) ≤ pa.length := by omega
  have rr : rd_T43 a (pa.length : Int) = r := by rw [ha]; exact rd43 _ _ _
  have hw : Aside0 (wrap64 ((pa.length : Int) + 1) = (pa.length : Int) + 1) := Aside0.mk (w64 (by omega) (by omega)); by_cases d : r.f1 < lo
  ·obtain ⟨pa', ta', g1, g2, g3, g4⟩ := adv1 N hN out j kk lo hi t (pa ++ [r]) (by rw [ha, app_snoc]) (by rw [app_snoc]; exact hl) (fun z hz => by
    rcases List.mem_append.1 hz with hz | hz
    ·exact hp z hz
    ·obtain rfl := List.mem_singleton.1 hz; exact d)
   refine ⟨pa', ta', g1, g2, g3, fun res hr => evSucc ?_⟩; have := g4 res hr; rw [snoc_len] at this; simp only [leadtrailref04_combined.l1, if_pos c1, if_pos c2, rr, if_pos d, hw.out]; exact this
  ·refine ⟨pa, r :: t, ha, hp, fun q s h => by injection h with h1 h2; subst h1; omega, fun res hr => evSucc ?_⟩; simp only [leadtrailref04_combined.l1, if_pos c1, if_pos c2, rr, if_neg d]; exact hr
theorem adv2 (N : Nat) (hN : N ≤ 1073741824) (out : List S43) (i kk lo hi : Int) : ∀ (tb pb : List S43), b = pb ++ tb → (pb ++ tb).length ≤ N → (∀ r ∈ pb, r.f1 < lo) →
 ∃ pb' tb', b = pb' ++ tb' ∧ (∀ r ∈ pb', r.f1 < lo) ∧ (∀ r t, tb' = r :: t → lo ≤ r.f1) ∧ ∀ res, Ev (fun k => leadtrailref04_combined.j4 k a b both first second out i (pb'.length : Int) kk lo hi cuts) res → Ev (fun k => leadtrailref04_combined.l2 k a b both first second out i (pb.length : Int) kk lo hi cuts) res
 | [], pb, hb, hl, hp => by
  refine ⟨pb, [], hb, hp, fun r t h => (by cases h), fun res hr => evSucc ?_⟩; subst hb; simp only [leadtrailref04_combined.l2, List.append_nil] at hr ⊢; simp only [if_neg (show ¬ ((pb.length : Nat) : Int) < ((pb.length : Nat) : Int) by omega)]; exact hr
 | r :: t, pb, hb, hl, hp => by
  have hlc := len_cons pb r t; have hpl : pb.length ≤ N := by simp at hl; omega
  have c1 : (pb.length : Int) < (b.length : Nat) := by rw [hb, hlc]; omega
  have c2 : (0 : Int) ≤ pb.length := by omega
  have rr : rd_T43 b (pb.length : Int) = r := by rw [hb]; exact rd43 _ _ _
  have hw : Aside0 (wrap64 ((pb.length : Int) + 1) = (pb.length : Int) + 1) := Aside0.mk (w64 (by omega) (by omega)); by_cases d : r.f1 < lo
  ·obtain ⟨pb', tb', g1, g2, g3, g4⟩ := adv2 N hN out i kk lo hi t (pb ++ [r]) (by rw [hb, app_snoc]) (by rw [app_snoc]; exact hl) (fun z hz => by
    rcases List.mem_append.1 hz with hz | hz
    ·exact hp z hz
    ·obtain rfl := List.mem_singleton.1 hz; exact d)
   refine ⟨pb', tb', g1, g2, g3, fun res hr => evSucc ?_⟩; have := g4 res hr; rw [snoc_len] at this; simp only [leadtrailref04_combined.l2, if_pos c1, if_pos c2, rr, if_pos d, hw.out]; exact this
  ·refine ⟨pb, r :: t, hb, hp, fun q s h => by injection h with h1 h2; subst h1; omega, fun res hr => evSucc ?_⟩; simp only [leadtrailref04_combined.l2, if_pos c1, if_pos c2, rr, if_neg d]; exact hr
theorem inside (out : List S43) (kk lo hi : Int) (pa ta pb tb : List S43) (ha : a = pa ++ ta) (hb : b = pb ++ tb) (va : ValidFrom 1073741823 (-2) (a.map L43)) (vb : ValidFrom 1073741823 (-2) (b.map L43)) (h1 : ∀ r ∈ pa, r.f1 < lo) (h2 : ∀ r t, ta = r :: t → lo ≤ r.f1) (h3 : ∀ r ∈ pb, r.f1 < lo) (h4 : ∀ r t, tb = r :: t → lo ≤ r.f1) (res : List S43)
 (hr : Ev (fun k => leadtrailref04_combined.j6 k a b both first second out (pa.length : Int) (pb.length : Int) kk lo hi cuts (!want both first second (memB (a.map L43) lo) (memB (b.map L43) lo))) res) :
 Ev (fun k => leadtrailref04_combined.j4 k a b both first second out (pa.length : Int) (pb.length : Int) kk lo hi cuts) res := by
 have j5 : ∀ A B : Bool, Ev (fun k => leadtrailref04_combined.j6 k a b both first second out (pa.length : Int) (pb.length : Int) kk lo hi cuts (!want both first second A B)) res → Ev (fun k => leadtrailref04_combined.j5 k a b both first second out (pa.length : Int) (pb.length : Int) kk lo hi A B cuts) res := fun A B h => by
  refine evSucc ?_; unfold want at h; cases A <;> cases B <;> cases both <;> cases first <;> cases second <;> simp only [leadtrailref04_combined.j5, Bool.false_eq_true, if_false, if_true] <;> simpa using h
 have ma := mem_head (y := lo) (by rw [← ha]; exact va) h1 h2; have mb := mem_head (y := lo) (by rw [← hb]; exact vb) h3 h4; rw [← ha] at ma; rw [← hb] at mb; have ea : (a.length : Int) = pa.length + ta.length := by rw [ha]; simp
 have eb : (b.length : Int) = pb.length + tb.length := by rw [hb]; simp
 have c2 : (0 : Int) ≤ pa.length := by omega
 have d2 : (0 : Int) ≤ pb.length := by omega
 refine evSucc ?_; have hb5 : ∀ A : Bool, A = memB (a.map L43) lo → Ev (fun k => if (pb.length : Int) < (b.length : Nat) then (if (0 : Int) ≤ (pb.length : Int) then leadtrailref04_combined.j5 k a b both first second out (pa.length : Int) (pb.length : Int) kk lo hi A (decide ((rd_T43 b (pb.length : Int)).f0 ≤ lo)) cuts else none) else leadtrailref04_combined.j5 k a b both first second out (pa.length : Int) (pb.length : Int) kk lo hi A false cuts) res := fun A hA => by
  cases tb with
  | nil =>
   have n1 : ¬ (pb.length : Int) < (b.length : Nat) := by simp at eb; omega
   simp only [if_neg n1]; have e : memB (b.map L43) lo = false := by
    cases hm : memB (b.map L43) lo
    ·rfl
    ·obtain ⟨r, t, h, _⟩ := mb.1 (memB_iff.1 hm); cases h
   rw [e, ← hA] at hr; exact j5 A false hr
  | cons r t =>
   have n1 : (pb.length : Int) < (b.length : Nat) := by simp at eb; omega
   have rr : rd_T43 b (pb.length : Int) = r := by rw [hb]; exact rd43 _ _ _
   simp only [if_pos n1, if_pos d2, rr]; have e : memB (b.map L43) lo = decide (r.f0 ≤ lo) := by
    rw [Bool.eq_iff_iff, memB_iff, decide_eq_true_iff, mb]; exact ⟨fun ⟨q, s, h, h'⟩ => by injection h with h1 _; rw [h1]; exact h', fun h => ⟨r, t, rfl, h⟩⟩
   rw [e, ← hA] at hr; exact j5 A _ hr
 cases ta with
 | nil =>
  have n1 : ¬ (pa.length : Int) < (a.length : Nat) := by simp at ea; omega
  simp only [leadtrailref04_combined.j4, if_neg n1]; refine hb5 false ?_; cases hm : memB (a.map L43) lo
  ·rfl
  ·obtain ⟨r, t, h, _⟩ := ma.1 (memB_iff.1 hm); cases h
 | cons r t =>
  have n1 : (pa.length : Int) < (a.length : Nat) := by simp at ea; omega
  have rr : rd_T43 a (pa.length : Int) = r := by rw [ha]; exact rd43 _ _ _
  simp only [leadtrailref04_combined.j4, if_pos n1, if_pos c2, rr]; refine hb5 (decide (r.f0 ≤ lo)) ?_; rw [Bool.eq_iff_iff, memB_iff, decide_eq_true_iff, ma]; exact ⟨fun h => ⟨r, t, rfl, h⟩, fun ⟨q, s, h, h'⟩ => by injection h with h1 _; rw [h1]; exact h'⟩
end
theorem same_between {l : List S43} {cuts : List Int} {c0 c1 x : Int} (he : ∀ y ∈ endsL l, y ∈ cuts) (hg : ∀ y ∈ cuts, y ≤ c0 ∨ c1 ≤ y) (h0 : c0 ≤ x) (h1 : x < c1) : Mem (l.map L43) x ↔ Mem (l.map L43) c0 := by
 have e : ∀ r : S43, (L43 r).1 = r.f0 ∧ (L43 r).2 = r.f1 := fun _ => ⟨rfl, rfl⟩
 constructor
 ·rintro ⟨q, hq, h2, h3⟩; obtain ⟨r, hr, rfl⟩ := List.mem_map.1 hq; rw [(e r).1] at h2; rw [(e r).2] at h3; have g1 := hg _ (he _ (endsL_mem hr).1); refine ⟨_, hq, ?_, ?_⟩
  ·rw [(e r).1]; omega
  ·rw [(e r).2]; omega
 ·rintro ⟨q, hq, h2, h3⟩; obtain ⟨r, hr, rfl⟩ := List.mem_map.1 hq; rw [(e r).1] at h2; rw [(e r).2] at h3; have g2 := hg _ (he _ (endsL_mem hr).2); refine ⟨_, hq, ?_, ?_⟩
  ·rw [(e r).1]; omega
  ·rw [(e r).2]; omega
theorem comb_loop (a b : List S43) (both first second : Bool) (cuts : List Int) (N : Nat) (hN : N ≤ 1073741824) (la : a.length ≤ N) (lb : b.length ≤ N) (va : ValidFrom 1073741823 (-2) (a.map L43)) (vb : ValidFrom 1073741823 (-2) (b.map L43)) (ea : ∀ y ∈ endsL a, y ∈ cuts) (eb : ∀ y ∈ endsL b, y ∈ cuts) (hs : cuts.Pairwise (· ≤ ·)) (hr : ∀ y ∈ cuts, 0 ≤ y ∧ y ≤ 1073741824) (hcl : cuts.length ≤ 4294967296) :
 ∀ (C P : List Int) (out : List S43) (pa ta pb tb : List S43), cuts = P ++ C → a = pa ++ ta → b = pb ++ tb → (∀ c R, C = c :: R → (∀ r ∈ pa, r.f1 < c) ∧ (∀ r ∈ pb, r.f1 < c)) → out.length ≤ P.length → ValidFrom 1073741823 (-2) (out.map L43) →
  (∀ x, Mem (out.map L43) x ↔ want both first second (memB (a.map L43) x) (memB (b.map L43) x) = true ∧ ∀ c R, C = c :: R → x < c) →
  ∃ r, Ev (fun k => leadtrailref04_combined.l0 k a b both first second out (pa.length : Int) (pb.length : Int) (P.length : Int) cuts) r ∧ ValidFrom 1073741823 (-2) (r.map L43) ∧ ∀ x, Mem (r.map L43) x ↔ want both first second (memB (a.map L43) x) (memB (b.map L43) x) = true
 | [], P, out, pa, ta, pb, tb, hc, ha, hb, _, hol, hv, hm => by
  have hP : P.length ≤ 4294967296 := by rw [hc] at hcl; simp at hcl; exact hcl
  have hw : Aside0 (wrap64 ((P.length : Int) + 1) = (P.length : Int) + 1) := Aside0.mk (w64 (by omega) (by omega)); have n1 : ¬ (P.length : Int) + 1 < (cuts.length : Nat) := by rw [hc]; simp; omega
  refine ⟨out, evSucc ?_, hv, fun x => (hm x).trans ⟨fun h => h.1, fun h => ⟨h, fun c R h => (by cases h)⟩⟩⟩; simp only [leadtrailref04_combined.l0, hw.out, if_neg n1]; exact evNow _
 | [c], P, out, pa, ta, pb, tb, hc, ha, hb, _, hol, hv, hm => by
  have hP : P.length ≤ 4294967296 := by rw [hc] at hcl; simp at hcl; omega
  have hw : Aside0 (wrap64 ((P.length : Int) + 1) = (P.length : Int) + 1) := Aside0.mk (w64 (by omega) (by omega)); have n1 : ¬ (P.length : Int) + 1 < (cuts.length : Nat) := by rw [hc]; simp
  have last : ∀ y ∈ cuts, y ≤ c := fun y hy => by
   rw [hc] at hy hs; rcases List.mem_append.1 hy with hy | hy
   ·exact (List.pairwise_append.1 hs).2.2 y hy c (by simp)
   ·obtain rfl := List.mem_singleton.1 hy; exact Int.le_refl _
  have e : ∀ r : S43, (L43 r).1 = r.f0 ∧ (L43 r).2 = r.f1 := fun _ => ⟨rfl, rfl⟩
  have none_ : ∀ {l : List S43} {x : Int}, (∀ y ∈ endsL l, y ∈ cuts) → Mem (l.map L43) x → x < c := fun {l x} he ⟨q, hq, h2, h3⟩ => by
   obtain ⟨r, hr, rfl⟩ := List.mem_map.1 hq; have := last _ (he _ (endsL_mem hr).2); rw [(e r).2] at h3; omega
  refine ⟨out, evSucc ?_, hv, fun x => (hm x).trans ⟨fun h => h.1, fun h => ⟨h, fun c' R h' => ?_⟩⟩⟩
  ·simp only [leadtrailref04_combined.l0, hw.out, if_neg n1]; exact evNow _
  ·injection h' with h1 _
   subst h1; cases hA : memB (a.map L43) x with
   | true => exact none_ ea (memB_iff.1 hA)
   | false => cases hB : memB (b.map L43) x with
    | true => exact none_ eb (memB_iff.1 hB)
    | false => rw [hA, hB] at h; simp [want] at h
 | c0 :: c1 :: R, P, out, pa, ta, pb, tb, hc, ha, hb, hp, hol, hv, hm => by
  have hP : P.length + 2 ≤ 4294967296 := by rw [hc] at hcl; simp at hcl; omega
  have hw : Aside0 (wrap64 ((P.length : Int) + 1) = (P.length : Int) + 1) := Aside0.mk (w64 (by omega) (by omega)); have n1 : (P.length : Int) + 1 < (cuts.length : Nat) := by rw [hc]; simp; omega
  have n2 : (0 : Int) ≤ (P.length : Int) := by omega
  have n3 : (P.length : Int) < (cuts.length : Nat) := by omega
  have n4 : (0 : Int) ≤ (P.length : Int) + 1 := by omega
  have r0 : rd cuts (P.length : Int) = c0 := by rw [hc]; exact rdI _ _ _
  have hc' : cuts = (P ++ [c0]) ++ c1 :: R := by rw [hc]; simp
  have r1 : rd cuts ((P.length : Int) + 1) = c1 := by rw [hc', ← snoc_len P c0]; exact rdI _ _ _
  have b0 := hr c0 (by rw [hc]; simp); have b1 := hr c1 (by rw [hc]; simp); have hw2 : Aside0 (wrap64 (c1 - 1) = c1 - 1) := Aside0.mk (w64 (by omega) (by omega)); have sp := hs; rw [hc] at sp; have sp2 := (List.pairwise_append.1 sp).2.1; have s01 : c0 ≤ c1 := (List.pairwise_cons.1 sp2).1 c1 (by simp); have sR : ∀ y ∈ c1 :: R, c1 ≤ y := fun y hy => by
   rcases List.mem_cons.1 hy with rfl | hy
   ·exact Int.le_refl _
   ·exact (List.pairwise_cons.1 (List.pairwise_cons.1 sp2).2).1 y hy
  have gap : ∀ y ∈ cuts, y ≤ c0 ∨ c1 ≤ y := fun y hy => by
   rw [hc] at hy; rcases List.mem_append.1 hy with hy | hy
   ·exact .inl ((List.pairwise_append.1 sp).2.2 y hy c0 (by simp))
   ·rcases List.mem_cons.1 hy with rfl | hy
    ·exact .inl (Int.le_refl _)
    ·exact .inr (sR y hy)
  have hp0 := hp c0 (c1 :: R) rfl; have next : ∀ (out' : List S43) (pa' ta' pb' tb' : List S43), a = pa' ++ ta' → b = pb' ++ tb' → (∀ r ∈ pa', r.f1 < c0) → (∀ r ∈ pb', r.f1 < c0) → out'.length ≤ P.length + 1 → ValidFrom 1073741823 (-2) (out'.map L43) → (∀ x, Mem (out'.map L43) x ↔ want both first second (memB (a.map L43) x) (memB (b.map L43) x) = true ∧ x < c1) →
   ∃ r, Ev (fun k => leadtrailref04_combined.l0 k a b both first second out' (pa'.length : Int) (pb'.length : Int) ((P.length : Int) + 1) cuts) r ∧ ValidFrom 1073741823 (-2) (r.map L43) ∧ ∀ x, Mem (r.map L43) x ↔ want both first second (memB (a.map L43) x) (memB (b.map L43) x) = true := fun out' pa' ta' pb' tb' ha' hb' hpa hpb hol' hv' hm' => by
   have ih := comb_loop a b both first second cuts N hN la lb va vb ea eb hs hr hcl (c1 :: R) (P ++ [c0]) out' pa' ta' pb' tb' hc' ha' hb' (fun c S h => by
    injection h with h1 _
    subst h1; exact ⟨fun r hr => Int.lt_of_lt_of_le (hpa r hr) s01, fun r hr => Int.lt_of_lt_of_le (hpb r hr) s01⟩) (by simpa using hol') hv' (fun x => (hm' x).trans ⟨fun h => ⟨h.1, fun c S hh => by injection hh with h1 _; rw [← h1]; exact h.2⟩, fun h => ⟨h.1, h.2 c1 R rfl⟩⟩)
   rw [snoc_len] at ih; exact ih
  by_cases d : c0 > c1 - 1
  ·obtain rfl : c0 = c1 := by omega
   obtain ⟨r, g1, g2, g3⟩ := next out pa ta pb tb ha hb hp0.1 hp0.2 (by omega) hv (fun x => (hm x).trans ⟨fun h => ⟨h.1, h.2 c0 _ rfl⟩, fun h => ⟨h.1, fun c S hh => by injection hh with h1 _; rw [← h1]; exact h.2⟩⟩); refine ⟨r, evSucc ?_, g2, g3⟩; simp only [leadtrailref04_combined.l0, hw.out, if_pos n1, if_pos n2, if_pos n3, if_pos n4, r0, r1, hw2.out, if_pos d]; exact g1
  ·obtain ⟨pa', ta', a1, a2, a3, a4⟩ := adv1 a b both first second cuts N hN out (pb.length : Int) (P.length : Int) c0 (c1 - 1) ta pa ha (by rw [← ha]; exact la) hp0.1
   obtain ⟨pb', tb', b1', b2, b3, b4⟩ := adv2 a b both first second cuts N hN out (pa'.length : Int) (P.length : Int) c0 (c1 - 1) tb pb hb (by rw [← hb]; exact lb) hp0.2
   have go : ∀ res, Ev (fun k => leadtrailref04_combined.j6 k a b both first second out (pa'.length : Int) (pb'.length : Int) (P.length : Int) c0 (c1 - 1) cuts (!want both first second (memB (a.map L43) c0) (memB (b.map L43) c0))) res → Ev (fun k => leadtrailref04_combined.l0 k a b both first second out (pa.length : Int) (pb.length : Int) (P.length : Int) cuts) res := fun res hres => by
    refine evSucc ?_; simp only [leadtrailref04_combined.l0, hw.out, if_pos n1, if_pos n2, if_pos n3, if_pos n4, r0, r1, hw2.out, if_neg d]; refine a4 res (evSucc ?_); simp only [leadtrailref04_combined.j2]; exact b4 res (inside a b both first second cuts out (P.length : Int) c0 (c1 - 1) pa' ta' pb' tb' a1 b1' va vb a2 a3 b2 b3 res hres)
   have const : ∀ x, c0 ≤ x → x < c1 → want both first second (memB (a.map L43) x) (memB (b.map L43) x) = want both first second (memB (a.map L43) c0) (memB (b.map L43) c0) := fun x h0 h1 => by
    rw [memB_eq (same_between ea gap h0 h1), memB_eq (same_between eb gap h0 h1)]
   have below : ∀ x, Mem (out.map L43) x → x < c0 := fun x hx => ((hm x).1 hx).2 c0 _ rfl
   by_cases hwant : want both first second (memB (a.map L43) c0) (memB (b.map L43) c0) = true
   ·
     have grow : ∀ out' : List S43, (∀ x, Mem (out'.map L43) x ↔ Mem (out.map L43) x ∨ (c0 ≤ x ∧ x ≤ c1 - 1)) → ∀ x, Mem (out'.map L43) x ↔ want both first second (memB (a.map L43) x) (memB (b.map L43) x) = true ∧ x < c1 := fun out' h x => by
      rw [h x, hm x]; constructor
      ·rintro (⟨h1, h2⟩ | ⟨h1, h2⟩)
       ·have := h2 c0 _ rfl; exact ⟨h1, by omega⟩
       ·exact ⟨by rw [const x h1 (by omega)]; exact hwant, by omega⟩
      ·rintro ⟨h1, h2⟩; by_cases hx : x < c0
       ·exact .inl ⟨h1, fun c S hh => by injection hh with h3 _; rw [← h3]; exact hx⟩
       ·exact .inr ⟨by omega, by omega⟩
     have e : ∀ r : S43, (L43 r).1 = r.f0 ∧ (L43 r).2 = r.f1 := fun _ => ⟨rfl, rfl⟩
     have put : (∃ o q, out = o ++ [q] ∧ q.f1 = c0 - 1) → ∃ r, Ev (fun k => leadtrailref04_combined.l0 k a b both first second out (pa.length : Int) (pb.length : Int) (P.length : Int) cuts) r ∧ ValidFrom 1073741823 (-2) (r.map L43) ∧ ∀ x, Mem (r.map L43) x ↔ want both first second (memB (a.map L43) x) (memB (b.map L43) x) = true := fun ⟨o, q, ho, hq⟩ => by
      subst ho; have hv2 : ValidFrom 1073741823 (-2) ((o ++ [(⟨q.f0, c1 - 1⟩ : S43)]).map L43) := by
       have h1 : ValidFrom 1073741823 (-2) (o.map L43 ++ [L43 q]) := by simpa using hv
       have := valid_stretch (h := c1 - 1) h1 (by rw [(e q).2]; omega) (by omega); rw [List.map_append]; exact this
      have hq0 : q.f0 ≤ q.f1 := by
       have := hv.each (L43 q) (by simp); rw [(e q).1, (e q).2] at this; exact this.2.1
      obtain ⟨r, g1, g2, g3⟩ := next (o ++ [⟨q.f0, c1 - 1⟩]) pa' ta' pb' tb' a1 b1' a2 b2 (by simp at hol ⊢; omega) hv2 (grow _ fun x => by
       simp only [List.map_append, mem_append, List.map_cons, List.map_nil, mem_cons]; show _ ∨ ((q.f0 ≤ x ∧ x ≤ c1 - 1) ∨ Mem [] x) ↔ (_ ∨ ((q.f0 ≤ x ∧ x ≤ q.f1) ∨ Mem [] x)) ∨ _; have hn : ¬ Mem [] x := Mem.nil; simp only [hn, or_false]; constructor
       ·rintro (h | h)
        ·exact .inl (.inl h)
        ·by_cases hx : x ≤ q.f1
         ·exact .inl (.inr ⟨h.1, hx⟩)
         ·exact .inr ⟨by omega, by omega⟩
       ·rintro ((h | h) | h)
        ·exact .inl h
        ·exact .inr ⟨h.1, by omega⟩
        ·exact .inr ⟨by omega, h.2⟩)
      refine ⟨r, go r (evSucc ?_), g2, g3⟩; have ol := snoc_len o q; have ob : o.length ≤ 4294967296 := by simp at hol; omega
      have hw3 : Aside0 (wrap64 ((((o ++ [q]).length : Nat) : Int) - 1) = (o.length : Int)) := Aside0.mk (by rw [ol, w64 (by omega) (by omega)]; omega); have hw4 : Aside0 (wrap64 (c0 - 1) = c0 - 1) := Aside0.mk (w64 (by omega) (by omega)); have k1 : (((o ++ [q]).length : Nat) : Int) > 0 := by omega
      have k2 : (0 : Int) ≤ (o.length : Int) := by omega
      have k3 : (o.length : Int) < (((o ++ [q]).length : Nat) : Int) := by omega
      have k4 : rd_T43 (o ++ [q]) (o.length : Int) = q := rd43 o q []; have k5 : (o ++ [q]).set (o.length : Int).toNat (⟨q.f0, c1 - 1⟩ : S43) = o ++ [⟨q.f0, c1 - 1⟩] := by simp
      simp only [leadtrailref04_combined.j6, hwant, Bool.not_true, Bool.false_eq_true, if_false, if_pos k1, hw3.out, if_pos k2, if_pos k3, k4, hw4.out, if_pos hq, k5, hw.out]; exact g1
     have add : (∀ x, Mem (out.map L43) x → x < c0 - 1) → (∀ o q, out = o ++ [q] → ¬ q.f1 = c0 - 1) → ∃ r, Ev (fun k => leadtrailref04_combined.l0 k a b both first second out (pa.length : Int) (pb.length : Int) (P.length : Int) cuts) r ∧ ValidFrom 1073741823 (-2) (r.map L43) ∧ ∀ x, Mem (r.map L43) x ↔ want both first second (memB (a.map L43) x) (memB (b.map L43) x) = true := fun hlt hne => by
      have hv2 : ValidFrom 1073741823 (-2) ((out ++ [(⟨c0, c1 - 1⟩ : S43)]).map L43) := by
       have := valid_snoc (r := (c0, c1 - 1)) hv b0.1 (by show c0 ≤ c1 - 1; omega) (by show c1 - 1 ≤ _; omega) (by show (-2 : Int) < c0 - 1; omega) hlt; simpa [L43] using this
      obtain ⟨r, g1, g2, g3⟩ := next (out ++ [⟨c0, c1 - 1⟩]) pa' ta' pb' tb' a1 b1' a2 b2 (by simp; omega) hv2 (grow _ fun x => by
       simp only [List.map_append, mem_append, List.map_cons, List.map_nil, mem_cons]; show _ ∨ ((c0 ≤ x ∧ x ≤ c1 - 1) ∨ Mem [] x) ↔ _; have hn : ¬ Mem [] x := Mem.nil; simp only [hn, or_false])
      refine ⟨r, go r (evSucc ?_), g2, g3⟩; have kl : out.length < 8796093022208 := by omega
      rcases List.eq_nil_or_concat out with rfl | ⟨o, q, ho⟩
      ·simp only [leadtrailref04_combined.j6, hwant, Bool.not_true, Bool.false_eq_true, if_false, List.length_nil, if_neg (show ¬ ((0 : Nat) : Int) > 0 by omega), if_pos (show (0 : Nat) < 8796093022208 from Nat.zero_lt_succ _), hw.out]; exact g1
      ·have ho' : out = o ++ [q] := by simpa using ho
       subst ho'; have ol := snoc_len o q; have ob : o.length ≤ 4294967296 := by simp at hol; omega
       have hw3 : Aside0 (wrap64 ((((o ++ [q]).length : Nat) : Int) - 1) = (o.length : Int)) := Aside0.mk (by rw [ol, w64 (by omega) (by omega)]; omega); have hw4 : Aside0 (wrap64 (c0 - 1) = c0 - 1) := Aside0.mk (w64 (by omega) (by omega)); have k1 : (((o ++ [q]).length : Nat) : Int) > 0 := by omega
       have k2 : (0 : Int) ≤ (o.length : Int) := by omega
       have k3 : (o.length : Int) < (((o ++ [q]).length : Nat) : Int) := by omega
       have k4 : rd_T43 (o ++ [q]) (o.length : Int) = q := rd43 o q []; simp only [leadtrailref04_combined.j6, hwant, Bool.not_true, Bool.false_eq_true, if_false, if_pos k1, hw3.out, if_pos k2, if_pos k3, k4, hw4.out, if_neg (hne o q rfl), if_pos kl, hw.out]; exact g1
     rcases List.eq_nil_or_concat out with rfl | ⟨o, q, ho⟩
     ·exact add (fun x hx => (Mem.nil hx).elim) (fun o q h => by simp at h)
     ·have ho' : out = o ++ [q] := by simpa using ho
      by_cases hq : q.f1 = c0 - 1
      ·exact put ⟨o, q, ho', hq⟩
      ·refine add (fun x hx => ?_) (fun o2 q2 h => ?_)
       ·have hxc := below x hx; by_cases hx1 : x < c0 - 1
        ·exact hx1
        ·exfalso
         have hq1 : q.f1 < c0 := below q.f1 (by
          rw [ho', List.map_append, mem_append]; have := hv.each (L43 q) (by rw [ho']; simp); exact .inr (mem_cons.2 (.inl ⟨this.2.1, Int.le_refl _⟩)))
         have hlast : ∀ {o : List S43} {last x : Int}, ValidFrom 1073741823 last ((o ++ [q]).map L43) → Mem ((o ++ [q]).map L43) x → x ≤ q.f1 := fun {o} => by
          induction o with
          | nil =>
           intro last x _ h; rcases mem_cons.1 h with h | h
           ·exact h.2
           ·exact (Mem.nil h).elim
          | cons p o ih =>
           intro last x hv h; rcases mem_cons.1 h with h | h
           ·have h3 := hv.2.2.2.2; have h4 : Mem ((o ++ [q]).map L43) q.f1 := by
             rw [List.map_append, mem_append]; have := h3.each (L43 q) (by simp); exact .inr (mem_cons.2 (.inl ⟨this.2.1, Int.le_refl _⟩))
            have := h3.gt h4; omega
           ·exact ih hv.2.2.2.2 h
         have := hlast (by rw [← ho']; exact hv) (by rw [← ho']; exact hx); omega
       ·rw [ho'] at h; have := List.append_inj' h rfl; have h3 : q = q2 := by simpa using this.2
        rw [← h3]; exact hq
   ·have hwf : want both first second (memB (a.map L43) c0) (memB (b.map L43) c0) = false := by simpa using hwant
    obtain ⟨r, g1, g2, g3⟩ := next out pa' ta' pb' tb' a1 b1' a2 b2 (by omega) hv (fun x => (hm x).trans ⟨fun h => ⟨h.1, by have := h.2 c0 _ rfl; omega⟩, fun h => ⟨h.1, fun c S hh => by
     injection hh with h3 _
     rw [← h3]; by_cases hx : x < c0
     ·exact hx
     ·have := const x (by omega) h.2; rw [h.1, hwf] at this; cases this⟩⟩)
    refine ⟨r, go r (evSucc ?_), g2, g3⟩; simp only [leadtrailref04_combined.j6, hwf, Bool.not_false, if_true, hw.out]; exact g1
termination_by C => C.length
theorem comb_is (l m : List S43) (hl : l.length * 16 ≤ 140737488351232) (hm : m.length * 16 ≤ 140737488351232) (both first second : Bool) :
 ∃ r, Ev (fun k => leadtrailref04_combined.f k l m both first second) r ∧ scalars_IsSet r (fun x => want both first second (memB (setL 1073741823 (l.map L43)) x) (memB (setL 1073741823 (m.map L43)) x) = true) := by
 obtain ⟨a, a1, a2⟩ := refSet_is l hl; obtain ⟨va, na⟩ := refSet_facts a2; obtain ⟨b, b1, b2⟩ := refSet_is m hm; obtain ⟨vb, nb⟩ := refSet_facts b2; have ea := ends_is a na va; have eb := ends_is b nb vb; have lea := endsL_len a; have leb := endsL_len b; have hm' := merged_is (endsL a) (endsL b) (by omega) (by omega); have hp := mergeL_perm _ (endsL a) (endsL b) rfl; have hpl := hp.length_eq; obtain ⟨r, g1, g2, g3⟩ := comb_loop a b both first second (mergeL (endsL a) (endsL b)) 1073741824 (Nat.le_refl _) na nb va vb (fun y hy => hp.mem_iff.2 (List.mem_append_left _ hy)) (fun y hy => hp.mem_iff.2 (List.mem_append_right _ hy)) (mergeL_sorted _ _ _ rfl (endsL_sorted va).1 (endsL_sorted vb).1)
  (fun y hy => by
   rcases List.mem_append.1 (hp.mem_iff.1 hy) with hy | hy
   ·exact endsL_range va y hy
   ·exact endsL_range vb y hy) (by rw [hpl, List.length_append]; omega) (mergeL (endsL a) (endsL b)) [] [] [] a [] b rfl rfl rfl (fun c R _ => ⟨fun r h => (by cases h), fun r h => (by cases h)⟩) (by simp) trivial (fun x => ⟨fun h => (Mem.nil h).elim, fun h => by
    exfalso
    obtain ⟨h1, h2⟩ := h; have e : ∀ r : S43, (L43 r).1 = r.f0 ∧ (L43 r).2 = r.f1 := fun _ => ⟨rfl, rfl⟩
    have ahead : ∀ {l : List S43}, (∀ y ∈ endsL l, y ∈ mergeL (endsL a) (endsL b)) → memB (l.map L43) x = false := fun {l} he => by
     cases hx : memB (l.map L43) x
     ·rfl
     ·obtain ⟨q, hq, h3, h4⟩ := memB_iff.1 hx; obtain ⟨r, hr, rfl⟩ := List.mem_map.1 hq; have hin := he _ (endsL_mem hr).1; have hs := mergeL_sorted _ _ _ rfl (endsL_sorted va).1 (endsL_sorted vb).1; cases hc : mergeL (endsL a) (endsL b) with
      | nil => rw [hc] at hin; cases hin
      | cons c R =>
       have h5 := h2 c R hc; rw [hc] at hin hs; have h6 : c ≤ r.f0 := by
        rcases List.mem_cons.1 hin with h | h
        ·omega
        ·exact (List.pairwise_cons.1 hs).1 _ h
       rw [(e r).1] at h3; omega
    rw [ahead (fun y hy => hp.mem_iff.2 (List.mem_append_left _ hy)), ahead (fun y hy => hp.mem_iff.2 (List.mem_append_right _ hy))] at h1; simp [want] at h1⟩)
 have hn := valid_len' g2 (by omega) (by omega); refine ⟨r, Ev.bind a1 (Ev.bind b1 (Ev.bind ea (Ev.bind eb (Ev.bind hm' (by simpa using g1))))), g2, by simpa using hn, fun x => by rw [g3 x, a2, b2]⟩
end Go.Proofs.Ytoljcfocgaonpaa.PI4
end
section
namespace Go.Proofs.Ytoljcfocgaonpaa.PI4
open Go.RowKit Go.Proofs.YtoljcfocgaonpaaW.PrintWords Go.Proofs.YtoljcfocgaonpaaW.PrintLast Go.Proofs.YtoljcfocgaonpaaW.PrintMore Go.Proofs.Ytoljcfocgaonpaa.I Go.Proofs.LT
set_option linter.unusedVariables false
set_option linter.unusedSimpArgs false
theorem refHas_loop (N : Nat) (hN : N ≤ 1073741824) (x : Int) : ∀ (t pre : List S43), (pre ++ t).length ≤ N → Ev (fun k => leadtrailref04_Has.l0 k x (pre.length : Int) (pre ++ t)) (memB (t.map L43) x)
 | [], pre, _ => by
  refine evSucc ?_; simp only [leadtrailref04_Has.l0]; rw [List.append_nil]; simp only [if_neg (show ¬ ((pre.length : Nat) : Int) < ((pre.length : Nat) : Int) by omega)]; simpa [memB] using evNow false
 | r :: t, pre, hl => by
  have hlc := len_cons pre r t; have hpl : pre.length ≤ N := by simp at hl; omega
  have hw : Aside0 (wrap64 ((pre.length : Int) + 1) = (pre.length : Int) + 1) := Aside0.mk (w64 (by omega) (by omega)); have c1 : (pre.length : Int) < ((pre ++ r :: t).length : Nat) := by rw [hlc]; omega
  have c2 : (0 : Int) ≤ pre.length := by omega
  have ih := refHas_loop N hN x t (pre ++ [r]) (by rw [app_snoc]; exact hl); rw [app_snoc, snoc_len] at ih; have e : memB ((r :: t).map L43) x = ((decide (r.f0 ≤ x) && decide (x ≤ r.f1)) || memB (t.map L43) x) := by
   rw [Bool.eq_iff_iff]; simp only [List.map_cons, memB_iff, mem_cons, Bool.or_eq_true, Bool.and_eq_true, decide_eq_true_iff]; rfl
  rw [e]; refine evSucc ?_; simp only [leadtrailref04_Has.l0, if_pos c1, if_pos c2, rd43, hw.out]; by_cases d1 : x ≥ r.f0
  ·simp only [if_pos d1]; by_cases d2 : x ≤ r.f1
   ·simp only [if_pos d2]; rw [decide_eq_true (show r.f0 ≤ x from d1), decide_eq_true d2]; exact evNow _
   ·simp only [if_neg d2]; rw [decide_eq_false d2, Bool.and_false, Bool.false_or]; exact ih
  ·simp only [if_neg d1]; rw [decide_eq_false (show ¬ r.f0 ≤ x from d1), Bool.false_and, Bool.false_or]; exact ih
theorem refHas_is (l : List S43) (x : Int) (hl : l.length * 16 ≤ 140737488351232) : Ev (fun k => leadtrailref04_Has.f k l x) (memB (setL 1073741823 (l.map L43)) x) := by
 obtain ⟨s, h1, h2⟩ := refSet_is l hl; obtain ⟨hv, hn⟩ := refSet_facts h2; rw [← h2]; refine Ev.bind h1 ?_; exact refHas_loop s.length hn x s [] (by simp)
theorem refSize_loop (N : Nat) (hN : N ≤ 1073741824) : ∀ (t pre : List S43) (last acc : Int), (pre ++ t).length ≤ N → ValidFrom 1073741823 last (t.map L43) → 0 ≤ acc → acc + size (t.map L43) ≤ 4294967296 →
 Ev (fun k => leadtrailref04_Size.l0 k acc (pre.length : Int) (pre ++ t)) (acc + size (t.map L43))
 | [], pre, last, acc, _, _, _, _ => by
  refine evSucc ?_; simp only [leadtrailref04_Size.l0]; rw [List.append_nil]; simp only [if_neg (show ¬ ((pre.length : Nat) : Int) < ((pre.length : Nat) : Int) by omega)]; simpa [size_nil] using evNow acc
 | r :: t, pre, last, acc, hl, hv, h0, h1 => by
  have hlc := len_cons pre r t; have hs := size_nonneg hv.2.2.2.2; have e1 : size ((r :: t).map L43) = (r.f1 - r.f0 + 1) + size (t.map L43) := size_cons _ _; have v0 : 0 ≤ r.f0 := hv.1; have v1 : r.f0 ≤ r.f1 := hv.2.1; have v2 : r.f1 ≤ 1073741823 := hv.2.2.1; have ih := refSize_loop N hN t (pre ++ [r]) r.f1 (acc + (r.f1 - r.f0 + 1)) (by rw [app_snoc]; exact hl) hv.2.2.2.2 (by omega) (by omega); rw [app_snoc, snoc_len] at ih; refine evSucc ?_; have hw : Aside0 (wrap64 ((pre.length : Int) + 1) = (pre.length : Int) + 1) := Aside0.mk (w64 (by omega) (by simp at hl; omega)); have c1 : (pre.length : Int) < ((pre ++ r :: t).length : Nat) := by rw [hlc]; omega
  have c2 : (0 : Int) ≤ pre.length := by omega
  have w1 : Aside0 (wrap64 (r.f1 - r.f0) = r.f1 - r.f0) := Aside0.mk (w64 (by omega) (by omega)); have w2 : Aside0 (wrap64 (r.f1 - r.f0 + 1) = r.f1 - r.f0 + 1) := Aside0.mk (w64 (by omega) (by omega)); have w3 : Aside0 (wrap64 (acc + (r.f1 - r.f0 + 1)) = acc + (r.f1 - r.f0 + 1)) := Aside0.mk (w64 (by omega) (by omega)); simp only [leadtrailref04_Size.l0, if_pos c1, if_pos c2, rd43, hw.out, w1.out, w2.out, w3.out]; have e2 : acc + size ((r :: t).map L43) = acc + (r.f1 - r.f0 + 1) + size (t.map L43) := by omega
  rw [e2]; exact ih
theorem refSize_is (l : List S43) (hl : l.length * 16 ≤ 140737488351232) : Ev (fun k => leadtrailref04_Size.f k l) (size (setL 1073741823 (l.map L43))) := by
 obtain ⟨s, h1, h2⟩ := refSet_is l hl; obtain ⟨hv, hn⟩ := refSet_facts h2; rw [← h2]; refine Ev.bind h1 ?_; have h := refSize_loop s.length hn s [] (-2) 0 (by simp) hv (by omega) (by have := valid_top hv (by omega); omega); simpa using h
end Go.Proofs.Ytoljcfocgaonpaa.PI4
end
section
namespace Go.Proofs.Ytoljcfocgaonpaa.PI4
open Go.RowKit Go.Proofs.YtoljcfocgaonpaaW.PrintWords Go.Proofs.YtoljcfocgaonpaaW.PrintLast Go.Proofs.YtoljcfocgaonpaaW.PrintMore Go.Proofs.Ytoljcfocgaonpaa.I Go.Proofs.LT
set_option linter.unusedVariables false
set_option linter.unusedSimpArgs false
theorem refSelect_loop (N : Nat) (hN : N ≤ 1073741824) (x : Int) (hx : x ≤ 9223372036854775807) (hx0 : -9223372036854775808 ≤ x) : ∀ (t pre : List S43) (last acc : Int), (pre ++ t).length ≤ N → ValidFrom 1073741823 last (t.map L43) → 0 ≤ acc → acc + size (t.map L43) ≤ 4294967296 → (0 ≤ x → acc ≤ x) →
 ∃ r, Ev (fun k => leadtrailref04_Select.l0 k x acc (pre.length : Int) (pre ++ t)) r ∧ Sel (t.map L43) (x - acc) r
 | [], pre, last, acc, _, _, h0, _, hk => by
  refine ⟨(0, false), evSucc ?_, .inr ⟨?_, rfl⟩⟩
  ·simp only [leadtrailref04_Select.l0]; rw [List.append_nil]; simp only [if_neg (show ¬ ((pre.length : Nat) : Int) < ((pre.length : Nat) : Int) by omega)]; exact evNow _
  ·rw [List.map_nil, size_nil]; omega
 | r :: t, pre, last, acc, hl, hv, h0, h1, hk => by
  have hlc := len_cons pre r t; have hs := size_nonneg hv.2.2.2.2; have e1 : size ((r :: t).map L43) = (r.f1 - r.f0 + 1) + size (t.map L43) := size_cons _ _; have v0 : 0 ≤ r.f0 := hv.1; have v1 : r.f0 ≤ r.f1 := hv.2.1; have v2 : r.f1 ≤ 1073741823 := hv.2.2.1; have hm : (L43 r).1 = r.f0 ∧ (L43 r).2 = r.f1 := ⟨rfl, rfl⟩; have hw : Aside0 (wrap64 ((pre.length : Int) + 1) = (pre.length : Int) + 1) := Aside0.mk (w64 (by omega) (by simp at hl; omega)); have c1 : (pre.length : Int) < ((pre ++ r :: t).length : Nat) := by rw [hlc]; omega
  have c2 : (0 : Int) ≤ pre.length := by omega
  have w1 : Aside0 (wrap64 (r.f1 - r.f0) = r.f1 - r.f0) := Aside0.mk (w64 (by omega) (by omega)); have w2 : Aside0 (wrap64 (r.f1 - r.f0 + 1) = r.f1 - r.f0 + 1) := Aside0.mk (w64 (by omega) (by omega)); have w3 : Aside0 (wrap64 (acc + (r.f1 - r.f0 + 1)) = acc + (r.f1 - r.f0 + 1)) := Aside0.mk (w64 (by omega) (by omega)); by_cases d1 : x ≥ acc
  ·have w4 : Aside0 (wrap64 (x - acc) = x - acc) := Aside0.mk (w64 (by omega) (by omega)); by_cases d2 : x - acc < r.f1 - r.f0 + 1
   ·have w5 : Aside0 (wrap64 (r.f0 + x) = r.f0 + x) := Aside0.mk (w64 (by omega) (by omega)); have w6 : Aside0 (wrap64 (r.f0 + x - acc) = r.f0 + x - acc) := Aside0.mk (w64 (by omega) (by omega)); refine ⟨(r.f0 + x - acc, true), evSucc ?_, .inl ⟨r.f0 + x - acc, mem_cons.2 (.inl ⟨by simp only [hm.1]; omega, by simp only [hm.2]; omega⟩), ?_, rfl⟩⟩
    ·simp only [leadtrailref04_Select.l0, if_pos c1, if_pos c2, rd43, hw.out, w1.out, w2.out, w3.out, w4.out, w5.out, w6.out, if_pos d1, if_pos d2]; exact evNow _
    ·have hc := cd_in_first (x := r.f0 + x - acc) (show ValidFrom 1073741823 last (L43 r :: t.map L43) from hv) (by simp only [hm.1]; omega) (by simp only [hm.2]; omega); rw [List.map_cons, hc, hm.1]; omega
   ·obtain ⟨q, hq, hs2⟩ := refSelect_loop N hN x hx hx0 t (pre ++ [r]) r.f1 (acc + (r.f1 - r.f0 + 1)) (by rw [app_snoc]; exact hl) hv.2.2.2.2 (by omega) (by omega) (by omega); rw [app_snoc, snoc_len] at hq; refine ⟨q, evSucc ?_, ?_⟩
    ·simp only [leadtrailref04_Select.l0, if_pos c1, if_pos c2, rd43, hw.out, w1.out, w2.out, w3.out, w4.out, if_pos d1, if_neg d2]; exact hq
    ·rcases hs2 with ⟨y, hy, hk2, rfl⟩ | ⟨hk2, rfl⟩
     ·have hg := ValidFrom.gt hv.2.2.2.2 hy; refine .inl ⟨y, mem_cons.2 (.inr hy), ?_, rfl⟩; have hc := cd_past_first (x := y) (show ValidFrom 1073741823 last (L43 r :: t.map L43) from hv) (by simp only [hm.2]; omega); rw [List.map_cons, hc, hm.1, hm.2]; omega
     ·refine .inr ⟨?_, rfl⟩; rw [e1]; omega
  ·have hxn : x < 0 := by omega
   obtain ⟨q, hq, hs2⟩ := refSelect_loop N hN x hx hx0 t (pre ++ [r]) r.f1 (acc + (r.f1 - r.f0 + 1)) (by rw [app_snoc]; exact hl) hv.2.2.2.2 (by omega) (by omega) (by omega); rw [app_snoc, snoc_len] at hq; have hq0 : q = (0, false) := by
    rcases hs2 with ⟨y, hy, hk2, rfl⟩ | ⟨hk2, rfl⟩
    ·omega
    ·rfl
   refine ⟨q, evSucc ?_, .inr ⟨.inl (by omega), hq0⟩⟩; simp only [leadtrailref04_Select.l0, if_pos c1, if_pos c2, rd43, hw.out, w1.out, w2.out, w3.out, if_neg d1]; exact hq
theorem refSelect_is (l : List S43) (x : Int) (hx : (Lit.int .i64 x).wf = true) (hl : l.length * 16 ≤ 140737488351232) : ∃ r, Ev (fun k => leadtrailref04_Select.f k l x) r ∧ Sel (setL 1073741823 (l.map L43)) x r := by
 obtain ⟨s, h1, h2⟩ := refSet_is l hl; obtain ⟨hv, hn⟩ := refSet_facts h2; rw [← h2]; have hb := bounds_i64 hx; obtain ⟨r, g1, g2⟩ := refSelect_loop s.length hn x hb.2 hb.1 s [] (-2) 0 (by simp) hv (by omega) (by have := valid_top hv (by omega); omega) (by omega); exact ⟨r, Ev.bind h1 (by simpa using g1), by simpa using g2⟩
theorem cd_above (p : Int → Bool) (m : Nat) : ∀ n : Nat, m ≤ n → (∀ i : Int, (m : Int) ≤ i → p i = false) → cd p n = cd p m
 | 0, h, _ => by rw [show m = 0 by omega]
 | n + 1, h, hp => by
  by_cases e : m = n + 1
  ·rw [e]
  ·rw [cd_succ, hp (n : Int) (by omega), cd_above p m n (by omega) hp]; simp
theorem refRank_is (l : List S43) (x : Int) (hl : l.length * 16 ≤ 140737488351232) : Ev (fun k => leadtrailref04_Rank.f k l x) (rankL (setL 1073741823 (l.map L43)) x) := by
 have hh := refHas_is l x hl; have hv := setL_valid 1073741823 (l.map L43); refine Ev.bind hh ?_; unfold rankL; by_cases d : memB (setL 1073741823 (l.map L43)) x = true
 ·rw [d]; simp only [if_true]; have hr := hv.range (memB_iff.1 d); obtain ⟨r, g1, g2⟩ := comb_is l [⟨0, x⟩] hl (by simp) true false false; have lr : r.length * 16 ≤ 140737488351232 := by have := g2.2.1; omega
  have hz := refSize_is r lr; rw [setL_of g2.1] at hz; have e1 : setL 1073741823 (([⟨0, x⟩] : List S43).map L43) = [(0, x)] := setL_of (show ValidFrom 1073741823 (-2) [(0, x)] from ⟨by omega, hr.1, hr.2, by omega, trivial⟩); have e2 : ∀ i : Int, 0 ≤ i → memB (r.map L43) i = (memB (setL 1073741823 (l.map L43)) i && decide (i ≤ x)) := fun i hi => by
   rw [Bool.eq_iff_iff, memB_iff, g2.2.2 i, e1]; have e3 : memB [(0, x)] i = decide (i ≤ x) := by
    rw [Bool.eq_iff_iff, memB_iff, mem_cons, decide_eq_true_iff]; exact ⟨fun h => by rcases h with h | h; exact h.2; exact (Mem.nil h).elim, fun h => .inl ⟨hi, h⟩⟩
   show want true false false (memB (setL 1073741823 (l.map L43)) i) (memB [(0, x)] i) = true ↔ _; rw [e3]; cases memB (setL 1073741823 (l.map L43)) i <;> cases decide (i ≤ x) <;> simp [want]
  have ex : ((x.toNat : Nat) : Int) = x := Int.toNat_of_nonneg hr.1; have hc : size (r.map L43) = (cd (memB (setL 1073741823 (l.map L43))) x.toNat : Int) + 1 := by
   rw [← cd_size (n := 1073741824) g2.1 (by omega)]; rw [cd_above (memB (r.map L43)) (x.toNat + 1) 1073741824 (by omega) (fun i hi => by
    rw [e2 i (by omega), decide_eq_false (by omega), Bool.and_false])]
   rw [cd_succ]; rw [cd_congr (p := memB (r.map L43)) (q := memB (setL 1073741823 (l.map L43))) (n := x.toNat) (fun i h0 h1 => by
    rw [e2 i h0, decide_eq_true (by omega), Bool.and_true])]
   rw [ex, e2 x hr.1, d]; simp
  refine Ev.bind (Ev.bind g1 (evNow _)) (Ev.bind hz ?_); have hw : wrap64 (size (r.map L43) - 1) = (cd (memB (setL 1073741823 (l.map L43))) x.toNat : Int) := by
   have := valid_top g2.1 (by omega); have := size_nonneg g2.1; rw [w64 (by omega) (by omega)]; omega
  rw [hw]; exact evNow _
 ·have d' : memB (setL 1073741823 (l.map L43)) x = false := by simpa using d
  rw [d']; simp only [Bool.false_eq_true, if_false]; exact evNow _
end Go.Proofs.Ytoljcfocgaonpaa.PI4
end
section
namespace Go.Proofs.Ytoljcfocgaonpaa.PI4
open Go.RowKit Go.Proofs.YtoljcfocgaonpaaW.PrintWords Go.Proofs.YtoljcfocgaonpaaW.PrintLast Go.Proofs.YtoljcfocgaonpaaW.PrintMore Go.Proofs.Ytoljcfocgaonpaa.I Go.Proofs.LT
set_option linter.unusedVariables false
set_option linter.unusedSimpArgs false
theorem fixed04 : Ev (fun k => leadtraillaw04_fixed.f k) true := by
 have h1 := (scalars_Norm_is ([⟨1000, 1009⟩, ⟨0, 99⟩, ⟨100, 127⟩] : List S43) (by decide)).2 (by decide); obtain ⟨r, h1, h2⟩ := h1; have hv : ValidFrom 1073741823 (-2) [(0, 127), (1000, 1009)] := (validB_iff _ _ _).1 (by decide +kernel); have hr : r = [⟨0, 127⟩, ⟨1000, 1009⟩] := by
  refine scalars_IsSet.uniq (b := [⟨0, 127⟩, ⟨1000, 1009⟩]) (q := fun x => Mem [(0, 127), (1000, 1009)] x) h2 ⟨hv, by decide, fun x => Iff.rfl⟩ fun x => ?_
  show Mem [(1000, 1009), (0, 99), (100, 127)] x ↔ Mem [(0, 127), (1000, 1009)] x; simp only [mem_cons]; constructor
  ·rintro (h | h | h | h) <;> first | exact .inl (by omega) | exact .inr (.inl (by omega)) | exact (Mem.nil h).elim
  ·rintro (h | h | h)
   ·by_cases e : x ≤ 99
    ·exact .inr (.inl (by omega))
    ·exact .inr (.inr (.inl (by omega)))
   ·exact .inl (by omega)
   ·exact (Mem.nil h).elim
 subst hr; have hs : setL 1073741823 (([⟨0, 127⟩, ⟨1000, 1009⟩] : List S43).map L43) = [(0, 127), (1000, 1009)] := setL_of hv; obtain ⟨q, h3, h4⟩ := scalars_Select_is ([⟨0, 127⟩, ⟨1000, 1009⟩] : List S43) 137 (by decide) (by decide); rw [hs] at h4; have hq : q = (1009, true) := Sel.uniq hv h4 (.inl ⟨1009, memB_iff.1 (by decide +kernel), by decide +kernel, rfl⟩); subst hq; have h5 := scalars_Size_is ([⟨0, 127⟩, ⟨1000, 1009⟩] : List S43) (by decide); rw [hs, show size [(0, 127), (1000, 1009)] = 138 from by decide +kernel] at h5; simp only [leadtraillaw04_fixed.f]; refine Ev.bind h1 (Ev.bind h3 ?_); simp [rd_T43]; exact Ev.bind h5 (evNow _)
theorem copied04 (l : List S43) (hl : l.length * 16 ≤ 140737488351232) : leadtraillaw04_copied.f l = some l := by
 unfold leadtraillaw04_copied.f; simp only [Option.bind_some, List.length_nil, Nat.zero_add, List.nil_append]; rw [if_pos (by omega)]
end Go.Proofs.Ytoljcfocgaonpaa.PI4
end
section
namespace Go.Proofs.Ytoljcfocgaonpaa.PI4
open Go.RowKit Go.Proofs.YtoljcfocgaonpaaW.PrintWords Go.Proofs.YtoljcfocgaonpaaW.PrintLast Go.Proofs.YtoljcfocgaonpaaW.PrintMore Go.Proofs.Ytoljcfocgaonpaa.I Go.Proofs.LT
set_option linter.unusedVariables false
set_option linter.unusedSimpArgs false
theorem allMeet_is (l m : List S43) (hl : l.length * 16 ≤ 140737488351232) (hm : m.length * 16 ≤ 140737488351232) : ∃ r, Ev (fun k => leadtrailref04_Meet.f k l m) r ∧ scalars_IsSet r (fun x => Mem (setL 1073741823 (l.map L43)) x ∧ Mem (setL 1073741823 (m.map L43)) x) := by
 obtain ⟨r, r1, r2⟩ := comb_is l m hl hm true false false; have wan : ∀ (bo fi se A B : Bool), (want bo fi se A B = true) = ((A = true ∧ B = true ∧ bo = true) ∨ (A = true ∧ B = false ∧ fi = true) ∨ (A = false ∧ B = true ∧ se = true)) := by decide
 refine ⟨r, Ev.bind r1 (evNow _), r2.1, r2.2.1, fun x => ?_⟩; rw [r2.2.2 x]; show (want _ _ _ _ _ = true) ↔ (Mem _ x ∧ Mem _ x); rw [wan]; simp [memB_iff]
theorem allSel_is (l : List S43) (x : Int) (h0 : 0 ≤ x) (h1 : x ≤ 4611686018427387904) (hl : l.length * 16 ≤ 140737488351232) : ∃ r, Ev (fun k => leadtrailref04_Select.f k l x) r ∧ Sel (setL 1073741823 (l.map L43)) x r := by
 have e0 : IntKind.i64.min = -9223372036854775808 := by decide
 have e1 : IntKind.i64.max = 9223372036854775807 := by decide
 exact refSelect_is l x (by simp only [Lit.wf, e0, e1]; simp; omega) hl
theorem memI_R (l : List S133) (fr : Int) : memI l fr = memR (l.map L133) fr := by
 unfold memI memR; rw [List.flatMap_map]; rfl
theorem setOne (lo x : Int) (h0 : 0 ≤ lo) : Mem (setL 1073741823 (([⟨lo, 1073741823⟩] : List S43).map L43)) x ↔ lo ≤ x ∧ x ≤ 1073741823 := by
 show Mem (setL 1073741823 [(lo, 1073741823)]) x ↔ _; by_cases h : lo ≤ 1073741823
 ·rw [setL_of (show ValidFrom 1073741823 (-2) [(lo, 1073741823)] from ⟨h0, h, Int.le_refl _, by show (-2 : Int) < lo - 1; omega, trivial⟩), mem_cons]; exact ⟨fun h => by rcases h with h | h; exact h; exact (Mem.nil h).elim, fun h => .inl h⟩
 ·constructor
  ·intro hm; have hv := setL_valid 1073741823 [(lo, 1073741823)]; unfold setL at hm; split at hm
   ·next hb => have := ((validB_iff _ _ _).1 hb).2.1; simp only at this; omega
   ·exact (Mem.nil hm).elim
  ·intro hm; omega
theorem leadtraillaw04_ScalarsAll_ev (l : List S43) (fr early : Int) (hl : l.length * 16 ≤ 140737488351232) : ∃ k, leadtraillaw04_ScalarsAll.Good k l fr early := by
 obtain ⟨s, s1, s2⟩ := scalars_set_is l hl; obtain ⟨hv, hn⟩ := scalars_set_facts s2; have hsv := setL_valid 1073741823 (l.map L43); obtain ⟨m, m1, m2⟩ := allMeet_is l [⟨max fr 0, 1073741823⟩] hl (by simp); have hml : m.length * 16 ≤ 140737488351232 := by have := m2.2.1; omega
 have z1 := refSize_is m hml; rw [setL_of m2.1] at z1; have hsz : ((memI s fr).length : Int) = size (m.map L43) := by
  rw [memI_R, s2]; refine memR_len (top := 1073741823) (by omega) hsv m2.1 fun x => ?_
  rw [m2.2.2]; show (Mem _ x ∧ Mem _ x) ↔ _; rw [setOne (max fr 0) x (by omega)]; constructor
  ·rintro ⟨h1, h2, h3⟩; exact ⟨h1, by omega⟩
  ·rintro ⟨h1, h2⟩; have := hsv.range h1; exact ⟨h1, by omega, by omega⟩
 have hnb : (memI s fr).length ≤ 4611686018427387904 := by
  have := size_le m2.1 (by omega); omega
 obtain ⟨K0, f0⟩ := fixed04; obtain ⟨K1, f1⟩ := s1; obtain ⟨K2, f2⟩ := m1; obtain ⟨K3, f3⟩ := z1; let K := max (max K0 K1) (max K2 K3)
 have hsel : ∀ x : Int, ∃ r : Int × Bool, 0 ≤ x → x ≤ 4611686018427387904 → (∃ k, leadtrailref04_Select.f k l x = some r) ∧ Sel (setL 1073741823 (l.map L43)) x r := fun x => by
  by_cases h : 0 ≤ x ∧ x ≤ 4611686018427387904
  ·obtain ⟨r, r1, r2⟩ := allSel_is l x h.1 h.2 hl; exact ⟨r, fun _ _ => ⟨Ev.rounds r1, r2⟩⟩
  ·exact ⟨(0, false), fun h0 h1 => absurd ⟨h0, h1⟩ h⟩
 refine ⟨K, s, m, fun x => memB (setL 1073741823 (l.map L43)) x, fun x => rankL (setL 1073741823 (l.map L43)) x, fun x => (hsel x).choose, f0 K (by omega), copied04 l hl, f1 K (by omega), by omega, ?_, fun x => Ev.rounds (refHas_is l x hl), fun x => Ev.rounds (refRank_is l x hl), ?_, fun x h0 h1 => ((hsel x).choose_spec h0 h1).1, f2 K (by omega), ?_, hnb, ?_⟩
 ·intro r hr; have := hv.each (L133 r) (List.mem_map_of_mem hr); simp only [L133] at this; omega
 ·intro x; have hz := size_le hsv (by omega); have hc := cd_size (n := 1073741823 + 1) hsv (by omega); show 0 ≤ (rankL _ x).1 ∧ (rankL _ x).1 ≤ _; unfold rankL; split
  ·next hb =>
   have hr := hsv.range (memB_iff.1 hb); have := cd_mono (memB (setL 1073741823 (l.map L43))) (show x.toNat ≤ 1073741823 + 1 by omega); simp only; omega
  ·simp
 ·rw [hsz]; exact f3 K (by omega)
 ·intro pre x hp; rw [memI_R, s2] at hp; have hm : Mem (setL 1073741823 (l.map L43)) x ∧ fr ≤ x := memR_mem.1 (hp.subset (by simp)); have hb : memB (setL 1073741823 (l.map L43)) x = true := memB_iff.2 hm.1; have hrk : rankL (setL 1073741823 (l.map L43)) x = ((cd (memB (setL 1073741823 (l.map L43))) x.toNat : Int), true) := by unfold rankL; rw [if_pos hb]
  refine ⟨hb, hm.2, fun hne => ?_, fun he h0 => ?_⟩
  ·obtain ⟨i, y, rfl⟩ : ∃ i y, pre = i ++ [y] := ⟨pre.dropLast, pre.getLast hne, (List.dropLast_concat_getLast hne).symm⟩
   have hla : lastI (i ++ [y]) = y := by simp [lastI]
   obtain ⟨n1, n2⟩ := memR_next hsv hp; have hmy : Mem (setL 1073741823 (l.map L43)) y ∧ fr ≤ y := memR_mem.1 (hp.subset (by simp)); have hby : memB (setL 1073741823 (l.map L43)) y = true := memB_iff.2 hmy.1; rw [hla]; refine ⟨n1, ?_⟩; show (rankL _ x).1 = (rankL _ y).1 + 1; rw [hrk]; unfold rankL; rw [if_pos hby]; simp only; omega
  ·subst he; simp only [List.nil_append] at hp; have h0' : 0 < (rankL (setL 1073741823 (l.map L43)) x).1 := h0; have hle : (rankL (setL 1073741823 (l.map L43)) x).1 ≤ 4611686018427387904 := by
    have hr := hsv.range hm.1; have := cd_le (memB (setL 1073741823 (l.map L43))) x.toNat; rw [hrk]; simp only; omega
   have h1 := ((hsel ((rankL (setL 1073741823 (l.map L43)) x).1 - 1)).choose_spec (by omega) (by omega)).2; have e1 : (rankL (setL 1073741823 (l.map L43)) x).1 = (cd (memB (setL 1073741823 (l.map L43))) x.toNat : Int) := by rw [hrk]
   show ((hsel ((rankL (setL 1073741823 (l.map L43)) x).1 - 1)).choose).1 < fr; rcases h1 with ⟨y, hy, hc, e⟩ | ⟨h2, e⟩
   ·rw [e]; show y < fr; exact memR_first hsv hp hy (by omega)
   ·exfalso
    have hr := hsv.range hm.1; have h3 := cd_lt (memB (setL 1073741823 (l.map L43))) (show x.toNat < 1073741823 + 1 by omega) (by rw [show ((x.toNat : Nat) : Int) = x by omega]; exact hb); have h4 := cd_size (n := 1073741823 + 1) hsv (by omega); omega
end Go.Proofs.Ytoljcfocgaonpaa.PI4
namespace Go.Proofs.Ytoljcfocgaonpaa.Pure
open Go.Proofs.Ytoljcfocgaonpaa.I Go.Proofs.YtoljcfocgaonpaaW.PrintWords
theorem ScalarsAll : ∀ (l0 : List S43) (a1 : Int) (a2 : Int), (l0.length * 16 ≤ 140737488351232 ∧ ∀ x ∈ l0, ((Lit.int .i64 x.f0).wf = true ∧ (Lit.int .i64 x.f1).wf = true)) → (Lit.int .i64 a1).wf = true → (Lit.int .i64 a2).wf = true → ∃ k, leadtraillaw04_ScalarsAll.f k l0 a1 a2 = some true :=
 fun l0 a1 a2 h h1 h2 => by
  obtain ⟨k, hk⟩ := PI4.leadtraillaw04_ScalarsAll_ev l0 a1 a2 h.1; refine ⟨k, ?_⟩; unfold leadtraillaw04_ScalarsAll.f; rw [if_pos hk]
end Go.Proofs.Ytoljcfocgaonpaa.Pure
end
