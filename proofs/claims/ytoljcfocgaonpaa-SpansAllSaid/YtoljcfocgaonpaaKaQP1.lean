/- Words and laws of this claim, of 5 texts. -/
import Derived.Test.YtoljcfocgaonpaaKaIx0
import Derived.Test.YtoljcfocgaonpaaKaIx3
import Derived.Test.YtoljcfocgaonpaaKaIx4
import Derived.Test.YtoljcfocgaonpaaKaIx5
import Derived.Test.YtoljcfocgaonpaaKaQW0
import Derived.OpenShut
import Derived.Test.YtoljcfocgaonpaaKaIx6
import Derived.Test.YtoljcfocgaonpaaKaIx7
import Derived.Test.YtoljcfocgaonpaaKaQP0
section
namespace Go.Proofs.Ytoljcfocgaonpaa.PI3
open Go.RowKit Go.Proofs.YtoljcfocgaonpaaW.PrintWords Go.Proofs.YtoljcfocgaonpaaW.PrintLast Go.Proofs.YtoljcfocgaonpaaW.PrintMore Go.Proofs.Ytoljcfocgaonpaa.I Go.Proofs.LT
set_option linter.unusedVariables false
set_option linter.unusedSimpArgs false
theorem evSucc {α : Type} {g : Nat → Option α} {r : α} (h : Ev (fun k => g (k + 1)) r) : Ev g r := Ev.step (fun _ => rfl) h
theorem evNow {α : Type} (r : α) : Ev (fun _ => some r) r := Ev.now r
theorem w64 {x : Int} (h0 : -9223372036854775808 ≤ x) (h1 : x ≤ 9223372036854775807) : wrap64 x = x := by unfold wrap64; omega
def L133 (x : S133) : Run := (x.f0, x.f1)
def L34 (x : S34) : Run := (x.f0, x.f1)
theorem L34_inj : ∀ {a b : List S34}, a.map L34 = b.map L34 → a = b
 | [], [], _ => rfl
 | [], _ :: _, h => by simp at h
 | _ :: _, [], h => by simp at h
 | ⟨_, _⟩ :: t, ⟨_, _⟩ :: t', h => by
  simp only [List.map_cons, List.cons.injEq, L34, Prod.mk.injEq] at h; obtain ⟨⟨rfl, rfl⟩, h⟩ := h; rw [L34_inj h]
theorem rd133 (pre : List S133) (r : S133) (t : List S133) : rd_T133 (pre ++ r :: t) (pre.length : Int) = r := by simp [rd_T133]
theorem rd34 (pre : List S34) (r : S34) (t : List S34) : rd_T34 (pre ++ r :: t) (pre.length : Int) = r := by simp [rd_T34]
theorem snoc_len {α : Type} (pre : List α) (r : α) : (((pre ++ [r]).length : Nat) : Int) = (pre.length : Int) + 1 := by simp
theorem app_snoc {α : Type} (pre : List α) (r : α) (t : List α) : (pre ++ [r]) ++ t = pre ++ r :: t := by simp
theorem len_cons {α : Type} (pre : List α) (r : α) (t : List α) : (((pre ++ r :: t).length : Nat) : Int) = pre.length + 1 + t.length := by simp; omega
def api_Span_c (x : S34) : S133 := ⟨x.f0, x.f1⟩
theorem api_Span_loop (N : Nat) (hN : N ≤ 8796093022206) : ∀ (t pre : List S34) (out : List S133), (pre ++ t).length ≤ N → out.length = pre.length → Ev (fun k => api_Span.l0 k out (pre ++ t) (((pre ++ t).length : Nat) : Int) (pre.length : Int)) (out ++ t.map api_Span_c)
 | [], pre, out, _, _ => by
  refine evSucc ?_; simp only [api_Span.l0]; rw [List.append_nil]; simp only [if_neg (show ¬ ((pre.length : Nat) : Int) < ((pre.length : Nat) : Int) by omega)]; simpa using evNow out
 | r :: t, pre, out, hl, ho => by
  have hlc := len_cons pre r t; have hlt : out.length < 8796093022208 := by simp at hl; omega
  have ih := api_Span_loop N hN t (pre ++ [r]) (out ++ [api_Span_c r]) (by rw [app_snoc]; exact hl) (by simp [ho]); rw [app_snoc, snoc_len] at ih; refine evSucc ?_; have hw : Aside0 (wrap64 ((pre.length : Int) + 1) = (pre.length : Int) + 1) := Aside0.mk (w64 (by omega) (by simp at hl; omega)); have c1 : (pre.length : Int) < ((pre ++ r :: t).length : Nat) := by rw [hlc]; omega
  have c2 : (0 : Int) ≤ pre.length := by omega
  simp only [api_Span.l0, if_pos c1, if_pos c2, if_pos hlt, rd34, hw.out]; simpa [api_Span_c] using ih
theorem api_Span_is (l : List S34) (hl : l.length * 16 ≤ 140737488351232) : Ev (fun k => api_Span.f k l) (l.map api_Span_c) := by
 have h := api_Span_loop l.length (by omega) l [] [] (by simp) rfl; have c1 : (0 : Int) ≤ (l.length : Int) := by omega
 have c2 : ((l.length : Int) : Int).toNat ≤ 17592186044416 := by omega
 simp only [api_Span.f, if_pos c1, if_pos c2]; simpa using h
theorem api_Span_len (l : List S34) : (l.map api_Span_c).map L133 = l.map L34 := by rw [List.map_map]; rfl
def sets_Run_132_c (x : S133) : S34 := ⟨x.f0, x.f1⟩
theorem sets_Run_132_loop (N : Nat) (hN : N ≤ 8796093022206) : ∀ (t pre : List S133) (out : List S34), (pre ++ t).length ≤ N → out.length = pre.length → Ev (fun k => sets_Run_132.l0 k out (pre ++ t) (((pre ++ t).length : Nat) : Int) (pre.length : Int)) (out ++ t.map sets_Run_132_c)
 | [], pre, out, _, _ => by
  refine evSucc ?_; simp only [sets_Run_132.l0]; rw [List.append_nil]; simp only [if_neg (show ¬ ((pre.length : Nat) : Int) < ((pre.length : Nat) : Int) by omega)]; simpa using evNow out
 | r :: t, pre, out, hl, ho => by
  have hlc := len_cons pre r t; have hlt : out.length < 8796093022208 := by simp at hl; omega
  have ih := sets_Run_132_loop N hN t (pre ++ [r]) (out ++ [sets_Run_132_c r]) (by rw [app_snoc]; exact hl) (by simp [ho]); rw [app_snoc, snoc_len] at ih; refine evSucc ?_; have hw : Aside0 (wrap64 ((pre.length : Int) + 1) = (pre.length : Int) + 1) := Aside0.mk (w64 (by omega) (by simp at hl; omega)); have c1 : (pre.length : Int) < ((pre ++ r :: t).length : Nat) := by rw [hlc]; omega
  have c2 : (0 : Int) ≤ pre.length := by omega
  simp only [sets_Run_132.l0, if_pos c1, if_pos c2, if_pos hlt, rd133, hw.out]; simpa [sets_Run_132_c] using ih
theorem sets_Run_132_is (l : List S133) (hl : l.length * 16 ≤ 140737488351232) : Ev (fun k => sets_Run_132.f k l) (l.map sets_Run_132_c) := by
 have h := sets_Run_132_loop l.length (by omega) l [] [] (by simp) rfl; have c1 : (0 : Int) ≤ (l.length : Int) := by omega
 have c2 : ((l.length : Int) : Int).toNat ≤ 17592186044416 := by omega
 simp only [sets_Run_132.f, if_pos c1, if_pos c2]; simpa using h
theorem sets_Run_132_len (l : List S133) : (l.map sets_Run_132_c).map L34 = l.map L133 := by rw [List.map_map]; rfl
theorem valid_loop (N : Nat) (hN : N ≤ 8796093022206) (top : Int) (ht : top ≤ 1073741823) : ∀ (t pre : List S133) (last : Int), (pre ++ t).length ≤ N → Ev (fun k => sets_Valid.l0 k top last (pre ++ t) (((pre ++ t).length : Nat) : Int) (pre.length : Int)) (validB top last (t.map L133))
 | [], pre, last, _ => by
  refine evSucc ?_; simp only [sets_Valid.l0]; rw [List.append_nil]; simp only [if_neg (show ¬ ((pre.length : Nat) : Int) < ((pre.length : Nat) : Int) by omega)]; rw [show validB top last (([] : List S133).map L133) = true from validB_nil _ _]; exact evNow _
 | r :: t, pre, last, hl => by
  have hlc := len_cons pre r t; have ih := valid_loop N hN top ht t (pre ++ [r]) r.f1 (by rw [app_snoc]; exact hl); rw [app_snoc, snoc_len] at ih; refine evSucc ?_; have hw : Aside0 (wrap64 ((pre.length : Int) + 1) = (pre.length : Int) + 1) := Aside0.mk (w64 (by omega) (by simp at hl; omega)); have c1 : (pre.length : Int) < ((pre ++ r :: t).length : Nat) := by rw [hlc]; omega
  have c2 : (0 : Int) ≤ pre.length := by omega
  simp only [sets_Valid.l0, if_pos c1, if_pos c2, rd133, hw.out, List.map_cons, validB_cons, L133]; by_cases d1 : r.f0 < 0
  ·simp only [if_pos d1]; exact evNow _
  by_cases d2 : r.f0 > r.f1
  ·simp only [if_neg d1, if_pos d2]; exact evNow _
  by_cases d3 : r.f1 > top
  ·simp only [if_neg d1, if_neg d2, if_pos d3]; exact evNow _
  have hw2 : Aside0 (wrap64 (r.f0 - 1) = r.f0 - 1) := Aside0.mk (w64 (by omega) (by omega)); simp only [if_neg d1, if_neg d2, if_neg d3, hw2.out]; by_cases d4 : r.f0 - 1 ≤ last
  ·simp only [if_pos d4]; exact evNow _
  ·simp only [if_neg d4]; exact ih
theorem valid_is (top : Int) (ht : top ≤ 1073741823) (l : List S133) (hl : l.length ≤ 8796093022206) : Ev (fun k => sets_Valid.f k l top) (validB top (-2) (l.map L133)) := by
 have h := valid_loop l.length hl top ht l [] (-2) (by simp); simpa [sets_Valid.f] using h
theorem size_loop (N : Nat) (hN : N ≤ 8796093022206) (top : Int) (ht : top ≤ 1073741823) : ∀ (t pre : List S133) (last acc : Int), (pre ++ t).length ≤ N → ValidFrom top last (t.map L133) → 0 ≤ acc → acc + size (t.map L133) ≤ 4294967296 →
 Ev (fun k => sets_Size.l0 k acc (pre ++ t) (((pre ++ t).length : Nat) : Int) (pre.length : Int)) (acc + size (t.map L133))
 | [], pre, last, acc, _, _, _, _ => by
  refine evSucc ?_; simp only [sets_Size.l0]; rw [List.append_nil]; simp only [if_neg (show ¬ ((pre.length : Nat) : Int) < ((pre.length : Nat) : Int) by omega)]; simpa [size_nil] using evNow acc
 | r :: t, pre, last, acc, hl, hv, h0, h1 => by
  have hlc := len_cons pre r t; have hs := size_nonneg hv.2.2.2.2; have e1 : size ((r :: t).map L133) = (r.f1 - r.f0 + 1) + size (t.map L133) := size_cons _ _; have v0 : 0 ≤ r.f0 := hv.1; have v1 : r.f0 ≤ r.f1 := hv.2.1; have v2 : r.f1 ≤ top := hv.2.2.1; have ih := size_loop N hN top ht t (pre ++ [r]) r.f1 (acc + (r.f1 - r.f0 + 1)) (by rw [app_snoc]; exact hl) hv.2.2.2.2 (by omega) (by omega); rw [app_snoc, snoc_len] at ih; refine evSucc ?_; have hw : Aside0 (wrap64 ((pre.length : Int) + 1) = (pre.length : Int) + 1) := Aside0.mk (w64 (by omega) (by simp at hl; omega)); have c1 : (pre.length : Int) < ((pre ++ r :: t).length : Nat) := by rw [hlc]; omega
  have c2 : (0 : Int) ≤ pre.length := by omega
  have w1 : Aside0 (wrap64 (r.f1 - r.f0) = r.f1 - r.f0) := Aside0.mk (w64 (by omega) (by omega)); have w2 : Aside0 (wrap64 (r.f1 - r.f0 + 1) = r.f1 - r.f0 + 1) := Aside0.mk (w64 (by omega) (by omega)); have w3 : Aside0 (wrap64 (acc + (r.f1 - r.f0 + 1)) = acc + (r.f1 - r.f0 + 1)) := Aside0.mk (w64 (by omega) (by omega)); simp only [sets_Size.l0, if_pos c1, if_pos c2, rd133, hw.out, w1.out, w2.out, w3.out]; have e2 : acc + size ((r :: t).map L133) = acc + (r.f1 - r.f0 + 1) + size (t.map L133) := by omega
  rw [e2]; exact ih
theorem size_is (top : Int) (ht : top ≤ 1073741823) (l : List S133) (hl : l.length ≤ 8796093022206) (hv : ValidFrom top (-2) (l.map L133)) : Ev (fun k => sets_Size.f k l) (size (l.map L133)) := by
 have h0 : (0:Int) ≤ top ∨ l = [] := by
  cases l with
  | nil => exact .inr rfl
  | cons r t => have := hv.1; have := hv.2.1; have := hv.2.2.1; exact .inl (by omega)
 have hs : size (l.map L133) ≤ 4294967296 := by
  rcases h0 with h0 | rfl
  ·have := size_le hv h0; omega
  ·simp [size_nil]
 have h := size_loop l.length hl top ht l [] (-2) 0 (by simp) hv (by omega) (by omega); simpa [sets_Size.f] using h
def rankL (l : List Run) (x : Int) : Int × Bool := if memB l x = true then ((cd (memB l) x.toNat : Int), true) else (0, false)
def Sel (l : List Run) (k : Int) (r : Int × Bool) : Prop := (∃ x, Mem l x ∧ (cd (memB l) x.toNat : Int) = k ∧ r = (x, true)) ∨ ((k < 0 ∨ size l ≤ k) ∧ r = (0, false))
theorem Sel.uniq {top : Int} {l : List Run} (hv : ValidFrom top (-2) l) {k : Int} {r q : Int × Bool} (h : Sel l k r) (h' : Sel l k q) : r = q := by
 have lt : ∀ x, Mem l x → (cd (memB l) x.toNat : Int) < size l := fun x hx => by
  have hr := hv.range hx; have := cd_size (n := top.toNat + 1) hv (by omega); have e : ((x.toNat : Nat) : Int) = x := Int.toNat_of_nonneg hr.1; have := cd_lt (memB l) (m := x.toNat) (n := top.toNat + 1) (by omega) (by rw [e]; exact memB_iff.2 hx); omega
 rcases h with ⟨x, hx, hk, rfl⟩ | ⟨hk, rfl⟩ <;> rcases h' with ⟨y, hy, hk', rfl⟩ | ⟨hk', rfl⟩
 ·have ex : ((x.toNat : Nat) : Int) = x := Int.toNat_of_nonneg (hv.range hx).1; have ey : ((y.toNat : Nat) : Int) = y := Int.toNat_of_nonneg (hv.range hy).1; have := cd_inj (memB l) (m := x.toNat) (n := y.toNat) (by rw [ex]; exact memB_iff.2 hx) (by rw [ey]; exact memB_iff.2 hy) (by omega); rw [show x = y by omega]
 ·have := lt x hx; omega
 ·have := lt y hy; omega
 ·rfl
theorem select_loop (N : Nat) (hN : N ≤ 8796093022206) (top : Int) (ht : top ≤ 1073741823) : ∀ (t pre : List S133) (last kk : Int), (pre ++ t).length ≤ N → ValidFrom top last (t.map L133) → 0 ≤ kk → kk ≤ 9223372036854775807 →
 ∃ r, Ev (fun k => sets_Select.l0 k kk (pre ++ t) (((pre ++ t).length : Nat) : Int) (pre.length : Int)) r ∧ Sel (t.map L133) kk r
 | [], pre, last, kk, _, _, h0, _ => by
  refine ⟨(0, false), evSucc ?_, .inr ⟨.inr (by simpa [size_nil] using h0), rfl⟩⟩; simp only [sets_Select.l0]; rw [List.append_nil]; simp only [if_neg (show ¬ ((pre.length : Nat) : Int) < ((pre.length : Nat) : Int) by omega)]; exact evNow _
 | r :: t, pre, last, kk, hl, hv, h0, h1 => by
  have hlc := len_cons pre r t; have v0 : 0 ≤ r.f0 := hv.1; have v1 : r.f0 ≤ r.f1 := hv.2.1; have v2 : r.f1 ≤ top := hv.2.2.1; have hm : (L133 r).1 = r.f0 ∧ (L133 r).2 = r.f1 := ⟨rfl, rfl⟩; have hw : Aside0 (wrap64 ((pre.length : Int) + 1) = (pre.length : Int) + 1) := Aside0.mk (w64 (by omega) (by simp at hl; omega)); have c1 : (pre.length : Int) < ((pre ++ r :: t).length : Nat) := by rw [hlc]; omega
  have c2 : (0 : Int) ≤ pre.length := by omega
  have w1 : Aside0 (wrap64 (r.f1 - r.f0) = r.f1 - r.f0) := Aside0.mk (w64 (by omega) (by omega)); have w2 : Aside0 (wrap64 (r.f1 - r.f0 + 1) = r.f1 - r.f0 + 1) := Aside0.mk (w64 (by omega) (by omega)); by_cases d1 : kk ≤ r.f1 - r.f0
  ·have w3 : Aside0 (wrap64 (r.f0 + kk) = r.f0 + kk) := Aside0.mk (w64 (by omega) (by omega)); refine ⟨(r.f0 + kk, true), evSucc ?_, .inl ⟨r.f0 + kk, mem_cons.2 (.inl ⟨by simp only [hm.1]; omega, by simp only [hm.2]; omega⟩), ?_, rfl⟩⟩
   ·simp only [sets_Select.l0, if_pos c1, if_pos c2, rd133, hw.out, w1.out, w2.out, w3.out, if_pos d1]; exact evNow _
   ·have hc := cd_in_first (x := r.f0 + kk) (show ValidFrom top last (L133 r :: t.map L133) from hv) (by simp only [hm.1]; omega) (by simp only [hm.2]; omega); rw [List.map_cons, hc, hm.1]; omega
  ·have w3 : Aside0 (wrap64 (kk - (r.f1 - r.f0 + 1)) = kk - (r.f1 - r.f0 + 1)) := Aside0.mk (w64 (by omega) (by omega)); obtain ⟨q, hq, hs⟩ := select_loop N hN top ht t (pre ++ [r]) r.f1 (kk - (r.f1 - r.f0 + 1)) (by rw [app_snoc]; exact hl) hv.2.2.2.2 (by omega) (by omega); rw [app_snoc, snoc_len] at hq; refine ⟨q, evSucc ?_, ?_⟩
   ·simp only [sets_Select.l0, if_pos c1, if_pos c2, rd133, hw.out, w1.out, w2.out, w3.out, if_neg d1]; exact hq
   ·rcases hs with ⟨x, hx, hk, rfl⟩ | ⟨hk, rfl⟩
    ·have hg := ValidFrom.gt hv.2.2.2.2 hx; rw [hm.2] at hg; refine .inl ⟨x, mem_cons.2 (.inr hx), ?_, rfl⟩; have hc := cd_past_first (x := x) (show ValidFrom top last (L133 r :: t.map L133) from hv) (by simp only [hm.2]; omega); rw [List.map_cons, hc, hk, hm.1, hm.2]; omega
    ·have e1 : size ((r :: t).map L133) = (r.f1 - r.f0 + 1) + size (t.map L133) := size_cons _ _; exact .inr ⟨.inr (by omega), rfl⟩
theorem select_is (top : Int) (ht : top ≤ 1073741823) (l : List S133) (kk : Int) (hk : (Lit.int .i64 kk).wf = true) (hl : l.length ≤ 8796093022206) (hv : ValidFrom top (-2) (l.map L133)) : ∃ r, Ev (fun k => sets_Select.f k l kk) r ∧ Sel (l.map L133) kk r := by
 by_cases h0 : kk < 0
 ·exact ⟨(0, false), by simp only [sets_Select.f, if_pos h0]; exact evNow _, .inr ⟨.inl h0, rfl⟩⟩
 ·have hb := bounds_i64 hk; obtain ⟨r, hr, hs⟩ := select_loop l.length hl top ht l [] (-2) kk (by simp) hv (by omega) (by omega); exact ⟨r, by simp only [sets_Select.f, if_neg h0]; simpa using hr, hs⟩
theorem mx_eq (a b : Int) : mx a b = max a b := by unfold mx; omega
theorem norm_loop (N : Nat) (hN : N ≤ 8796093022206) (top : Int) (ht : top ≤ 1073741823) : ∀ (t pre o : List S133) (q : S133), (pre ++ t).length ≤ N → o.length + t.length + 1 ≤ N → (∀ r ∈ t, q.f0 ≤ r.f0) → t.Pairwise (fun x y => x.f0 ≤ y.f0) → (∀ r ∈ q :: t, 0 ≤ r.f0 ∧ r.f0 ≤ r.f1 ∧ r.f1 ≤ top) →
 ∃ m, Ev (fun k => sets_Norm.l0 k (pre ++ t) (o ++ [q]) (((pre ++ t).length : Nat) : Int) (pre.length : Int)) (o ++ m, pre ++ t) ∧ m.length ≤ t.length + 1 ∧ (∀ last, last < q.f0 - 1 → ValidFrom top last (m.map L133)) ∧ ∀ x, Mem (m.map L133) x ↔ Mem ((q :: t).map L133) x
 | [], pre, o, q, _, _, _, _, hr => by
  have hq := hr q List.mem_cons_self; refine ⟨[q], evSucc ?_, by simp, fun last hlast => ⟨hq.1, hq.2.1, hq.2.2, hlast, trivial⟩, fun x => Iff.rfl⟩; simp only [sets_Norm.l0]; rw [List.append_nil]; simp only [if_neg (show ¬ ((pre.length : Nat) : Int) < ((pre.length : Nat) : Int) by omega)]; exact evNow _
 | r :: t, pre, o, q, hl, ho, hs, hp, hr => by
  have hq := hr q List.mem_cons_self; have hr1 := hr r (List.mem_cons_of_mem _ List.mem_cons_self); have hqr := hs r List.mem_cons_self; have hp' := List.pairwise_cons.1 hp; have hlc := len_cons pre r t; have hw : Aside0 (wrap64 ((pre.length : Int) + 1) = (pre.length : Int) + 1) := Aside0.mk (w64 (by omega) (by simp at hl; omega)); have c1 : (pre.length : Int) < ((pre ++ r :: t).length : Nat) := by rw [hlc]; omega
  have c2 : (0 : Int) ≤ pre.length := by omega
  have ol : (((o ++ [q]).length : Nat) : Int) = (o.length : Int) + 1 := snoc_len o q; have hob : (o.length : Int) ≤ 8796093022207 := by omega
  have c3 : (((o ++ [q]).length : Nat) : Int) > 0 := by omega
  have w1 : Aside0 (wrap64 ((((o ++ [q]).length : Nat) : Int) - 1) = (o.length : Int)) := Aside0.mk (by rw [ol, w64 (by omega) (by omega)]; omega); have c4 : (0 : Int) ≤ (o.length : Int) := by omega
  have c5 : (o.length : Int) < (((o ++ [q]).length : Nat) : Int) := by omega
  have r1 : rd_T133 (o ++ [q]) (o.length : Int) = q := rd133 o q []; have w2 : Aside0 (wrap64 (q.f1 + 1) = q.f1 + 1) := Aside0.mk (w64 (by omega) (by omega)); have hlt : (o ++ [q]).length < 8796093022208 := by simp at ho ⊢; omega
  by_cases d : r.f0 ≤ q.f1 + 1
  ·obtain ⟨m, g1, g2, g3, g4⟩ := norm_loop N hN top ht t (pre ++ [r]) o ⟨q.f0, max q.f1 r.f1⟩ (by rw [app_snoc]; exact hl) (by simp at ho ⊢; omega) (fun z hz => Int.le_trans hqr (hp'.1 z hz)) hp'.2 (fun z hz => by
    rcases List.mem_cons.1 hz with rfl | hz
    ·exact ⟨hq.1, by show q.f0 ≤ max q.f1 r.f1; omega, by show max q.f1 r.f1 ≤ top; omega⟩
    ·exact hr z (List.mem_cons_of_mem _ (List.mem_cons_of_mem _ hz)))
   rw [app_snoc, snoc_len] at g1; refine ⟨m, evSucc ?_, by simp; omega, g3, fun x => ?_⟩
   ·simp only [sets_Norm.l0, if_pos c1, if_pos c2, rd133, hw.out, if_pos c3, w1.out, if_pos c4, if_pos c5, r1, w2.out, if_pos d, mx_eq]; have : (o ++ [q]).set (o.length : Int).toNat (⟨q.f0, max q.f1 r.f1⟩ : S133) = o ++ [⟨q.f0, max q.f1 r.f1⟩] := by simp
    rw [this]; exact g1
   ·rw [g4 x]; simp only [List.map_cons, mem_cons]; show (q.f0 ≤ x ∧ x ≤ max q.f1 r.f1) ∨ _ ↔ (q.f0 ≤ x ∧ x ≤ q.f1) ∨ (r.f0 ≤ x ∧ x ≤ r.f1) ∨ _; constructor
    ·rintro (h | h)
     ·by_cases e : x ≤ q.f1
      ·exact .inl (by omega)
      ·exact .inr (.inl (by omega))
     ·exact .inr (.inr h)
    ·rintro (h | h | h)
     ·exact .inl (by omega)
     ·exact .inl (by omega)
     ·exact .inr h
  ·obtain ⟨m, g1, g2, g3, g4⟩ := norm_loop N hN top ht t (pre ++ [r]) (o ++ [q]) r (by rw [app_snoc]; exact hl) (by simp at ho ⊢; omega) hp'.1 hp'.2 (fun z hz => hr z (List.mem_cons_of_mem _ hz)); rw [app_snoc, snoc_len] at g1; refine ⟨q :: m, evSucc ?_, by simp; omega, fun last hlast => ⟨hq.1, hq.2.1, hq.2.2, hlast, g3 _ (by show q.f1 < _; omega)⟩, fun x => ?_⟩
   ·simp only [sets_Norm.l0, if_pos c1, if_pos c2, rd133, hw.out, if_pos c3, w1.out, if_pos c4, if_pos c5, r1, w2.out, if_neg d, if_pos hlt]; simpa using g1
   ·rw [List.map_cons, mem_cons, g4 x]; exact mem_cons.symm
theorem norm_is (top : Int) (ht : top ≤ 1073741823) (l : List S133) (hl : l.length ≤ 8796093022206) (hr : ∀ r ∈ l, 0 ≤ r.f0 ∧ r.f0 ≤ r.f1 ∧ r.f1 ≤ top) :
 ∃ m s, Ev (fun k => sets_Norm.f k l) (m, s) ∧ m.length ≤ l.length ∧ ValidFrom top (-2) (m.map L133) ∧ ∀ x, Mem (m.map L133) x ↔ Mem (l.map L133) x := by
 obtain ⟨s, hs⟩ : ∃ s, sortRun.f l = some s := ⟨_, by unfold sortRun.f; rw [if_pos (show l.length < 8796093022208 by omega)]⟩
 obtain ⟨hp, hsort⟩ := sortRun.spec l s hs; have hlen := hp.length_eq; have hmem : ∀ x, Mem (s.map L133) x ↔ Mem (l.map L133) x := fun x => mem_perm (hp.map _)
 cases s with
 | nil =>
  refine ⟨[], [], ?_, by simp, trivial, hmem⟩; simp only [sets_Norm.f, hs, Option.bind_some]; refine evSucc ?_; simp only [sets_Norm.l0, ← hlen]; simp only [List.length_nil, if_neg (show ¬ (0 : Int) < ((0 : Nat) : Int) by omega)]; exact evNow _
 | cons q t =>
  have hr' : ∀ r ∈ q :: t, 0 ≤ r.f0 ∧ r.f0 ≤ r.f1 ∧ r.f1 ≤ top := fun r h => hr r (hp.mem_iff.1 h)
  have hsp := List.pairwise_cons.1 hsort; obtain ⟨m, g1, g2, g3, g4⟩ := norm_loop (q :: t).length (by omega) top ht t [q] [] q (by simp) (by simp) hsp.1 hsp.2 hr'; have hq := hr' q List.mem_cons_self; refine ⟨m, q :: t, ?_, by rw [← hlen]; simpa using g2, g3 _ (by omega), fun x => (g4 x).trans (hmem x)⟩; simp only [sets_Norm.f, hs, Option.bind_some, ← hlen]; refine evSucc ?_; have c1 : (0 : Int) < (((q :: t).length : Nat) : Int) := by rw [List.length_cons]; omega
  have r1 : rd_T133 (q :: t) 0 = q := rfl; have hw : Aside0 (wrap64 ((0 : Int) + 1) = 1) := Aside0.mk (by rw [w64 (by omega) (by omega)]; rfl); simp only [sets_Norm.l0, if_pos c1, if_pos (show (0 : Int) ≤ 0 by omega), r1, List.length_nil, if_neg (show ¬ ((0 : Nat) : Int) > 0 by omega), if_pos (show (0 : Nat) < 8796093022208 from Nat.zero_lt_succ _), hw.out]; exact g1
def setL (top : Int) (l : List Run) : List Run := if validB top (-2) l = true then l else []
theorem setL_valid (top : Int) (l : List Run) : ValidFrom top (-2) (setL top l) := by
 unfold setL; split
 ·rename_i h; exact (validB_iff _ _ _).1 h
 ·trivial
theorem setL_of {top : Int} {l : List Run} (h : ValidFrom top (-2) l) : setL top l = l := by unfold setL; rw [if_pos ((validB_iff _ _ _).2 h)]
theorem valid_len {top : Int} : ∀ {l : List Run} {last : Int}, ValidFrom top last l → (l.length : Int) ≤ size l
 | [], _, _ => by simp [size_nil]
 | r :: t, _, hv => by
  have := valid_len hv.2.2.2.2; have := hv.2.1; rw [size_cons]; simp; omega
theorem valid_len' {top : Int} {l : List Run} {last : Int} (hv : ValidFrom top last l) (h0 : 0 ≤ top) (ht : top ≤ 1073741823) : l.length ≤ 1073741824 := by
 have := valid_len hv; have := size_le hv h0; omega
theorem spans_set_is (l : List S34) (hl : l.length * 16 ≤ 140737488351232) : ∃ s, Ev (fun k => spans_set.f k l) s ∧ s.map L133 = setL 255 (l.map L34) := by
 have h1 := api_Span_is l hl; have h2 := valid_is 255 (by omega) (l.map api_Span_c) (by simp; omega); rw [api_Span_len] at h2; by_cases d : validB 255 (-2) (l.map L34) = true
 ·refine ⟨l.map api_Span_c, Ev.bind h1 (Ev.bind h2 ?_), by rw [api_Span_len]; unfold setL; rw [if_pos d]⟩; simp only [if_pos d]; exact evNow _
 ·refine ⟨[], Ev.bind h1 (Ev.bind h2 ?_), by unfold setL; rw [if_neg d]; rfl⟩; simp only [if_neg d]; exact evNow _
theorem spans_back_is (l : List S133) (hl : l.length * 16 ≤ 140737488351232) : Ev (fun k => spans_back.f k l) (l.map sets_Run_132_c) := Ev.bind (sets_Run_132_is l hl) (evNow _)
theorem spans_set_facts {l : List S34} {s : List S133} (h : s.map L133 = setL 255 (l.map L34)) : ValidFrom 255 (-2) (s.map L133) ∧ s.length ≤ 1073741824 := by
 have hv : ValidFrom 255 (-2) (s.map L133) := by rw [h]; exact setL_valid _ _
 have := valid_len' hv (by omega) (by omega); exact ⟨hv, by simpa using this⟩
theorem spans_Size_is (l : List S34) (hl : l.length * 16 ≤ 140737488351232) : Ev (fun k => spans_Size.f k l) (size (setL 255 (l.map L34))) := by
 obtain ⟨s, h1, h2⟩ := spans_set_is l hl; obtain ⟨hv, hn⟩ := spans_set_facts h2; have h3 := size_is 255 (by omega) s (by omega) hv; rw [h2] at h3; exact Ev.bind h1 (Ev.bind h3 (evNow _))
theorem spans_Select_is (l : List S34) (kk : Int) (hk : (Lit.int .i64 kk).wf = true) (hl : l.length * 16 ≤ 140737488351232) : ∃ r, Ev (fun k => spans_Select.f k l kk) r ∧ Sel (setL 255 (l.map L34)) kk r := by
 obtain ⟨s, h1, h2⟩ := spans_set_is l hl; obtain ⟨hv, hn⟩ := spans_set_facts h2; obtain ⟨r, h3, h4⟩ := select_is 255 (by omega) s kk hk (by omega) hv; rw [h2] at h4; exact ⟨r, Ev.bind h1 (Ev.bind h3 (evNow _)), h4⟩
def spans_IsSet (l : List S34) (p : Int → Prop) : Prop := ValidFrom 255 (-2) (l.map L34) ∧ l.length ≤ 1073741824 ∧ ∀ x, Mem (l.map L34) x ↔ p x
theorem spans_IsSet.uniq {a b : List S34} {p q : Int → Prop} (ha : spans_IsSet a p) (hb : spans_IsSet b q) (h : ∀ x, p x ↔ q x) : a = b :=
 L34_inj (canon 255 _ _ _ _ ha.1 hb.1 fun x => (ha.2.2 x).trans ((h x).trans (hb.2.2 x).symm))
theorem spans_out {m : List S133} {p : Int → Prop} (hv : ValidFrom 255 (-2) (m.map L133)) (hm : ∀ x, Mem (m.map L133) x ↔ p x) : ∃ r, Ev (fun k => spans_back.f k m) r ∧ spans_IsSet r p := by
 have hn := valid_len' hv (by omega) (by omega); have e := sets_Run_132_len m; refine ⟨_, spans_back_is m (by simp at hn; omega), ?_, ?_, fun x => ?_⟩
 ·rw [e]; exact hv
 ·simpa using hn
 ·rw [e]; exact hm x
def spans_badP (p : S34) : Bool := decide (p.f0 < 0) || decide (p.f0 > p.f1) || decide (p.f1 > 255)
theorem spans_Norm_loop (N : Nat) (hN : N ≤ 8796093022206) (x0 : List S34) : ∀ (t pre : List S34), (pre ++ t).length ≤ N →
 (∀ i, t.findIdx? spans_badP = some i → Ev (fun k => spans_Norm.l0 k x0 (pre ++ t) (((pre ++ t).length : Nat) : Int) (pre.length : Int)) (([] : List S34), ((pre.length : Int) + i), 1)) ∧
 (t.findIdx? spans_badP = none → ∀ r, Ev (fun k => (api_Span.f k x0).bind fun t136 => ((sets_Norm.f k t136).bind fun bt139 => ((spans_back.f k bt139.1).bind fun t143 => (some (t143, (0 : Int), (0 : Int)))))) r → Ev (fun k => spans_Norm.l0 k x0 (pre ++ t) (((pre ++ t).length : Nat) : Int) (pre.length : Int)) r)
 | [], pre, _ => by
  refine ⟨fun i h => by simp at h, fun _ r hr => evSucc ?_⟩; simp only [spans_Norm.l0]; rw [List.append_nil]; simp only [if_neg (show ¬ ((pre.length : Nat) : Int) < ((pre.length : Nat) : Int) by omega)]; exact hr
 | r :: t, pre, hl => by
  have hlc := len_cons pre r t; have hw : Aside0 (wrap64 ((pre.length : Int) + 1) = (pre.length : Int) + 1) := Aside0.mk (w64 (by omega) (by simp at hl; omega)); have c1 : (pre.length : Int) < ((pre ++ r :: t).length : Nat) := by rw [hlc]; omega
  have c2 : (0 : Int) ≤ pre.length := by omega
  have ih := spans_Norm_loop N hN x0 t (pre ++ [r]) (by rw [app_snoc]; exact hl); rw [app_snoc, snoc_len] at ih; by_cases hb : spans_badP r = true
  ·refine ⟨fun i h => ?_, fun h => by simp [List.findIdx?_cons, hb] at h⟩; obtain rfl : i = 0 := by simpa [List.findIdx?_cons, hb] using h.symm
   refine evSucc ?_; simp only [spans_badP, Bool.or_eq_true, decide_eq_true_eq] at hb; simp only [spans_Norm.l0, if_pos c1, if_pos c2, rd34, hw.out]; by_cases d1 : r.f0 < 0
   ·simp only [if_pos d1]; simpa using evNow (([] : List S34), (pre.length : Int), (1 : Int))
   by_cases d2 : r.f0 > r.f1
   ·simp only [if_neg d1, if_pos d2]; simpa using evNow (([] : List S34), (pre.length : Int), (1 : Int))
   have d3 : r.f1 > 255 := by omega
   simp only [if_neg d1, if_neg d2, if_pos d3]; simpa using evNow (([] : List S34), (pre.length : Int), (1 : Int))
  ·have hb' : spans_badP r = false := by simpa using hb
   simp only [spans_badP, Bool.or_eq_true, decide_eq_true_eq, not_or] at hb; refine ⟨fun i h => ?_, fun h q hq => ?_⟩
   ·simp only [List.findIdx?_cons, hb', Option.map_eq_some_iff] at h; simp at h; obtain ⟨j, hj, rfl⟩ := h; have := ih.1 j hj; refine evSucc ?_; simp only [spans_Norm.l0, if_pos c1, if_pos c2, rd34, hw.out, if_neg hb.1.1, if_neg hb.1.2, if_neg hb.2]; rw [show ((pre.length : Int) + ((j + 1 : Nat) : Int)) = (pre.length : Int) + 1 + (j : Int) by omega]; exact this
   ·simp [List.findIdx?_cons, hb'] at h; have := ih.2 (by simpa using h) q hq; refine evSucc ?_; simp only [spans_Norm.l0, if_pos c1, if_pos c2, rd34, hw.out, if_neg hb.1.1, if_neg hb.1.2, if_neg hb.2]; exact this
theorem spans_Norm_is (l : List S34) (hl : l.length * 16 ≤ 140737488351232) :
 (∀ i, l.findIdx? spans_badP = some i → Ev (fun k => spans_Norm.f k l) (([] : List S34), (i : Int), 1)) ∧
 (l.findIdx? spans_badP = none → ∃ r, Ev (fun k => spans_Norm.f k l) (r, 0, 0) ∧ spans_IsSet r (fun x => Mem (l.map L34) x)) := by
 have h := spans_Norm_loop l.length (by omega) l l [] (by simp); refine ⟨fun i hi => ?_, fun hn => ?_⟩
 ·have := h.1 i hi; simpa [spans_Norm.f] using this
 ·have hgood : ∀ r ∈ l, 0 ≤ r.f0 ∧ r.f0 ≤ r.f1 ∧ r.f1 ≤ 255 := fun r hr => by
   have := List.findIdx?_eq_none_iff.1 hn r hr; simp only [spans_badP, Bool.or_eq_false_iff, decide_eq_false_iff_not] at this; omega
  have h1 := api_Span_is l hl; obtain ⟨m, w, k1, k2, k3, k4⟩ := norm_is 255 (by omega) (l.map api_Span_c) (by simp; omega) (fun r hr => by
   obtain ⟨q, hq, rfl⟩ := List.mem_map.1 hr; exact hgood q hq)
  obtain ⟨r, q1, q2⟩ := spans_out (p := fun x => Mem (l.map L34) x) k3 (fun x => by rw [k4 x, api_Span_len]); refine ⟨r, ?_, q2⟩; have := h.2 hn (r, 0, 0) (Ev.bind h1 (Ev.bind k1 (Ev.bind q1 (evNow _)))); simpa [spans_Norm.f] using this
end Go.Proofs.Ytoljcfocgaonpaa.PI3
end
section
namespace Go.Proofs.Ytoljcfocgaonpaa.PI3
open Go.RowKit Go.Proofs.YtoljcfocgaonpaaW.PrintWords Go.Proofs.YtoljcfocgaonpaaW.PrintLast Go.Proofs.YtoljcfocgaonpaaW.PrintMore Go.Proofs.Ytoljcfocgaonpaa.I Go.Proofs.LT
set_option linter.unusedVariables false
set_option linter.unusedSimpArgs false
theorem refValid_loop (N : Nat) (hN : N ≤ 8796093022206) : ∀ (t q : List S34) (p : S34), (q ++ p :: t).length ≤ N → p.f1 ≤ 255 → 0 ≤ p.f1 → Ev (fun k => leadtrailref03_Valid.l0 k (q ++ p :: t) ((q.length : Int) + 1)) (validB 255 p.f1 (t.map L34))
 | [], q, p, _, _, _ => by
  refine evSucc ?_; have hlc := len_cons q p []; have c1 : ¬ (q.length : Int) + 1 < ((q ++ [p]).length : Nat) := by rw [hlc]; simp
  simp only [leadtrailref03_Valid.l0, if_neg c1]; rw [show validB 255 p.f1 (([] : List S34).map L34) = true from validB_nil _ _]; exact evNow _
 | r :: t, q, p, hl, hp, hp0 => by
  have hlc := len_cons q p (r :: t); have e1 : q ++ p :: r :: t = (q ++ [p]) ++ r :: t := by simp
  have e2 : ((q.length : Int) + 1) = ((q ++ [p]).length : Nat) := by simp
  have rr : rd_T34 (q ++ p :: r :: t) ((q.length : Int) + 1) = r := by rw [e1, e2]; exact rd34 _ _ _
  have rp : rd_T34 (q ++ p :: r :: t) (q.length : Int) = p := rd34 _ _ _; have hq : q.length ≤ N := by simp at hl; omega
  have c1 : (q.length : Int) + 1 < ((q ++ p :: r :: t).length : Nat) := by rw [hlc]; simp; omega
  have c2 : (0 : Int) ≤ (q.length : Int) + 1 := by omega
  have c3 : (q.length : Int) + 1 > 0 := by omega
  have c4 : (0 : Int) ≤ (q.length : Int) := by omega
  have c5 : (q.length : Int) < ((q ++ p :: r :: t).length : Nat) := by omega
  have hw1 : Aside0 (wrap64 ((q.length : Int) + 1 - 1) = (q.length : Int)) := Aside0.mk (by rw [w64 (by omega) (by omega)]; omega); have hw2 : Aside0 (wrap64 ((q.length : Int) + 1 + 1) = (q.length : Int) + 1 + 1) := Aside0.mk (w64 (by omega) (by omega)); have hw3 : Aside0 (wrap64 (p.f1 + 1) = p.f1 + 1) := Aside0.mk (w64 (by omega) (by omega)); refine evSucc ?_; simp only [leadtrailref03_Valid.l0, if_pos c1, if_pos c2, if_pos c3, rr, hw1.out, hw2.out, hw3.out, if_pos c4, if_pos c5, rp, List.map_cons, validB_cons]; show Ev _ (if r.f0 < 0 then false else if r.f0 > r.f1 then false else if r.f1 > 255 then false else if r.f0 - 1 ≤ p.f1 then false else validB 255 r.f1 (t.map L34)); by_cases d1 : r.f0 < 0
  ·simp only [if_pos d1]; exact evNow _
  by_cases d2 : r.f0 > r.f1
  ·simp only [if_neg d1, if_pos d2]; exact evNow _
  by_cases d3 : r.f1 > 255
  ·simp only [if_neg d1, if_neg d2, if_pos d3]; exact evNow _
  by_cases d4 : r.f0 ≤ p.f1 + 1
  ·simp only [if_neg d1, if_neg d2, if_neg d3, if_pos d4, if_pos (show r.f0 - 1 ≤ p.f1 by omega)]; exact evNow _
  ·have ih := refValid_loop N hN t (q ++ [p]) r (by rw [← e1]; exact hl) (by omega) (by omega); rw [← e1, ← e2] at ih; simp only [if_neg d1, if_neg d2, if_neg d3, if_neg d4, if_neg (show ¬ r.f0 - 1 ≤ p.f1 by omega)]; exact ih
theorem refValid_is (l : List S34) (hl : l.length * 16 ≤ 140737488351232) : Ev (fun k => leadtrailref03_Valid.f k l) (validB 255 (-2) (l.map L34)) := by
 simp only [leadtrailref03_Valid.f]; cases l with
 | nil =>
  refine evSucc ?_; simp only [leadtrailref03_Valid.l0, List.length_nil, if_neg (show ¬ (0 : Int) < ((0 : Nat) : Int) by omega), List.map_nil, validB_nil]; exact evNow _
 | cons r t =>
  have c1 : (0 : Int) < (((r :: t).length : Nat) : Int) := by rw [List.length_cons]; omega
  have r1 : rd_T34 (r :: t) 0 = r := rfl; have hw : Aside0 (wrap64 ((0 : Int) + 1) = 1) := Aside0.mk (by rw [w64 (by omega) (by omega)]; rfl); refine evSucc ?_; simp only [leadtrailref03_Valid.l0, if_pos c1, if_pos (show (0 : Int) ≤ 0 by omega), r1, if_neg (show ¬ (0 : Int) > 0 by omega), hw.out, List.map_cons, validB_cons]; show Ev _ (if r.f0 < 0 then false else if r.f0 > r.f1 then false else if r.f1 > 255 then false else if r.f0 - 1 ≤ -2 then false else validB 255 r.f1 (t.map L34)); by_cases d1 : r.f0 < 0
  ·simp only [if_pos d1]; exact evNow _
  by_cases d2 : r.f0 > r.f1
  ·simp only [if_neg d1, if_pos d2]; exact evNow _
  by_cases d3 : r.f1 > 255
  ·simp only [if_neg d1, if_neg d2, if_pos d3]; exact evNow _
  simp only [if_neg d1, if_neg d2, if_neg d3, if_neg (show ¬ r.f0 - 1 ≤ -2 by omega)]; exact refValid_loop (r :: t).length (by omega) t [] r (by simp) (by omega) (by omega)
theorem memb_is (l : List S34) (hl : l.length * 16 ≤ 140737488351232) : ∃ p, Ev (fun k => leadtrailref03_memb k l) p ∧ ∀ i : Nat, p i = memB (setL 255 (l.map L34)) i := by
 have h := refValid_is l hl; by_cases d : validB 255 (-2) (l.map L34) = true
 ·have hv := (validB_iff _ _ _).1 d; have hall : l.all okPiece = true := List.all_eq_true.2 fun r hr => by
   have := hv.each (L34 r) (List.mem_map.2 ⟨r, hr, rfl⟩); have e : (L34 r).1 = r.f0 ∧ (L34 r).2 = r.f1 := ⟨rfl, rfl⟩; rw [e.1, e.2] at this; simp [okPiece]; omega
  refine ⟨membersB true l, Ev.bind h ?_, fun i => ?_⟩
  ·simp only [if_pos (show l.length ≤ 8796093022207 by omega), if_pos d, if_pos hall]; exact evNow _
  ·rw [setL_of hv, Bool.eq_iff_iff, memB_iff]; simp only [membersB, hasAny, pieceHas, Bool.true_and, List.any_eq_true, Bool.and_eq_true, decide_eq_true_iff]; exact ⟨fun ⟨r, hr, h1, h2⟩ => ⟨L34 r, List.mem_map.2 ⟨r, hr, rfl⟩, h1, h2⟩, fun ⟨q, hq, h1, h2⟩ => by
    obtain ⟨r, hr, rfl⟩ := List.mem_map.1 hq; exact ⟨r, hr, h1, h2⟩⟩
 ·refine ⟨membersB false l, Ev.bind h ?_, fun i => ?_⟩
  ·simp only [if_pos (show l.length ≤ 8796093022207 by omega), if_neg d]; exact evNow _
  ·have e : setL 255 (l.map L34) = [] := by unfold setL; rw [if_neg d]
   rw [e]; have : memB [] (i : Int) = false := by
    cases hm : memB [] (i : Int)
    ·rfl
    ·exact (Mem.nil (memB_iff.1 hm)).elim
   rw [this]; simp [membersB]
theorem cnt_cd {p : Nat → Bool} {s : List Run} (h : ∀ i : Nat, p i = memB s i) : ∀ n, cntB p n = cd (memB s) n
 | 0 => (cd_zero _).symm
 | n + 1 => by rw [cd_succ, ← cnt_cd h n, ← h n]; rfl
theorem refSize_is (l : List S34) (hl : l.length * 16 ≤ 140737488351232) : Ev (fun k => leadtrailref03_Size.f k l) (size (setL 255 (l.map L34))) := by
 obtain ⟨p, h1, h2⟩ := memb_is l hl; refine Ev.bind h1 ?_; rw [cnt_cd h2 256, cd_size (n := 256) (setL_valid 255 (l.map L34)) (by omega)]; exact evNow _
theorem hasP_is {p : Nat → Bool} {s : List Run} (hv : ValidFrom 255 (-2) s) (h : ∀ i : Nat, p i = memB s i) (x : Int) : hasP p x = memB s x := by
 unfold hasP; by_cases c : 0 ≤ x
 ·by_cases d : x ≤ 255
  ·rw [if_pos c, if_pos d, h x.toNat, Int.toNat_of_nonneg c]
  ·rw [if_pos c, if_neg d]; cases hm : memB s x
   ·rfl
   ·have := hv.range (memB_iff.1 hm); omega
 ·rw [if_neg c]; cases hm : memB s x
  ·rfl
  ·have := hv.range (memB_iff.1 hm); omega
theorem refHas_is (l : List S34) (x : Int) (hl : l.length * 16 ≤ 140737488351232) : Ev (fun k => leadtrailref03_Has.f k l x) (memB (setL 255 (l.map L34)) x) := by
 obtain ⟨p, h1, h2⟩ := memb_is l hl; refine Ev.bind h1 ?_; rw [hasP_is (setL_valid _ _) h2]; exact evNow _
theorem refRank_is (l : List S34) (x : Int) (hl : l.length * 16 ≤ 140737488351232) : Ev (fun k => leadtrailref03_Rank.f k l x) (rankL (setL 255 (l.map L34)) x) := by
 obtain ⟨p, h1, h2⟩ := memb_is l hl; refine Ev.bind h1 ?_; have e : ((if hasP p x = true then (cntB p x.toNat : Int) else 0), hasP p x) = rankL (setL 255 (l.map L34)) x := by
  rw [hasP_is (setL_valid _ _) h2, cnt_cd h2]; unfold rankL; by_cases d : memB (setL 255 (l.map L34)) x = true
  ·rw [if_pos d, if_pos d, d]
  ·rw [if_neg d, if_neg d, show memB (setL 255 (l.map L34)) x = false by simpa using d]
 rw [e]; exact evNow _
theorem sel_is {p : Nat → Bool} {s : List Run} (hv : ValidFrom 255 (-2) s) (h : ∀ i : Nat, p i = memB s i) (k : Int) : ∀ f x : Nat, f + x = 256 → (∀ y, y < x → ¬ (p y = true ∧ (cntB p y : Int) = k)) → Sel s k (selB p k f x)
 | 0, x, hx, hn => by
  refine .inr ⟨?_, rfl⟩; by_cases c : k < 0
  ·exact .inl c
  ·refine .inr (Int.not_lt.1 fun hlt => ?_); have hz := cd_size (n := 256) hv (by omega); obtain ⟨m, m1, m2, m3⟩ := cd_exists (memB s) (n := 256) (k := k.toNat) (by omega); exact hn m (by omega) ⟨by rw [h m]; exact m2, by rw [cnt_cd h, m3]; omega⟩
 | f + 1, x, hx, hn => by
  unfold selB; by_cases d : p x = true ∧ (cntB p x : Int) = k
  ·rw [if_pos d]; refine .inl ⟨(x : Int), memB_iff.1 (by rw [← h x]; exact d.1), ?_, rfl⟩; rw [Int.toNat_natCast, ← cnt_cd h]; exact d.2
  ·rw [if_neg d]; refine sel_is hv h k f (x + 1) (by omega) fun y hy => ?_
   by_cases e : y = x
   ·rw [e]; exact d
   ·exact hn y (by omega)
theorem refSelect_is (l : List S34) (kk : Int) (hl : l.length * 16 ≤ 140737488351232) : ∃ r, Ev (fun k => leadtrailref03_Select.f k l kk) r ∧ Sel (setL 255 (l.map L34)) kk r := by
 obtain ⟨p, h1, h2⟩ := memb_is l hl; exact ⟨_, Ev.bind h1 (evNow _), sel_is (setL_valid _ _) h2 kk 256 0 rfl fun y hy => by omega⟩
end Go.Proofs.Ytoljcfocgaonpaa.PI3
end
section
namespace Go.Proofs.Ytoljcfocgaonpaa.PI3
open Go.RowKit Go.Proofs.YtoljcfocgaonpaaW.PrintWords Go.Proofs.YtoljcfocgaonpaaW.PrintLast Go.Proofs.YtoljcfocgaonpaaW.PrintMore Go.Proofs.Ytoljcfocgaonpaa.I Go.Proofs.LT
set_option linter.unusedVariables false
set_option linter.unusedSimpArgs false
theorem valid_snoc {top : Int} {r : Run} : ∀ {l : List Run} {last : Int}, ValidFrom top last (l ++ [r]) ↔ (ValidFrom top last l ∧ 0 ≤ r.1 ∧ r.1 ≤ r.2 ∧ r.2 ≤ top ∧ last < r.1 - 1 ∧ ∀ q ∈ l, q.2 < r.1 - 1)
 | [], last => by simp [ValidFrom]
 | q :: t, last => by
  have ih := valid_snoc (top := top) (r := r) (l := t) (last := q.2); rw [List.cons_append]; show (0 ≤ q.1 ∧ q.1 ≤ q.2 ∧ q.2 ≤ top ∧ last < q.1 - 1 ∧ ValidFrom top q.2 (t ++ [r])) ↔ ((0 ≤ q.1 ∧ q.1 ≤ q.2 ∧ q.2 ≤ top ∧ last < q.1 - 1 ∧ ValidFrom top q.2 t) ∧ _); rw [ih]; constructor
  ·rintro ⟨h0, h1, h2, h3, h4, h5, h6, h7, h8, h9⟩; refine ⟨⟨h0, h1, h2, h3, h4⟩, h5, h6, h7, by omega, fun x hx => ?_⟩; rcases List.mem_cons.1 hx with rfl | hx
   ·exact h8
   ·exact h9 x hx
  ·rintro ⟨⟨h0, h1, h2, h3, h4⟩, h5, h6, h7, h8, h9⟩; exact ⟨h0, h1, h2, h3, h4, h5, h6, h7, h9 q List.mem_cons_self, fun x hx => h9 x (List.mem_cons_of_mem _ hx)⟩
theorem rd_last (l : List S34) (q : S34) : rd_T34 (l ++ [q]) ((l ++ [q]).length - 1 : Nat) = q := by simp [rd_T34]
theorem snoc_of {α : Type} : ∀ {l : List α}, 0 < l.length → ∃ i q, l = i ++ [q] := fun {l} h => ⟨l.dropLast, l.getLast (by intro e; rw [e] at h; exact absurd h (by simp)), (List.dropLast_concat_getLast _).symm⟩
theorem setP_spec (p : Nat → Bool) : ∀ n, n ≤ 256 → ValidFrom 255 (-2) ((setP p n).map L34) ∧ (∀ x : Int, Mem ((setP p n).map L34) x ↔ (0 ≤ x ∧ x < n ∧ p x.toNat = true))
 | 0, _ => ⟨trivial, fun x => ⟨fun h => (Mem.nil h).elim, fun h => by omega⟩⟩
 | n + 1, hn => by
  obtain ⟨hv, hm⟩ := setP_spec p n (by omega); by_cases hp : p n = true
  ·by_cases c : 0 < n ∧ p (n - 1) = true
   ·have hpos : 0 < (setP p n).length := by
     have := (hm ((n - 1 : Nat) : Int)).2 ⟨by omega, by omega, by rw [Int.toNat_natCast]; exact c.2⟩; rcases Nat.eq_zero_or_pos (setP p n).length with h | h
     ·rw [List.eq_nil_of_length_eq_zero h] at this; exact (Mem.nil this).elim
     ·exact h
    obtain ⟨i, q, e⟩ := snoc_of hpos; have e1 : setP p (n + 1) = i ++ [⟨q.f0, n⟩] := by
     rw [setP, if_pos hp, if_pos c, e, rd_last]; simp
    rw [e, List.map_append] at hv hm; rw [e1, List.map_append]; have hs := valid_snoc.1 (show ValidFrom 255 (-2) (i.map L34 ++ [L34 q]) from hv); have eL : (L34 q).1 = q.f0 ∧ (L34 q).2 = q.f1 := ⟨rfl, rfl⟩; rw [eL.1, eL.2] at hs; obtain ⟨s0, s1, s2, s3, s4, s5⟩ := hs; have one : ∀ {r : S34} {x : Int}, Mem ([r].map L34) x ↔ (r.f0 ≤ x ∧ x ≤ r.f1) := fun {r x} => by
     show Mem [L34 r] x ↔ _; rw [mem_cons]; exact ⟨fun h => by rcases h with h | h; exact h; exact (Mem.nil h).elim, fun h => .inl h⟩
    have hq : q.f1 = (n : Int) - 1 := by
     have h1 := (hm q.f1).1 (mem_append.2 (.inr (one.2 ⟨s2, by omega⟩))); have h2 := (hm ((n - 1 : Nat) : Int)).2 ⟨by omega, by omega, by rw [Int.toNat_natCast]; exact c.2⟩; rcases mem_append.1 h2 with h2 | h2
     ·obtain ⟨r, hr, h3, h4⟩ := h2; have := s5 r hr; omega
     ·have := one.1 h2; omega
    refine ⟨valid_snoc.2 ⟨s0, s1, ?_, ?_, s4, s5⟩, fun x => ?_⟩
    ·show q.f0 ≤ (n : Int); omega
    ·show (n : Int) ≤ 255; omega
    ·rw [mem_append, one]; have h := hm x; rw [mem_append, one] at h; by_cases cx : x = (n : Int)
     ·subst cx; refine ⟨fun _ => ⟨by omega, by omega, by rw [Int.toNat_natCast]; exact hp⟩, fun _ => .inr ⟨by show q.f0 ≤ (n : Int); omega, Int.le_refl _⟩⟩
     ·constructor
      ·rintro (g | g)
       ·have := h.1 (.inl g); exact ⟨this.1, by omega, this.2.2⟩
       ·have := h.1 (.inr ⟨g.1, by have := g.2; show x ≤ q.f1; rw [hq]; have : x ≤ (n : Int) := this; omega⟩); exact ⟨this.1, by omega, this.2.2⟩
      ·rintro ⟨g1, g2, g3⟩; rcases h.2 ⟨g1, by omega, g3⟩ with g | g
       ·exact .inl g
       ·exact .inr ⟨g.1, by show x ≤ (n : Int); omega⟩
   ·have e1 : setP p (n + 1) = setP p n ++ [⟨n, n⟩] := by rw [setP, if_pos hp, if_neg c]
    rw [e1, List.map_append]; have one : ∀ {x : Int}, Mem ([(⟨n, n⟩ : S34)].map L34) x ↔ x = n := fun {x} => by
     show Mem [((n : Int), (n : Int))] x ↔ _; rw [mem_cons]; exact ⟨fun h => by rcases h with h | h; exact Int.le_antisymm h.2 h.1; exact (Mem.nil h).elim, fun h => .inl ⟨by show (n : Int) ≤ x; omega, by show x ≤ (n : Int); omega⟩⟩
    refine ⟨valid_snoc.2 ⟨hv, by show (0 : Int) ≤ (n : Int); omega, Int.le_refl _, by show (n : Int) ≤ 255; omega, by show (-2 : Int) < (n : Int) - 1; omega, fun q hq => ?_⟩, fun x => ?_⟩
    ·show q.2 < (n : Int) - 1; have hr := hv.each q hq; have h1 := (hm q.2).1 ⟨q, hq, hr.2.1, Int.le_refl _⟩; rcases (by omega : q.2 < (n : Int) - 1 ∨ (n : Int) - 1 ≤ q.2) with h | h
     ·exact h
     ·refine (c ⟨by omega, ?_⟩).elim; have e : q.2.toNat = n - 1 := by omega
      rw [← e]; exact h1.2.2
    ·rw [mem_append, one, hm x]; constructor
     ·rintro (g | rfl)
      ·exact ⟨g.1, by omega, g.2.2⟩
      ·exact ⟨by omega, by omega, by rw [Int.toNat_natCast]; exact hp⟩
     ·rintro ⟨g1, g2, g3⟩; by_cases cx : x = n
      ·exact .inr cx
      ·exact .inl ⟨g1, by omega, g3⟩
  ·have e1 : setP p (n + 1) = setP p n := by rw [setP, if_neg hp]
   rw [e1]; refine ⟨hv, fun x => ?_⟩; rw [hm x]; constructor
   ·rintro ⟨g1, g2, g3⟩; exact ⟨g1, by omega, g3⟩
   ·rintro ⟨g1, g2, g3⟩; refine ⟨g1, ?_, g3⟩; rcases (by omega : x < (n : Int) ∨ (n : Int) ≤ x) with h | h
    ·exact h
    ·have e : x.toNat = n := by omega
     rw [e] at g3; exact (hp g3).elim
theorem setP_is (p : Nat → Bool) (q : Int → Prop) (h : ∀ x : Int, (0 ≤ x ∧ x < 256 ∧ p x.toNat = true) ↔ q x) : spans_IsSet (setP p 256) q := by
 obtain ⟨hv, hm⟩ := setP_spec p 256 (Nat.le_refl _); refine ⟨hv, ?_, fun x => by rw [hm x]; exact h x⟩; have := valid_len' hv (by omega) (by omega); simpa using this
theorem memb_mem {l : List S34} {p : Nat → Bool} (h : ∀ i : Nat, p i = memB (setL 255 (l.map L34)) i) (x : Int) : (0 ≤ x ∧ p x.toNat = true) ↔ Mem (setL 255 (l.map L34)) x := by
 constructor
 ·rintro ⟨h0, h1⟩; rw [h, memB_iff, Int.toNat_of_nonneg h0] at h1; exact h1
 ·intro hx; have hr := (setL_valid 255 (l.map L34)).range hx; exact ⟨hr.1, by rw [h, memB_iff, Int.toNat_of_nonneg hr.1]; exact hx⟩
theorem refMeet_is (l m : List S34) (hl : l.length * 16 ≤ 140737488351232) (hm : m.length * 16 ≤ 140737488351232) : ∃ r, Ev (fun k => leadtrailref03_Meet.f k l m) r ∧ spans_IsSet r (fun x => Mem (setL 255 (l.map L34)) x ∧ Mem (setL 255 (m.map L34)) x) := by
 obtain ⟨p, p1, p2⟩ := memb_is l hl; obtain ⟨q, q1, q2⟩ := memb_is m hm; refine ⟨_, Ev.bind p1 (Ev.bind q1 (evNow _)), setP_is _ _ fun x => ?_⟩; rw [← memb_mem p2, ← memb_mem q2, Bool.and_eq_true]; constructor
 ·rintro ⟨a, b, c, d⟩; exact ⟨⟨a, c⟩, ⟨a, d⟩⟩
 ·rintro ⟨⟨a, c⟩, ⟨_, d⟩⟩; have := (setL_valid 255 (l.map L34)).range ((memb_mem p2 x).1 ⟨a, c⟩); exact ⟨a, by omega, c, d⟩
end Go.Proofs.Ytoljcfocgaonpaa.PI3
end
section
namespace Go.Proofs.Ytoljcfocgaonpaa.PI3
open Go.RowKit Go.Proofs.YtoljcfocgaonpaaW.PrintWords Go.Proofs.YtoljcfocgaonpaaW.PrintLast Go.Proofs.YtoljcfocgaonpaaW.PrintMore Go.Proofs.Ytoljcfocgaonpaa.I Go.Proofs.LT
set_option linter.unusedVariables false
set_option linter.unusedSimpArgs false
theorem fixed03 : Ev (fun k => leadtraillaw03_fixed.f k) true := by
 have h1 := (spans_Norm_is ([⟨128, 159⟩, ⟨65, 90⟩, ⟨91, 91⟩, ⟨144, 175⟩] : List S34) (by decide)).2 (by decide); obtain ⟨r, h1, h2⟩ := h1; have hv : ValidFrom 255 (-2) [(65, 91), (128, 175)] := (validB_iff _ _ _).1 (by decide +kernel); have hr : r = [⟨65, 91⟩, ⟨128, 175⟩] := by
  refine spans_IsSet.uniq (b := [⟨65, 91⟩, ⟨128, 175⟩]) (q := fun x => Mem [(65, 91), (128, 175)] x) h2 ⟨hv, by decide, fun x => Iff.rfl⟩ fun x => ?_
  show Mem [(128, 159), (65, 90), (91, 91), (144, 175)] x ↔ Mem [(65, 91), (128, 175)] x; simp only [mem_cons]; constructor
  ·rintro (h | h | h | h | h) <;> first | exact .inl (by omega) | exact .inr (.inl (by omega)) | exact (Mem.nil h).elim
  ·rintro (h | h | h)
   ·by_cases e : x ≤ 90
    ·exact .inr (.inl (by omega))
    ·exact .inr (.inr (.inl (by omega)))
   ·by_cases e : x ≤ 159
    ·exact .inl (by omega)
    ·exact .inr (.inr (.inr (.inl (by omega))))
   ·exact (Mem.nil h).elim
 subst hr; have hs : setL 255 (([⟨65, 91⟩, ⟨128, 175⟩] : List S34).map L34) = [(65, 91), (128, 175)] := setL_of hv; obtain ⟨q, h3, h4⟩ := spans_Select_is ([⟨65, 91⟩, ⟨128, 175⟩] : List S34) 27 (by decide) (by decide); rw [hs] at h4; have hq : q = (128, true) := Sel.uniq hv h4 (.inl ⟨128, memB_iff.1 (by decide +kernel), by decide +kernel, rfl⟩); subst hq; have h5 := spans_Size_is ([⟨65, 91⟩, ⟨128, 175⟩] : List S34) (by decide); rw [hs, show size [(65, 91), (128, 175)] = 75 from by decide +kernel] at h5; simp only [leadtraillaw03_fixed.f]; refine Ev.bind h1 (Ev.bind h3 ?_); simp [rd_T34]; exact Ev.bind h5 (evNow _)
theorem copied03 (l : List S34) (hl : l.length * 16 ≤ 140737488351232) : leadtraillaw03_copied.f l = some l := by
 unfold leadtraillaw03_copied.f; simp only [Option.bind_some, List.length_nil, Nat.zero_add, List.nil_append]; rw [if_pos (by omega)]
end Go.Proofs.Ytoljcfocgaonpaa.PI3
end
section
namespace Go.Proofs.Ytoljcfocgaonpaa.PI3
open Go.RowKit Go.Proofs.YtoljcfocgaonpaaW.PrintWords Go.Proofs.YtoljcfocgaonpaaW.PrintLast Go.Proofs.YtoljcfocgaonpaaW.PrintMore Go.Proofs.Ytoljcfocgaonpaa.I Go.Proofs.LT
set_option linter.unusedVariables false
set_option linter.unusedSimpArgs false
theorem allMeet_is (l m : List S34) (hl : l.length * 16 ≤ 140737488351232) (hm : m.length * 16 ≤ 140737488351232) : ∃ r, Ev (fun k => leadtrailref03_Meet.f k l m) r ∧ spans_IsSet r (fun x => Mem (setL 255 (l.map L34)) x ∧ Mem (setL 255 (m.map L34)) x) := refMeet_is l m hl hm
theorem allSel_is (l : List S34) (x : Int) (h0 : 0 ≤ x) (h1 : x ≤ 4611686018427387904) (hl : l.length * 16 ≤ 140737488351232) : ∃ r, Ev (fun k => leadtrailref03_Select.f k l x) r ∧ Sel (setL 255 (l.map L34)) x r := refSelect_is l x hl
theorem memI_R (l : List S133) (fr : Int) : memI l fr = memR (l.map L133) fr := by
 unfold memI memR; rw [List.flatMap_map]; rfl
theorem setOne (lo x : Int) (h0 : 0 ≤ lo) : Mem (setL 255 (([⟨lo, 255⟩] : List S34).map L34)) x ↔ lo ≤ x ∧ x ≤ 255 := by
 show Mem (setL 255 [(lo, 255)]) x ↔ _; by_cases h : lo ≤ 255
 ·rw [setL_of (show ValidFrom 255 (-2) [(lo, 255)] from ⟨h0, h, Int.le_refl _, by show (-2 : Int) < lo - 1; omega, trivial⟩), mem_cons]; exact ⟨fun h => by rcases h with h | h; exact h; exact (Mem.nil h).elim, fun h => .inl h⟩
 ·constructor
  ·intro hm; have hv := setL_valid 255 [(lo, 255)]; unfold setL at hm; split at hm
   ·next hb => have := ((validB_iff _ _ _).1 hb).2.1; simp only at this; omega
   ·exact (Mem.nil hm).elim
  ·intro hm; omega
theorem leadtraillaw03_SpansAll_ev (l : List S34) (fr early : Int) (hl : l.length * 16 ≤ 140737488351232) : ∃ k, leadtraillaw03_SpansAll.Good k l fr early := by
 obtain ⟨s, s1, s2⟩ := spans_set_is l hl; obtain ⟨hv, hn⟩ := spans_set_facts s2; have hsv := setL_valid 255 (l.map L34); obtain ⟨m, m1, m2⟩ := allMeet_is l [⟨max fr 0, 255⟩] hl (by simp); have hml : m.length * 16 ≤ 140737488351232 := by have := m2.2.1; omega
 have z1 := refSize_is m hml; rw [setL_of m2.1] at z1; have hsz : ((memI s fr).length : Int) = size (m.map L34) := by
  rw [memI_R, s2]; refine memR_len (top := 255) (by omega) hsv m2.1 fun x => ?_
  rw [m2.2.2]; show (Mem _ x ∧ Mem _ x) ↔ _; rw [setOne (max fr 0) x (by omega)]; constructor
  ·rintro ⟨h1, h2, h3⟩; exact ⟨h1, by omega⟩
  ·rintro ⟨h1, h2⟩; have := hsv.range h1; exact ⟨h1, by omega, by omega⟩
 have hnb : (memI s fr).length ≤ 4611686018427387904 := by
  have := size_le m2.1 (by omega); omega
 obtain ⟨K0, f0⟩ := fixed03; obtain ⟨K1, f1⟩ := s1; obtain ⟨K2, f2⟩ := m1; obtain ⟨K3, f3⟩ := z1; let K := max (max K0 K1) (max K2 K3)
 have hsel : ∀ x : Int, ∃ r : Int × Bool, 0 ≤ x → x ≤ 4611686018427387904 → (∃ k, leadtrailref03_Select.f k l x = some r) ∧ Sel (setL 255 (l.map L34)) x r := fun x => by
  by_cases h : 0 ≤ x ∧ x ≤ 4611686018427387904
  ·obtain ⟨r, r1, r2⟩ := allSel_is l x h.1 h.2 hl; exact ⟨r, fun _ _ => ⟨Ev.rounds r1, r2⟩⟩
  ·exact ⟨(0, false), fun h0 h1 => absurd ⟨h0, h1⟩ h⟩
 refine ⟨K, s, m, fun x => memB (setL 255 (l.map L34)) x, fun x => rankL (setL 255 (l.map L34)) x, fun x => (hsel x).choose, f0 K (by omega), copied03 l hl, f1 K (by omega), by omega, ?_, fun x => Ev.rounds (refHas_is l x hl), fun x => Ev.rounds (refRank_is l x hl), ?_, fun x h0 h1 => ((hsel x).choose_spec h0 h1).1, f2 K (by omega), ?_, hnb, ?_⟩
 ·intro r hr; have := hv.each (L133 r) (List.mem_map_of_mem hr); simp only [L133] at this; omega
 ·intro x; have hz := size_le hsv (by omega); have hc := cd_size (n := 255 + 1) hsv (by omega); show 0 ≤ (rankL _ x).1 ∧ (rankL _ x).1 ≤ _; unfold rankL; split
  ·next hb =>
   have hr := hsv.range (memB_iff.1 hb); have := cd_mono (memB (setL 255 (l.map L34))) (show x.toNat ≤ 255 + 1 by omega); simp only; omega
  ·simp
 ·rw [hsz]; exact f3 K (by omega)
 ·intro pre x hp; rw [memI_R, s2] at hp; have hm : Mem (setL 255 (l.map L34)) x ∧ fr ≤ x := memR_mem.1 (hp.subset (by simp)); have hb : memB (setL 255 (l.map L34)) x = true := memB_iff.2 hm.1; have hrk : rankL (setL 255 (l.map L34)) x = ((cd (memB (setL 255 (l.map L34))) x.toNat : Int), true) := by unfold rankL; rw [if_pos hb]
  refine ⟨hb, hm.2, fun hne => ?_, fun he h0 => ?_⟩
  ·obtain ⟨i, y, rfl⟩ : ∃ i y, pre = i ++ [y] := ⟨pre.dropLast, pre.getLast hne, (List.dropLast_concat_getLast hne).symm⟩
   have hla : lastI (i ++ [y]) = y := by simp [lastI]
   obtain ⟨n1, n2⟩ := memR_next hsv hp; have hmy : Mem (setL 255 (l.map L34)) y ∧ fr ≤ y := memR_mem.1 (hp.subset (by simp)); have hby : memB (setL 255 (l.map L34)) y = true := memB_iff.2 hmy.1; rw [hla]; refine ⟨n1, ?_⟩; show (rankL _ x).1 = (rankL _ y).1 + 1; rw [hrk]; unfold rankL; rw [if_pos hby]; simp only; omega
  ·subst he; simp only [List.nil_append] at hp; have h0' : 0 < (rankL (setL 255 (l.map L34)) x).1 := h0; have hle : (rankL (setL 255 (l.map L34)) x).1 ≤ 4611686018427387904 := by
    have hr := hsv.range hm.1; have := cd_le (memB (setL 255 (l.map L34))) x.toNat; rw [hrk]; simp only; omega
   have h1 := ((hsel ((rankL (setL 255 (l.map L34)) x).1 - 1)).choose_spec (by omega) (by omega)).2; have e1 : (rankL (setL 255 (l.map L34)) x).1 = (cd (memB (setL 255 (l.map L34))) x.toNat : Int) := by rw [hrk]
   show ((hsel ((rankL (setL 255 (l.map L34)) x).1 - 1)).choose).1 < fr; rcases h1 with ⟨y, hy, hc, e⟩ | ⟨h2, e⟩
   ·rw [e]; show y < fr; exact memR_first hsv hp hy (by omega)
   ·exfalso
    have hr := hsv.range hm.1; have h3 := cd_lt (memB (setL 255 (l.map L34))) (show x.toNat < 255 + 1 by omega) (by rw [show ((x.toNat : Nat) : Int) = x by omega]; exact hb); have h4 := cd_size (n := 255 + 1) hsv (by omega); omega
end Go.Proofs.Ytoljcfocgaonpaa.PI3
namespace Go.Proofs.Ytoljcfocgaonpaa.Pure
open Go.Proofs.Ytoljcfocgaonpaa.I Go.Proofs.YtoljcfocgaonpaaW.PrintWords
theorem SpansAll : ∀ (l0 : List S34) (a1 : Int) (a2 : Int), (l0.length * 16 ≤ 140737488351232 ∧ ∀ x ∈ l0, ((Lit.int .i64 x.f0).wf = true ∧ (Lit.int .i64 x.f1).wf = true)) → (Lit.int .i64 a1).wf = true → (Lit.int .i64 a2).wf = true → ∃ k, leadtraillaw03_SpansAll.f k l0 a1 a2 = some true :=
 fun l0 a1 a2 h h1 h2 => by
  obtain ⟨k, hk⟩ := PI3.leadtraillaw03_SpansAll_ev l0 a1 a2 h.1; refine ⟨k, ?_⟩; unfold leadtraillaw03_SpansAll.f; rw [if_pos hk]
end Go.Proofs.Ytoljcfocgaonpaa.Pure
end
