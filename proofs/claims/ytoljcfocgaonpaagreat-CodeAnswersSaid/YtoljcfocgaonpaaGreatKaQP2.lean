/- Words and laws of this claim, of 7 texts. -/
import Derived.Test.YtoljcfocgaonpaaGreatKaIx0
import Derived.Test.YtoljcfocgaonpaaGreatKaIx2
import Derived.Test.YtoljcfocgaonpaaGreatKaIx4
import Derived.Test.YtoljcfocgaonpaaGreatKaIx5
import Derived.Test.YtoljcfocgaonpaaGreatKaIx7
import Derived.Test.YtoljcfocgaonpaaGreatKaIx8
import Derived.Test.YtoljcfocgaonpaaGreatKaQP0
import Derived.Test.YtoljcfocgaonpaaGreatKaQP1
import Derived.Test.YtoljcfocgaonpaaGreatKaIx22
import Derived.Test.YtoljcfocgaonpaaGreatKaQW1
import Derived.OpenShut
import Derived.Test.YtoljcfocgaonpaaGreatKaIx3
import Derived.Test.YtoljcfocgaonpaaGreatKaIx6
import Derived.Test.YtoljcfocgaonpaaGreatKaIx9
section
namespace Go.Proofs.PB3
open Go.RowKit Go.Proofs.Zw.PrintWords Go.Proofs.Zw.PrintLast Go.Proofs.Zw.PrintMore Go.Proofs.I Go.Proofs.LT
set_option linter.unusedVariables false
set_option linter.unusedSimpArgs false
theorem Bq {α : Type} {g : Nat → Option α} {r : α} (h : Ev (fun k => g (k + 1)) r) : Ev g r := Ev.step (fun _ => rfl) h
theorem Cb {α : Type} (r : α) : Ev (fun _ => some r) r := Ev.now r
theorem w64 {x : Int} (h0 : -9223372036854775808 ≤ x) (h1 : x ≤ 9223372036854775807) : wrap64 x = x := by unfold wrap64; omega
def L95 (x : S95) : Run := (x.f0, x.f1)
def L58 (x : S58) : Run := (x.f0, x.f1)
theorem Uh : ∀ {a b : List S58}, a.map L58 = b.map L58 → a = b
 | [], [], _ => rfl
 | [], _ :: _, h => by simp at h
 | _ :: _, [], h => by simp at h
 | ⟨_, _⟩ :: t, ⟨_, _⟩ :: t', h => by
  simp only [List.map_cons, List.cons.injEq, L58, Prod.mk.injEq] at h; obtain ⟨⟨rfl, rfl⟩, h⟩ := h; rw [Uh h]
theorem rd95 (pre : List S95) (r : S95) (t : List S95) : Ah (pre ++ r :: t) (pre.length : Int) = r := by simp [Ah]
theorem rd58 (pre : List S58) (r : S58) (t : List S58) : Ch (pre ++ r :: t) (pre.length : Int) = r := by simp [Ch]
theorem Ek {α : Type} (pre : List α) (r : α) : (((pre ++ [r]).length : Nat) : Int) = (pre.length : Int) + 1 := by simp
theorem Cn {α : Type} (pre : List α) (r : α) (t : List α) : (pre ++ [r]) ++ t = pre ++ r :: t := by simp
theorem Et {α : Type} (pre : List α) (r : α) (t : List α) : (((pre ++ r :: t).length : Nat) : Int) = pre.length + 1 + t.length := by simp; omega
def Fb (x : S58) : S95 := ⟨x.f0, x.f1⟩
theorem Iv (N : Nat) (hN : N ≤ 8796093022206) : ∀ (t pre : List S58) (out : List S95), (pre ++ t).length ≤ N → out.length = pre.length → Ev (fun k => Cm.l0 k out (pre ++ t) (((pre ++ t).length : Nat) : Int) (pre.length : Int)) (out ++ t.map Fb)
 | [], pre, out, _, _ => by
  refine Bq ?_; simp only [Cm.l0]; rw [List.append_nil]; simp only [if_neg (show ¬ ((pre.length : Nat) : Int) < ((pre.length : Nat) : Int) by omega)]; simpa using Cb out
 | r :: t, pre, out, hl, ho => by
  have hlc := Et pre r t; have hlt : out.length < 8796093022208 := by simp at hl; omega
  have ih := Iv N hN t (pre ++ [r]) (out ++ [Fb r]) (by rw [Cn]; exact hl) (by simp [ho]); rw [Cn, Ek] at ih; refine Bq ?_; have hw : Aa (wrap64 ((pre.length : Int) + 1) = (pre.length : Int) + 1) := Aa.mk (w64 (by omega) (by simp at hl; omega)); have c1 : (pre.length : Int) < ((pre ++ r :: t).length : Nat) := by rw [hlc]; omega
  have c2 : (0 : Int) ≤ pre.length := by omega
  simp only [Cm.l0, if_pos c1, if_pos c2, if_pos hlt, rd58, hw.out]; simpa [Fb] using ih
theorem Ju (l : List S58) (hl : l.length * 16 ≤ 140737488351232) : Ev (fun k => Cm.f k l) (l.map Fb) := by
 have h := Iv l.length (by omega) l [] [] (by simp) rfl; have c1 : (0 : Int) ≤ (l.length : Int) := by omega
 have c2 : ((l.length : Int) : Int).toNat ≤ 17592186044416 := by omega
 simp only [Cm.f, if_pos c1, if_pos c2]; simpa using h
theorem Hw (l : List S58) : (l.map Fb).map L95 = l.map L58 := by rw [List.map_map]; rfl
theorem Ic (N : Nat) (hN : N ≤ 8796093022206) (top : Int) (ht : top ≤ 1073741823) : ∀ (t pre : List S95) (last : Int), (pre ++ t).length ≤ N → Ev (fun k => Cd.l0 k top last (pre ++ t) (((pre ++ t).length : Nat) : Int) (pre.length : Int)) (LT.Fd top last (t.map L95))
 | [], pre, last, _ => by
  refine Bq ?_; simp only [Cd.l0]; rw [List.append_nil]; simp only [if_neg (show ¬ ((pre.length : Nat) : Int) < ((pre.length : Nat) : Int) by omega)]; rw [show LT.Fd top last (([] : List S95).map L95) = true from Jn _ _]; exact Cb _
 | r :: t, pre, last, hl => by
  have hlc := Et pre r t; have ih := Ic N hN top ht t (pre ++ [r]) r.f1 (by rw [Cn]; exact hl); rw [Cn, Ek] at ih; refine Bq ?_; have hw : Aa (wrap64 ((pre.length : Int) + 1) = (pre.length : Int) + 1) := Aa.mk (w64 (by omega) (by simp at hl; omega)); have c1 : (pre.length : Int) < ((pre ++ r :: t).length : Nat) := by rw [hlc]; omega
  have c2 : (0 : Int) ≤ pre.length := by omega
  simp only [Cd.l0, if_pos c1, if_pos c2, rd95, hw.out, List.map_cons, Ii, L95]; by_cases d1 : r.f0 < 0
  ·simp only [if_pos d1]; exact Cb _
  by_cases d2 : r.f0 > r.f1
  ·simp only [if_neg d1, if_pos d2]; exact Cb _
  by_cases d3 : r.f1 > top
  ·simp only [if_neg d1, if_neg d2, if_pos d3]; exact Cb _
  have hw2 : Aa (wrap64 (r.f0 - 1) = r.f0 - 1) := Aa.mk (w64 (by omega) (by omega)); simp only [if_neg d1, if_neg d2, if_neg d3, hw2.out]; by_cases d4 : r.f0 - 1 ≤ last
  ·simp only [if_pos d4]; exact Cb _
  ·simp only [if_neg d4]; exact ih
theorem Lo (top : Int) (ht : top ≤ 1073741823) (l : List S95) (hl : l.length ≤ 8796093022206) : Ev (fun k => Cd.f k l top) (LT.Fd top (-2) (l.map L95)) := by
 have h := Ic l.length hl top ht l [] (-2) (by simp); simpa [Cd.f] using h
theorem Ja (N : Nat) (hN : N ≤ 8796093022206) (top : Int) (ht : top ≤ 1073741823) : ∀ (t pre : List S95) (last acc : Int), (pre ++ t).length ≤ N → An top last (t.map L95) → 0 ≤ acc → acc + size (t.map L95) ≤ 4294967296 →
 Ev (fun k => Dk.l0 k acc (pre ++ t) (((pre ++ t).length : Nat) : Int) (pre.length : Int)) (acc + size (t.map L95))
 | [], pre, last, acc, _, _, _, _ => by
  refine Bq ?_; simp only [Dk.l0]; rw [List.append_nil]; simp only [if_neg (show ¬ ((pre.length : Nat) : Int) < ((pre.length : Nat) : Int) by omega)]; simpa [Gs] using Cb acc
 | r :: t, pre, last, acc, hl, hv, h0, h1 => by
  have hlc := Et pre r t; have hs := Hp hv.2.2.2.2; have e1 : size ((r :: t).map L95) = (r.f1 - r.f0 + 1) + size (t.map L95) := Gu _ _; have v0 : 0 ≤ r.f0 := hv.1; have v1 : r.f0 ≤ r.f1 := hv.2.1; have v2 : r.f1 ≤ top := hv.2.2.1; have ih := Ja N hN top ht t (pre ++ [r]) r.f1 (acc + (r.f1 - r.f0 + 1)) (by rw [Cn]; exact hl) hv.2.2.2.2 (by omega) (by omega); rw [Cn, Ek] at ih; refine Bq ?_; have hw : Aa (wrap64 ((pre.length : Int) + 1) = (pre.length : Int) + 1) := Aa.mk (w64 (by omega) (by simp at hl; omega)); have c1 : (pre.length : Int) < ((pre ++ r :: t).length : Nat) := by rw [hlc]; omega
  have c2 : (0 : Int) ≤ pre.length := by omega
  have w1 : Aa (wrap64 (r.f1 - r.f0) = r.f1 - r.f0) := Aa.mk (w64 (by omega) (by omega)); have w2 : Aa (wrap64 (r.f1 - r.f0 + 1) = r.f1 - r.f0 + 1) := Aa.mk (w64 (by omega) (by omega)); have w3 : Aa (wrap64 (acc + (r.f1 - r.f0 + 1)) = acc + (r.f1 - r.f0 + 1)) := Aa.mk (w64 (by omega) (by omega)); simp only [Dk.l0, if_pos c1, if_pos c2, rd95, hw.out, w1.out, w2.out, w3.out]; have e2 : acc + size ((r :: t).map L95) = acc + (r.f1 - r.f0 + 1) + size (t.map L95) := by omega
  rw [e2]; exact ih
theorem Si (top : Int) (ht : top ≤ 1073741823) (l : List S95) (hl : l.length ≤ 8796093022206) (hv : An top (-2) (l.map L95)) : Ev (fun k => Dk.f k l) (size (l.map L95)) := by
 have h0 : (0:Int) ≤ top ∨ l = [] := by
  cases l with
  | nil => exact .inr rfl
  | cons r t => have := hv.1; have := hv.2.1; have := hv.2.2.1; exact .inl (by omega)
 have hs : size (l.map L95) ≤ 4294967296 := by
  rcases h0 with h0 | rfl
  ·have := Jz hv h0; omega
  ·simp [Gs]
 have h := Ja l.length hl top ht l [] (-2) 0 (by simp) hv (by omega) (by omega); simpa [Dk.f] using h
def Kq (l : List Run) (x : Int) : Int × Bool := if memB l x = true then ((cd (memB l) x.toNat : Int), true) else (0, false)
theorem Jc (N : Nat) (hN : N ≤ 8796093022206) (top : Int) (ht : top ≤ 1073741823) (x : Int) (hx : (Lit.int .i64 x).wf = true) : ∀ (t pre : List S95) (last acc : Int), (pre ++ t).length ≤ N → An top last (t.map L95) → 0 ≤ acc → acc + size (t.map L95) ≤ 4294967296 →
 Ev (fun k => Dl.l0 k x acc (pre ++ t) (((pre ++ t).length : Nat) : Int) (pre.length : Int)) (if memB (t.map L95) x = true then (acc + (cd (memB (t.map L95)) x.toNat : Int), true) else (0, false))
 | [], pre, last, acc, _, _, _, _ => by
  refine Bq ?_; simp only [Dl.l0]; rw [List.append_nil]; simp only [if_neg (show ¬ ((pre.length : Nat) : Int) < ((pre.length : Nat) : Int) by omega)]; simpa [memB] using Cb ((0 : Int), false)
 | r :: t, pre, last, acc, hl, hv, h0, h1 => by
  have hlc := Et pre r t; have hs := Hp hv.2.2.2.2; have e1 : size ((r :: t).map L95) = (r.f1 - r.f0 + 1) + size (t.map L95) := Gu _ _; have v0 : 0 ≤ r.f0 := hv.1; have v1 : r.f0 ≤ r.f1 := hv.2.1; have v2 : r.f1 ≤ top := hv.2.2.1; have ih := Jc N hN top ht x hx t (pre ++ [r]) r.f1 (acc + (r.f1 - r.f0 + 1)) (by rw [Cn]; exact hl) hv.2.2.2.2 (by omega) (by omega); rw [Cn, Ek] at ih; refine Bq ?_; have hw : Aa (wrap64 ((pre.length : Int) + 1) = (pre.length : Int) + 1) := Aa.mk (w64 (by omega) (by simp at hl; omega)); have c1 : (pre.length : Int) < ((pre ++ r :: t).length : Nat) := by rw [hlc]; omega
  have c2 : (0 : Int) ≤ pre.length := by omega
  have w1 : Aa (wrap64 (r.f1 - r.f0) = r.f1 - r.f0) := Aa.mk (w64 (by omega) (by omega)); have w2 : Aa (wrap64 (r.f1 - r.f0 + 1) = r.f1 - r.f0 + 1) := Aa.mk (w64 (by omega) (by omega)); have w3 : Aa (wrap64 (acc + (r.f1 - r.f0 + 1)) = acc + (r.f1 - r.f0 + 1)) := Aa.mk (w64 (by omega) (by omega)); simp only [Dl.l0, if_pos c1, if_pos c2, rd95, hw.out, w1.out, w2.out, w3.out]; have hm : (L95 r).1 = r.f0 ∧ (L95 r).2 = r.f1 := ⟨rfl, rfl⟩; by_cases d1 : x < r.f0
  ·simp only [if_pos d1]; have : ¬ memB ((r :: t).map L95) x = true := fun h => by
    rcases mem_cons.1 (Dh.1 h) with h | h
    ·have := h.1; simp only [hm.1] at this; omega
    ·have := An.gt hv.2.2.2.2 h; simp only [hm.2] at this; omega
   rw [if_neg this]; exact Cb _
  by_cases d2 : x ≤ r.f1
  ·have w4 : Aa (wrap64 (acc + x) = acc + x) := Aa.mk (w64 (by omega) (by omega)); have w5 : Aa (wrap64 (acc + x - r.f0) = acc + x - r.f0) := Aa.mk (w64 (by omega) (by omega)); simp only [if_neg d1, if_pos d2, w4.out, w5.out]; have h : memB ((r :: t).map L95) x = true := Dh.2 (mem_cons.2 (.inl ⟨by simp only [hm.1]; omega, by simp only [hm.2]; omega⟩)); have hc := Gz (x := x) (show An top last (L95 r :: t.map L95) from hv) (by simp only [hm.1]; omega) (by simp only [hm.2]; omega); rw [if_pos h, List.map_cons, hc, hm.1, show acc + (x - r.f0) = acc + x - r.f0 by omega]; exact Cb _
  ·simp only [if_neg d1, if_neg d2]; have hc := Hk (x := x) (show An top last (L95 r :: t.map L95) from hv) (by simp only [hm.2]; omega); have e2 : memB ((r :: t).map L95) x = memB (t.map L95) x := Th ⟨fun h => by
    rcases mem_cons.1 h with h | h
    ·have := h.2; simp only [hm.2] at this; omega
    ·exact h, fun h => mem_cons.2 (.inr h)⟩
   have e3 : acc + (cd (memB ((r :: t).map L95)) x.toNat : Int) = acc + (r.f1 - r.f0 + 1) + (cd (memB (t.map L95)) x.toNat : Int) := by rw [List.map_cons, hc, hm.1, hm.2]; omega
   rw [e2, e3]; exact ih
theorem Ly {top : Int} {l : List Run} (hv : An top (-2) l) (ht : top ≤ 1073741823) : size l ≤ 4294967296 := by
 cases l with
 | nil => simp [Gs]
 | cons r t => have := hv.1; have := hv.2.1; have := hv.2.2.1; have := Jz hv (by omega); omega
theorem Ss (top : Int) (ht : top ≤ 1073741823) (l : List S95) (x : Int) (hx : (Lit.int .i64 x).wf = true) (hl : l.length ≤ 8796093022206) (hv : An top (-2) (l.map L95)) : Ev (fun k => Dl.f k l x) (Kq (l.map L95) x) := by
 have h := Jc l.length hl top ht x hx l [] (-2) 0 (by simp) hv (by omega) (by have := Ly hv ht; omega); simpa [Dl.f, Kq] using h
def Sel (l : List Run) (k : Int) (r : Int × Bool) : Prop := (∃ x, Mem l x ∧ (cd (memB l) x.toNat : Int) = k ∧ r = (x, true)) ∨ ((k < 0 ∨ size l ≤ k) ∧ r = (0, false))
theorem Sel.uniq {top : Int} {l : List Run} (hv : An top (-2) l) {k : Int} {r q : Int × Bool} (h : Sel l k r) (h' : Sel l k q) : r = q := by
 have lt : ∀ x, Mem l x → (cd (memB l) x.toNat : Int) < size l := fun x hx => by
  have hr := hv.range hx; have := Ji (n := top.toNat + 1) hv (by omega); have e : ((x.toNat : Nat) : Int) = x := Int.toNat_of_nonneg hr.1; have := Qm (memB l) (m := x.toNat) (n := top.toNat + 1) (by omega) (by rw [e]; exact Dh.2 hx); omega
 rcases h with ⟨x, hx, hk, rfl⟩ | ⟨hk, rfl⟩ <;> rcases h' with ⟨y, hy, hk', rfl⟩ | ⟨hk', rfl⟩
 ·have ex : ((x.toNat : Nat) : Int) = x := Int.toNat_of_nonneg (hv.range hx).1; have ey : ((y.toNat : Nat) : Int) = y := Int.toNat_of_nonneg (hv.range hy).1; have := Tw (memB l) (m := x.toNat) (n := y.toNat) (by rw [ex]; exact Dh.2 hx) (by rw [ey]; exact Dh.2 hy) (by omega); rw [show x = y by omega]
 ·have := lt x hx; omega
 ·have := lt y hy; omega
 ·rfl
theorem Hq (N : Nat) (hN : N ≤ 8796093022206) (top : Int) (ht : top ≤ 1073741823) : ∀ (t pre : List S95) (last kk : Int), (pre ++ t).length ≤ N → An top last (t.map L95) → 0 ≤ kk → kk ≤ 9223372036854775807 →
 ∃ r, Ev (fun k => Cf.l0 k kk (pre ++ t) (((pre ++ t).length : Nat) : Int) (pre.length : Int)) r ∧ Sel (t.map L95) kk r
 | [], pre, last, kk, _, _, h0, _ => by
  refine ⟨(0, false), Bq ?_, .inr ⟨.inr (by simpa [Gs] using h0), rfl⟩⟩; simp only [Cf.l0]; rw [List.append_nil]; simp only [if_neg (show ¬ ((pre.length : Nat) : Int) < ((pre.length : Nat) : Int) by omega)]; exact Cb _
 | r :: t, pre, last, kk, hl, hv, h0, h1 => by
  have hlc := Et pre r t; have v0 : 0 ≤ r.f0 := hv.1; have v1 : r.f0 ≤ r.f1 := hv.2.1; have v2 : r.f1 ≤ top := hv.2.2.1; have hm : (L95 r).1 = r.f0 ∧ (L95 r).2 = r.f1 := ⟨rfl, rfl⟩; have hw : Aa (wrap64 ((pre.length : Int) + 1) = (pre.length : Int) + 1) := Aa.mk (w64 (by omega) (by simp at hl; omega)); have c1 : (pre.length : Int) < ((pre ++ r :: t).length : Nat) := by rw [hlc]; omega
  have c2 : (0 : Int) ≤ pre.length := by omega
  have w1 : Aa (wrap64 (r.f1 - r.f0) = r.f1 - r.f0) := Aa.mk (w64 (by omega) (by omega)); have w2 : Aa (wrap64 (r.f1 - r.f0 + 1) = r.f1 - r.f0 + 1) := Aa.mk (w64 (by omega) (by omega)); by_cases d1 : kk ≤ r.f1 - r.f0
  ·have w3 : Aa (wrap64 (r.f0 + kk) = r.f0 + kk) := Aa.mk (w64 (by omega) (by omega)); refine ⟨(r.f0 + kk, true), Bq ?_, .inl ⟨r.f0 + kk, mem_cons.2 (.inl ⟨by simp only [hm.1]; omega, by simp only [hm.2]; omega⟩), ?_, rfl⟩⟩
   ·simp only [Cf.l0, if_pos c1, if_pos c2, rd95, hw.out, w1.out, w2.out, w3.out, if_pos d1]; exact Cb _
   ·have hc := Gz (x := r.f0 + kk) (show An top last (L95 r :: t.map L95) from hv) (by simp only [hm.1]; omega) (by simp only [hm.2]; omega); rw [List.map_cons, hc, hm.1]; omega
  ·have w3 : Aa (wrap64 (kk - (r.f1 - r.f0 + 1)) = kk - (r.f1 - r.f0 + 1)) := Aa.mk (w64 (by omega) (by omega)); obtain ⟨q, hq, hs⟩ := Hq N hN top ht t (pre ++ [r]) r.f1 (kk - (r.f1 - r.f0 + 1)) (by rw [Cn]; exact hl) hv.2.2.2.2 (by omega) (by omega); rw [Cn, Ek] at hq; refine ⟨q, Bq ?_, ?_⟩
   ·simp only [Cf.l0, if_pos c1, if_pos c2, rd95, hw.out, w1.out, w2.out, w3.out, if_neg d1]; exact hq
   ·rcases hs with ⟨x, hx, hk, rfl⟩ | ⟨hk, rfl⟩
    ·have hg := An.gt hv.2.2.2.2 hx; rw [hm.2] at hg; refine .inl ⟨x, mem_cons.2 (.inr hx), ?_, rfl⟩; have hc := Hk (x := x) (show An top last (L95 r :: t.map L95) from hv) (by simp only [hm.2]; omega); rw [List.map_cons, hc, hk, hm.1, hm.2]; omega
    ·have e1 : size ((r :: t).map L95) = (r.f1 - r.f0 + 1) + size (t.map L95) := Gu _ _; exact .inr ⟨.inr (by omega), rfl⟩
theorem Pb (top : Int) (ht : top ≤ 1073741823) (l : List S95) (kk : Int) (hk : (Lit.int .i64 kk).wf = true) (hl : l.length ≤ 8796093022206) (hv : An top (-2) (l.map L95)) : ∃ r, Ev (fun k => Cf.f k l kk) r ∧ Sel (l.map L95) kk r := by
 by_cases h0 : kk < 0
 ·exact ⟨(0, false), by simp only [Cf.f, if_pos h0]; exact Cb _, .inr ⟨.inl h0, rfl⟩⟩
 ·have hb := bounds_i64 hk; obtain ⟨r, hr, hs⟩ := Hq l.length hl top ht l [] (-2) kk (by simp) hv (by omega) (by omega); exact ⟨r, by simp only [Cf.f, if_neg h0]; simpa using hr, hs⟩
theorem Mq (a b : Int) : mx a b = max a b := by unfold mx; omega
theorem Rw (a b : Int) : mn a b = min a b := by unfold mn; omega
theorem Hs (N : Nat) (hN : N ≤ 8796093022206) (top : Int) (ht : top ≤ 1073741823) : ∀ (t pre o : List S95) (q : S95), (pre ++ t).length ≤ N → o.length + t.length + 1 ≤ N → (∀ r ∈ t, q.f0 ≤ r.f0) → t.Pairwise (fun x y => x.f0 ≤ y.f0) → (∀ r ∈ q :: t, 0 ≤ r.f0 ∧ r.f0 ≤ r.f1 ∧ r.f1 ≤ top) →
 ∃ m, Ev (fun k => Bn.l0 k (pre ++ t) (o ++ [q]) (((pre ++ t).length : Nat) : Int) (pre.length : Int)) (o ++ m, pre ++ t) ∧ m.length ≤ t.length + 1 ∧ (∀ last, last < q.f0 - 1 → An top last (m.map L95)) ∧ ∀ x, Mem (m.map L95) x ↔ Mem ((q :: t).map L95) x
 | [], pre, o, q, _, _, _, _, hr => by
  have hq := hr q List.mem_cons_self; refine ⟨[q], Bq ?_, by simp, fun last hlast => ⟨hq.1, hq.2.1, hq.2.2, hlast, trivial⟩, fun x => Iff.rfl⟩; simp only [Bn.l0]; rw [List.append_nil]; simp only [if_neg (show ¬ ((pre.length : Nat) : Int) < ((pre.length : Nat) : Int) by omega)]; exact Cb _
 | r :: t, pre, o, q, hl, ho, hs, hp, hr => by
  have hq := hr q List.mem_cons_self; have hr1 := hr r (List.mem_cons_of_mem _ List.mem_cons_self); have hqr := hs r List.mem_cons_self; have hp' := List.pairwise_cons.1 hp; have hlc := Et pre r t; have hw : Aa (wrap64 ((pre.length : Int) + 1) = (pre.length : Int) + 1) := Aa.mk (w64 (by omega) (by simp at hl; omega)); have c1 : (pre.length : Int) < ((pre ++ r :: t).length : Nat) := by rw [hlc]; omega
  have c2 : (0 : Int) ≤ pre.length := by omega
  have ol : (((o ++ [q]).length : Nat) : Int) = (o.length : Int) + 1 := Ek o q; have hob : (o.length : Int) ≤ 8796093022207 := by omega
  have c3 : (((o ++ [q]).length : Nat) : Int) > 0 := by omega
  have w1 : Aa (wrap64 ((((o ++ [q]).length : Nat) : Int) - 1) = (o.length : Int)) := Aa.mk (by rw [ol, w64 (by omega) (by omega)]; omega); have c4 : (0 : Int) ≤ (o.length : Int) := by omega
  have c5 : (o.length : Int) < (((o ++ [q]).length : Nat) : Int) := by omega
  have r1 : Ah (o ++ [q]) (o.length : Int) = q := rd95 o q []; have w2 : Aa (wrap64 (q.f1 + 1) = q.f1 + 1) := Aa.mk (w64 (by omega) (by omega)); have hlt : (o ++ [q]).length < 8796093022208 := by simp at ho ⊢; omega
  by_cases d : r.f0 ≤ q.f1 + 1
  ·obtain ⟨m, g1, g2, g3, g4⟩ := Hs N hN top ht t (pre ++ [r]) o ⟨q.f0, max q.f1 r.f1⟩ (by rw [Cn]; exact hl) (by simp at ho ⊢; omega) (fun z hz => Int.le_trans hqr (hp'.1 z hz)) hp'.2 (fun z hz => by
    rcases List.mem_cons.1 hz with rfl | hz
    ·exact ⟨hq.1, by show q.f0 ≤ max q.f1 r.f1; omega, by show max q.f1 r.f1 ≤ top; omega⟩
    ·exact hr z (List.mem_cons_of_mem _ (List.mem_cons_of_mem _ hz)))
   rw [Cn, Ek] at g1; refine ⟨m, Bq ?_, by simp; omega, g3, fun x => ?_⟩
   ·simp only [Bn.l0, if_pos c1, if_pos c2, rd95, hw.out, if_pos c3, w1.out, if_pos c4, if_pos c5, r1, w2.out, if_pos d, Mq]; have : (o ++ [q]).set (o.length : Int).toNat (⟨q.f0, max q.f1 r.f1⟩ : S95) = o ++ [⟨q.f0, max q.f1 r.f1⟩] := by simp
    rw [this]; exact g1
   ·rw [g4 x]; simp only [List.map_cons, mem_cons]; show (q.f0 ≤ x ∧ x ≤ max q.f1 r.f1) ∨ _ ↔ (q.f0 ≤ x ∧ x ≤ q.f1) ∨ (r.f0 ≤ x ∧ x ≤ r.f1) ∨ _; constructor
    ·rintro (h | h)
     ·by_cases e : x ≤ q.f1
      ·exact .inl (by omega)
      ·exact .inr (.inl (by omega))
     ·exact .inr (.inr h)
    ·rintro (h | h | h)
     ·exact .inl (by omega)
     ·exact .inl (by omega)
     ·exact .inr h
  ·obtain ⟨m, g1, g2, g3, g4⟩ := Hs N hN top ht t (pre ++ [r]) (o ++ [q]) r (by rw [Cn]; exact hl) (by simp at ho ⊢; omega) hp'.1 hp'.2 (fun z hz => hr z (List.mem_cons_of_mem _ hz)); rw [Cn, Ek] at g1; refine ⟨q :: m, Bq ?_, by simp; omega, fun last hlast => ⟨hq.1, hq.2.1, hq.2.2, hlast, g3 _ (by show q.f1 < _; omega)⟩, fun x => ?_⟩
   ·simp only [Bn.l0, if_pos c1, if_pos c2, rd95, hw.out, if_pos c3, w1.out, if_pos c4, if_pos c5, r1, w2.out, if_neg d, if_pos hlt]; simpa using g1
   ·rw [List.map_cons, mem_cons, g4 x]; exact mem_cons.symm
theorem Tb (top : Int) (ht : top ≤ 1073741823) (l : List S95) (hl : l.length ≤ 8796093022206) (hr : ∀ r ∈ l, 0 ≤ r.f0 ∧ r.f0 ≤ r.f1 ∧ r.f1 ≤ top) :
 ∃ m s, Ev (fun k => Bn.f k l) (m, s) ∧ m.length ≤ l.length ∧ An top (-2) (m.map L95) ∧ ∀ x, Mem (m.map L95) x ↔ Mem (l.map L95) x := by
 obtain ⟨s, hs⟩ : ∃ s, Cq.f l = some s := ⟨_, by unfold Cq.f; rw [if_pos (show l.length < 8796093022208 by omega)]⟩
 obtain ⟨hp, hsort⟩ := Cq.spec l s hs; have hlen := hp.length_eq; have hmem : ∀ x, Mem (s.map L95) x ↔ Mem (l.map L95) x := fun x => Rf (hp.map _)
 cases s with
 | nil =>
  refine ⟨[], [], ?_, by simp, trivial, hmem⟩; simp only [Bn.f, hs, Option.bind_some]; refine Bq ?_; simp only [Bn.l0, ← hlen]; simp only [List.length_nil, if_neg (show ¬ (0 : Int) < ((0 : Nat) : Int) by omega)]; exact Cb _
 | cons q t =>
  have hr' : ∀ r ∈ q :: t, 0 ≤ r.f0 ∧ r.f0 ≤ r.f1 ∧ r.f1 ≤ top := fun r h => hr r (hp.mem_iff.1 h)
  have hsp := List.pairwise_cons.1 hsort; obtain ⟨m, g1, g2, g3, g4⟩ := Hs (q :: t).length (by omega) top ht t [q] [] q (by simp) (by simp) hsp.1 hsp.2 hr'; have hq := hr' q List.mem_cons_self; refine ⟨m, q :: t, ?_, by rw [← hlen]; simpa using g2, g3 _ (by omega), fun x => (g4 x).trans (hmem x)⟩; simp only [Bn.f, hs, Option.bind_some, ← hlen]; refine Bq ?_; have c1 : (0 : Int) < (((q :: t).length : Nat) : Int) := by rw [List.length_cons]; omega
  have r1 : Ah (q :: t) 0 = q := rfl; have hw : Aa (wrap64 ((0 : Int) + 1) = 1) := Aa.mk (by rw [w64 (by omega) (by omega)]; rfl); simp only [Bn.l0, if_pos c1, if_pos (show (0 : Int) ≤ 0 by omega), r1, List.length_nil, if_neg (show ¬ ((0 : Nat) : Int) > 0 by omega), if_pos (show (0 : Nat) < 8796093022208 from Nat.zero_lt_succ _), hw.out]; exact g1
def setL (top : Int) (l : List Run) : List Run := if LT.Fd top (-2) l = true then l else []
theorem Hm (top : Int) (l : List Run) : An top (-2) (setL top l) := by
 unfold setL; split
 ·rename_i h; exact (Gk _ _ _).1 h
 ·trivial
theorem setL_of {top : Int} {l : List Run} (h : An top (-2) l) : setL top l = l := by unfold setL; rw [if_pos ((Gk _ _ _).2 h)]
theorem Ie {top : Int} : ∀ {l : List Run} {last : Int}, An top last l → (l.length : Int) ≤ size l
 | [], _, _ => by simp [Gs]
 | r :: t, _, hv => by
  have := Ie hv.2.2.2.2; have := hv.2.1; rw [Gu]; simp; omega
theorem Jm {top : Int} {l : List Run} {last : Int} (hv : An top last l) (h0 : 0 ≤ top) (ht : top ≤ 1073741823) : l.length ≤ 1073741824 := by
 have := Ie hv; have := Jz hv h0; omega
theorem Hx (l : List S58) (hl : l.length * 16 ≤ 140737488351232) : ∃ s, Ev (fun k => Ee.f k l) s ∧ s.map L95 = setL 255 (l.map L58) := by
 have h1 := Ju l hl; have h2 := Lo 255 (by omega) (l.map Fb) (by simp; omega); rw [Hw] at h2; by_cases d : LT.Fd 255 (-2) (l.map L58) = true
 ·refine ⟨l.map Fb, Ev.bind h1 (Ev.bind h2 ?_), by rw [Hw]; unfold setL; rw [if_pos d]⟩; simp only [if_pos d]; exact Cb _
 ·refine ⟨[], Ev.bind h1 (Ev.bind h2 ?_), by unfold setL; rw [if_neg d]; rfl⟩; simp only [if_neg d]; exact Cb _
theorem Gr {l : List S58} {s : List S95} (h : s.map L95 = setL 255 (l.map L58)) : An 255 (-2) (s.map L95) ∧ s.length ≤ 1073741824 := by
 have hv : An 255 (-2) (s.map L95) := by rw [h]; exact Hm _ _
 have := Jm hv (by omega) (by omega); exact ⟨hv, by simpa using this⟩
theorem Og (l : List S58) (hl : l.length * 16 ≤ 140737488351232) : Ev (fun k => Fo.f k l) (size (setL 255 (l.map L58))) := by
 obtain ⟨s, h1, h2⟩ := Hx l hl; obtain ⟨hv, hn⟩ := Gr h2; have h3 := Si 255 (by omega) s (by omega) hv; rw [h2] at h3; exact Ev.bind h1 (Ev.bind h3 (Cb _))
theorem Oh (l : List S58) (x : Int) (hx : (Lit.int .i64 x).wf = true) (hl : l.length * 16 ≤ 140737488351232) : Ev (fun k => Hl.f k l x) (Kq (setL 255 (l.map L58)) x) := by
 obtain ⟨s, h1, h2⟩ := Hx l hl; obtain ⟨hv, hn⟩ := Gr h2; have h3 := Ss 255 (by omega) s x hx (by omega) hv; rw [h2] at h3; exact Ev.bind h1 (Ev.bind h3 (Cb _))
theorem Me (l : List S58) (kk : Int) (hk : (Lit.int .i64 kk).wf = true) (hl : l.length * 16 ≤ 140737488351232) : ∃ r, Ev (fun k => Gl.f k l kk) r ∧ Sel (setL 255 (l.map L58)) kk r := by
 obtain ⟨s, h1, h2⟩ := Hx l hl; obtain ⟨hv, hn⟩ := Gr h2; obtain ⟨r, h3, h4⟩ := Pb 255 (by omega) s kk hk (by omega) hv; rw [h2] at h4; exact ⟨r, Ev.bind h1 (Ev.bind h3 (Cb _)), h4⟩
def Jy (l : List S58) (p : Int → Prop) : Prop := An 255 (-2) (l.map L58) ∧ l.length ≤ 1073741824 ∧ ∀ x, Mem (l.map L58) x ↔ p x
theorem Jy.uniq {a b : List S58} {p q : Int → Prop} (ha : Jy a p) (hb : Jy b q) (h : ∀ x, p x ↔ q x) : a = b :=
 Uh (canon 255 _ _ _ _ ha.1 hb.1 fun x => (ha.2.2 x).trans ((h x).trans (hb.2.2 x).symm))
end Go.Proofs.PB3
end
section
namespace Go.Proofs.PB3
open Go.RowKit Go.Proofs.Zw.PrintWords Go.Proofs.Zw.PrintLast Go.Proofs.Zw.PrintMore Go.Proofs.I Go.Proofs.LT
set_option linter.unusedVariables false
set_option linter.unusedSimpArgs false
theorem Ht (N : Nat) (hN : N ≤ 8796093022206) (top : Int) (ht : top ≤ 1073741823) : ∀ (n : Nat) (a b out : List S95) (la lb : Int), a.length + b.length = n → out.length + a.length + b.length ≤ N → An top la (a.map L95) → An top lb (b.map L95) →
 ∃ m, Ev (fun k => Bm.l0 k a b out) (out ++ m) ∧ m.length ≤ a.length + b.length ∧ An top (max la lb) (m.map L95) ∧ ∀ x, Mem (m.map L95) x ↔ Mem (a.map L95) x ∧ Mem (b.map L95) x
 | n, [], b, out, la, lb, _, _, _, _ => by
  refine ⟨[], Bq (Bq ?_), by simp, trivial, fun x => ⟨fun h => (Mem.nil h).elim, fun h => (Mem.nil h.1).elim⟩⟩; simp only [Bm.l0, List.length_nil]; simp only [if_neg (show ¬ ((0 : Nat) : Int) > 0 by omega), Bm.j1]; simpa using Cb out
 | n, x :: a, [], out, la, lb, _, _, _, _ => by
  refine ⟨[], Bq (Bq ?_), by simp, trivial, fun x => ⟨fun h => (Mem.nil h).elim, fun h => (Mem.nil h.2).elim⟩⟩; simp only [Bm.l0, List.length_nil, List.length_cons]; simp only [if_pos (show ((a.length + 1 : Nat) : Int) > 0 by omega), show decide (((0 : Nat) : Int) > 0) = false by decide, Bm.j1]; simpa using Cb out
 | n, x :: a, y :: b, out, la, lb, hn, hl, ha, hb => by
  obtain ⟨a0, a1, a2, a3, a4⟩ := ha; obtain ⟨b0, b1, b2, b3, b4⟩ := hb; have ex : (L95 x).1 = x.f0 ∧ (L95 x).2 = x.f1 := ⟨rfl, rfl⟩; have ey : (L95 y).1 = y.f0 ∧ (L95 y).2 = y.f1 := ⟨rfl, rfl⟩; have c1 : ((((x :: a).length : Nat) : Int) > 0) := by rw [List.length_cons]; omega
  have c2 : decide ((((y :: b).length : Nat) : Int) > 0) = true := by rw [List.length_cons]; exact decide_eq_true (by omega)
  have c3 : (0 : Int) < (((x :: a).length : Nat) : Int) := c1; have c4 : (0 : Int) < (((y :: b).length : Nat) : Int) := by rw [List.length_cons]; omega
  have c5 : (1 : Int) ≤ (((x :: a).length : Nat) : Int) := by omega
  have c6 : (1 : Int) ≤ (((y :: b).length : Nat) : Int) := by omega
  have r1 : Ah (x :: a) 0 = x := rfl; have r2 : Ah (y :: b) 0 = y := rfl; have hlo : out.length < 8796093022208 := by simp at hl; omega
  simp only [ex.1, ex.2, ey.1, ey.2] at a0 a1 a2 a3 b0 b1 b2 b3; have main : ∀ (out' : List S95) (n' : Nat), out'.length + a.length + b.length + 1 ≤ N →
   ∃ m, Ev (fun k => if x.f1 < y.f1 then (if (1 : Int) ≤ (((x :: a).length : Nat) : Int) then Bm.l0 k ((x :: a).drop 1) (y :: b) out' else none) else (if (1 : Int) ≤ (((y :: b).length : Nat) : Int) then Bm.l0 k (x :: a) ((y :: b).drop 1) out' else none)) (out' ++ m) ∧ m.length ≤ a.length + b.length + 1 ∧ An top (if x.f1 < y.f1 then max x.f1 lb else max la y.f1) (m.map L95) ∧
    ∀ z, Mem (m.map L95) z ↔ (if x.f1 < y.f1 then Mem (a.map L95) z ∧ Mem ((y :: b).map L95) z else Mem ((x :: a).map L95) z ∧ Mem (b.map L95) z) := fun out' n' hl' => by
   by_cases d : x.f1 < y.f1
   ·obtain ⟨m, h1, h2, h3, h4⟩ := Ht N hN top ht (a.length + (y :: b).length) a (y :: b) out' x.f1 lb rfl (by simp; omega) a4 ⟨b0, b1, b2, b3, b4⟩; refine ⟨m, ?_, by simp at h2; omega, by rw [if_pos d]; exact h3, fun z => by rw [if_pos d]; exact h4 z⟩; simp only [if_pos d, if_pos c5, List.drop_one, List.tail_cons]; exact h1
   ·obtain ⟨m, h1, h2, h3, h4⟩ := Ht N hN top ht ((x :: a).length + b.length) (x :: a) b out' la y.f1 rfl (by simp; omega) ⟨a0, a1, a2, a3, a4⟩ b4; refine ⟨m, ?_, by simp at h2; omega, by rw [if_neg d]; exact h3, fun z => by rw [if_neg d]; exact h4 z⟩; simp only [if_neg d, if_pos c6, List.drop_one, List.tail_cons]; exact h1
  by_cases d0 : max x.f0 y.f0 ≤ min x.f1 y.f1
  ·obtain ⟨m, h1, h2, h3, h4⟩ := main (out ++ [⟨max x.f0 y.f0, min x.f1 y.f1⟩]) 0 (by simp at hl ⊢; omega); refine ⟨⟨max x.f0 y.f0, min x.f1 y.f1⟩ :: m, Bq (Bq ?_), by simp; omega, ?_, fun z => ?_⟩
   ·simp only [Bm.l0, if_pos c1, c2, Bm.j1, if_true, if_pos c3, if_pos c4, r1, r2, Mq, Rw, if_pos d0, if_pos hlo, Option.bind_some]; simpa using h1
   ·refine ⟨?_, ?_, ?_, ?_, ?_⟩
    ·show 0 ≤ max x.f0 y.f0; omega
    ·exact d0
    ·show min x.f1 y.f1 ≤ top; omega
    ·show max la lb < max x.f0 y.f0 - 1; omega
    ·refine An.mono ?_ h3; show min x.f1 y.f1 ≤ _; split <;> omega
   ·rw [List.map_cons, mem_cons, h4 z]; have e : (L95 ⟨max x.f0 y.f0, min x.f1 y.f1⟩).1 = max x.f0 y.f0 ∧ (L95 ⟨max x.f0 y.f0, min x.f1 y.f1⟩).2 = min x.f1 y.f1 := ⟨rfl, rfl⟩; rw [e.1, e.2]; have ga : ∀ z, Mem (a.map L95) z → x.f1 + 1 < z := fun z h => An.gt a4 h
    have gb : ∀ z, Mem (b.map L95) z → y.f1 + 1 < z := fun z h => An.gt b4 h
    simp only [List.map_cons, mem_cons, ex.1, ex.2, ey.1, ey.2]; by_cases d : x.f1 < y.f1
    ·simp only [if_pos d]; constructor
     ·rintro (h | ⟨h, h'⟩)
      ·exact ⟨.inl (by omega), .inl (by omega)⟩
      ·exact ⟨.inr h, h'⟩
     ·rintro ⟨h | h, h'⟩
      ·rcases h' with h' | h'
       ·exact .inl (by omega)
       ·have := gb z h'; omega
      ·exact .inr ⟨h, h'⟩
    ·simp only [if_neg d]; constructor
     ·rintro (h | ⟨h, h'⟩)
      ·exact ⟨.inl (by omega), .inl (by omega)⟩
      ·exact ⟨h, .inr h'⟩
     ·rintro ⟨h, h' | h'⟩
      ·rcases h with h | h
       ·exact .inl (by omega)
       ·have := ga z h; omega
      ·exact .inr ⟨h, h'⟩
  ·obtain ⟨m, h1, h2, h3, h4⟩ := main out 0 (by simp at hl; omega); refine ⟨m, Bq (Bq ?_), by simp; omega, ?_, fun z => ?_⟩
   ·simp only [Bm.l0, if_pos c1, c2, Bm.j1, if_true, if_pos c3, if_pos c4, r1, r2, Mq, Rw, if_neg d0]; exact h1
   ·refine An.mono ?_ h3; split <;> omega
   ·rw [h4 z]; have ga : ∀ z, Mem (a.map L95) z → x.f1 + 1 < z := fun z h => An.gt a4 h
    have gb : ∀ z, Mem (b.map L95) z → y.f1 + 1 < z := fun z h => An.gt b4 h
    simp only [List.map_cons, mem_cons, ex.1, ex.2, ey.1, ey.2]; by_cases d : x.f1 < y.f1
    ·simp only [if_pos d]; constructor
     ·rintro ⟨h, h'⟩; exact ⟨.inr h, h'⟩
     ·rintro ⟨h | h, h'⟩
      ·rcases h' with h' | h'
       ·omega
       ·have := gb z h'; omega
      ·exact ⟨h, h'⟩
    ·simp only [if_neg d]; constructor
     ·rintro ⟨h, h'⟩; exact ⟨h, .inr h'⟩
     ·rintro ⟨h, h' | h'⟩
      ·rcases h with h | h
       ·omega
       ·have := ga z h; omega
      ·exact ⟨h, h'⟩
termination_by n a b => a.length + b.length
theorem Ti (top : Int) (ht : top ≤ 1073741823) (a b : List S95) (hl : a.length + b.length ≤ 8796093022206) (ha : An top (-2) (a.map L95)) (hb : An top (-2) (b.map L95)) :
 ∃ m, Ev (fun k => Bm.f k a b) m ∧ m.length ≤ a.length + b.length ∧ An top (-2) (m.map L95) ∧ ∀ x, Mem (m.map L95) x ↔ Mem (a.map L95) x ∧ Mem (b.map L95) x := by
 obtain ⟨m, h1, h2, h3, h4⟩ := Ht (a.length + b.length) hl top ht _ a b [] (-2) (-2) rfl (by simp) ha hb; exact ⟨m, by simpa [Bm.f] using h1, h2, by simpa using h3, h4⟩
end Go.Proofs.PB3
end
section
namespace Go.Proofs.PB3
open Go.RowKit Go.Proofs.Zw.PrintWords Go.Proofs.Zw.PrintLast Go.Proofs.Zw.PrintMore Go.Proofs.I Go.Proofs.LT
set_option linter.unusedVariables false
set_option linter.unusedSimpArgs false
theorem Ni (l : List S58) (hl : l.length * 16 ≤ 140737488351232) : Ev (fun k => Gx.f k l) (LT.Fd 255 (-2) (l.map L58)) := by
 have h1 := Ju l hl; have h2 := Lo 255 (by omega) (l.map Fb) (by simp; omega); rw [Hw] at h2; exact Ev.bind h1 (Ev.bind h2 (Cb _))
end Go.Proofs.PB3
end
section
namespace Go.Proofs.PB4
open Go.RowKit Go.Proofs.Zw.PrintWords Go.Proofs.Zw.PrintLast Go.Proofs.Zw.PrintMore Go.Proofs.I Go.Proofs.LT
set_option linter.unusedVariables false
set_option linter.unusedSimpArgs false
theorem Bq {α : Type} {g : Nat → Option α} {r : α} (h : Ev (fun k => g (k + 1)) r) : Ev g r := Ev.step (fun _ => rfl) h
theorem Cb {α : Type} (r : α) : Ev (fun _ => some r) r := Ev.now r
theorem w64 {x : Int} (h0 : -9223372036854775808 ≤ x) (h1 : x ≤ 9223372036854775807) : wrap64 x = x := by unfold wrap64; omega
def L95 (x : S95) : Run := (x.f0, x.f1)
def L63 (x : S63) : Run := (x.f0, x.f1)
theorem Ug : ∀ {a b : List S63}, a.map L63 = b.map L63 → a = b
 | [], [], _ => rfl
 | [], _ :: _, h => by simp at h
 | _ :: _, [], h => by simp at h
 | ⟨_, _⟩ :: t, ⟨_, _⟩ :: t', h => by
  simp only [List.map_cons, List.cons.injEq, L63, Prod.mk.injEq] at h; obtain ⟨⟨rfl, rfl⟩, h⟩ := h; rw [Ug h]
theorem rd95 (pre : List S95) (r : S95) (t : List S95) : Ah (pre ++ r :: t) (pre.length : Int) = r := by simp [Ah]
theorem rd63 (pre : List S63) (r : S63) (t : List S63) : Fg (pre ++ r :: t) (pre.length : Int) = r := by simp [Fg]
theorem Ek {α : Type} (pre : List α) (r : α) : (((pre ++ [r]).length : Nat) : Int) = (pre.length : Int) + 1 := by simp
theorem Cn {α : Type} (pre : List α) (r : α) (t : List α) : (pre ++ [r]) ++ t = pre ++ r :: t := by simp
theorem Et {α : Type} (pre : List α) (r : α) (t : List α) : (((pre ++ r :: t).length : Nat) : Int) = pre.length + 1 + t.length := by simp; omega
def Gh (x : S63) : S95 := ⟨x.f0, x.f1⟩
theorem Jv (N : Nat) (hN : N ≤ 8796093022206) : ∀ (t pre : List S63) (out : List S95), (pre ++ t).length ≤ N → out.length = pre.length → Ev (fun k => Ea.l0 k out (pre ++ t) (((pre ++ t).length : Nat) : Int) (pre.length : Int)) (out ++ t.map Gh)
 | [], pre, out, _, _ => by
  refine Bq ?_; simp only [Ea.l0]; rw [List.append_nil]; simp only [if_neg (show ¬ ((pre.length : Nat) : Int) < ((pre.length : Nat) : Int) by omega)]; simpa using Cb out
 | r :: t, pre, out, hl, ho => by
  have hlc := Et pre r t; have hlt : out.length < 8796093022208 := by simp at hl; omega
  have ih := Jv N hN t (pre ++ [r]) (out ++ [Gh r]) (by rw [Cn]; exact hl) (by simp [ho]); rw [Cn, Ek] at ih; refine Bq ?_; have hw : Aa (wrap64 ((pre.length : Int) + 1) = (pre.length : Int) + 1) := Aa.mk (w64 (by omega) (by simp at hl; omega)); have c1 : (pre.length : Int) < ((pre ++ r :: t).length : Nat) := by rw [hlc]; omega
  have c2 : (0 : Int) ≤ pre.length := by omega
  simp only [Ea.l0, if_pos c1, if_pos c2, if_pos hlt, rd63, hw.out]; simpa [Gh] using ih
theorem Px (l : List S63) (hl : l.length * 16 ≤ 140737488351232) : Ev (fun k => Ea.f k l) (l.map Gh) := by
 have h := Jv l.length (by omega) l [] [] (by simp) rfl; have c1 : (0 : Int) ≤ (l.length : Int) := by omega
 have c2 : ((l.length : Int) : Int).toNat ≤ 17592186044416 := by omega
 simp only [Ea.f, if_pos c1, if_pos c2]; simpa using h
theorem Kt (l : List S63) : (l.map Gh).map L95 = l.map L63 := by rw [List.map_map]; rfl
def Fs (x : S95) : S63 := ⟨x.f0, x.f1⟩
theorem Iu (N : Nat) (hN : N ≤ 8796093022206) : ∀ (t pre : List S95) (out : List S63), (pre ++ t).length ≤ N → out.length = pre.length → Ev (fun k => Df.l0 k out (pre ++ t) (((pre ++ t).length : Nat) : Int) (pre.length : Int)) (out ++ t.map Fs)
 | [], pre, out, _, _ => by
  refine Bq ?_; simp only [Df.l0]; rw [List.append_nil]; simp only [if_neg (show ¬ ((pre.length : Nat) : Int) < ((pre.length : Nat) : Int) by omega)]; simpa using Cb out
 | r :: t, pre, out, hl, ho => by
  have hlc := Et pre r t; have hlt : out.length < 8796093022208 := by simp at hl; omega
  have ih := Iu N hN t (pre ++ [r]) (out ++ [Fs r]) (by rw [Cn]; exact hl) (by simp [ho]); rw [Cn, Ek] at ih; refine Bq ?_; have hw : Aa (wrap64 ((pre.length : Int) + 1) = (pre.length : Int) + 1) := Aa.mk (w64 (by omega) (by simp at hl; omega)); have c1 : (pre.length : Int) < ((pre ++ r :: t).length : Nat) := by rw [hlc]; omega
  have c2 : (0 : Int) ≤ pre.length := by omega
  simp only [Df.l0, if_pos c1, if_pos c2, if_pos hlt, rd95, hw.out]; simpa [Fs] using ih
theorem Nj (l : List S95) (hl : l.length * 16 ≤ 140737488351232) : Ev (fun k => Df.f k l) (l.map Fs) := by
 have h := Iu l.length (by omega) l [] [] (by simp) rfl; have c1 : (0 : Int) ≤ (l.length : Int) := by omega
 have c2 : ((l.length : Int) : Int).toNat ≤ 17592186044416 := by omega
 simp only [Df.f, if_pos c1, if_pos c2]; simpa using h
theorem Mg (l : List S95) : (l.map Fs).map L63 = l.map L95 := by rw [List.map_map]; rfl
theorem Ic (N : Nat) (hN : N ≤ 8796093022206) (top : Int) (ht : top ≤ 1073741823) : ∀ (t pre : List S95) (last : Int), (pre ++ t).length ≤ N → Ev (fun k => Cd.l0 k top last (pre ++ t) (((pre ++ t).length : Nat) : Int) (pre.length : Int)) (LT.Fd top last (t.map L95))
 | [], pre, last, _ => by
  refine Bq ?_; simp only [Cd.l0]; rw [List.append_nil]; simp only [if_neg (show ¬ ((pre.length : Nat) : Int) < ((pre.length : Nat) : Int) by omega)]; rw [show LT.Fd top last (([] : List S95).map L95) = true from Jn _ _]; exact Cb _
 | r :: t, pre, last, hl => by
  have hlc := Et pre r t; have ih := Ic N hN top ht t (pre ++ [r]) r.f1 (by rw [Cn]; exact hl); rw [Cn, Ek] at ih; refine Bq ?_; have hw : Aa (wrap64 ((pre.length : Int) + 1) = (pre.length : Int) + 1) := Aa.mk (w64 (by omega) (by simp at hl; omega)); have c1 : (pre.length : Int) < ((pre ++ r :: t).length : Nat) := by rw [hlc]; omega
  have c2 : (0 : Int) ≤ pre.length := by omega
  simp only [Cd.l0, if_pos c1, if_pos c2, rd95, hw.out, List.map_cons, Ii, L95]; by_cases d1 : r.f0 < 0
  ·simp only [if_pos d1]; exact Cb _
  by_cases d2 : r.f0 > r.f1
  ·simp only [if_neg d1, if_pos d2]; exact Cb _
  by_cases d3 : r.f1 > top
  ·simp only [if_neg d1, if_neg d2, if_pos d3]; exact Cb _
  have hw2 : Aa (wrap64 (r.f0 - 1) = r.f0 - 1) := Aa.mk (w64 (by omega) (by omega)); simp only [if_neg d1, if_neg d2, if_neg d3, hw2.out]; by_cases d4 : r.f0 - 1 ≤ last
  ·simp only [if_pos d4]; exact Cb _
  ·simp only [if_neg d4]; exact ih
theorem Lo (top : Int) (ht : top ≤ 1073741823) (l : List S95) (hl : l.length ≤ 8796093022206) : Ev (fun k => Cd.f k l top) (LT.Fd top (-2) (l.map L95)) := by
 have h := Ic l.length hl top ht l [] (-2) (by simp); simpa [Cd.f] using h
theorem Ja (N : Nat) (hN : N ≤ 8796093022206) (top : Int) (ht : top ≤ 1073741823) : ∀ (t pre : List S95) (last acc : Int), (pre ++ t).length ≤ N → An top last (t.map L95) → 0 ≤ acc → acc + size (t.map L95) ≤ 4294967296 →
 Ev (fun k => Dk.l0 k acc (pre ++ t) (((pre ++ t).length : Nat) : Int) (pre.length : Int)) (acc + size (t.map L95))
 | [], pre, last, acc, _, _, _, _ => by
  refine Bq ?_; simp only [Dk.l0]; rw [List.append_nil]; simp only [if_neg (show ¬ ((pre.length : Nat) : Int) < ((pre.length : Nat) : Int) by omega)]; simpa [Gs] using Cb acc
 | r :: t, pre, last, acc, hl, hv, h0, h1 => by
  have hlc := Et pre r t; have hs := Hp hv.2.2.2.2; have e1 : size ((r :: t).map L95) = (r.f1 - r.f0 + 1) + size (t.map L95) := Gu _ _; have v0 : 0 ≤ r.f0 := hv.1; have v1 : r.f0 ≤ r.f1 := hv.2.1; have v2 : r.f1 ≤ top := hv.2.2.1; have ih := Ja N hN top ht t (pre ++ [r]) r.f1 (acc + (r.f1 - r.f0 + 1)) (by rw [Cn]; exact hl) hv.2.2.2.2 (by omega) (by omega); rw [Cn, Ek] at ih; refine Bq ?_; have hw : Aa (wrap64 ((pre.length : Int) + 1) = (pre.length : Int) + 1) := Aa.mk (w64 (by omega) (by simp at hl; omega)); have c1 : (pre.length : Int) < ((pre ++ r :: t).length : Nat) := by rw [hlc]; omega
  have c2 : (0 : Int) ≤ pre.length := by omega
  have w1 : Aa (wrap64 (r.f1 - r.f0) = r.f1 - r.f0) := Aa.mk (w64 (by omega) (by omega)); have w2 : Aa (wrap64 (r.f1 - r.f0 + 1) = r.f1 - r.f0 + 1) := Aa.mk (w64 (by omega) (by omega)); have w3 : Aa (wrap64 (acc + (r.f1 - r.f0 + 1)) = acc + (r.f1 - r.f0 + 1)) := Aa.mk (w64 (by omega) (by omega)); simp only [Dk.l0, if_pos c1, if_pos c2, rd95, hw.out, w1.out, w2.out, w3.out]; have e2 : acc + size ((r :: t).map L95) = acc + (r.f1 - r.f0 + 1) + size (t.map L95) := by omega
  rw [e2]; exact ih
theorem Si (top : Int) (ht : top ≤ 1073741823) (l : List S95) (hl : l.length ≤ 8796093022206) (hv : An top (-2) (l.map L95)) : Ev (fun k => Dk.f k l) (size (l.map L95)) := by
 have h0 : (0:Int) ≤ top ∨ l = [] := by
  cases l with
  | nil => exact .inr rfl
  | cons r t => have := hv.1; have := hv.2.1; have := hv.2.2.1; exact .inl (by omega)
 have hs : size (l.map L95) ≤ 4294967296 := by
  rcases h0 with h0 | rfl
  ·have := Jz hv h0; omega
  ·simp [Gs]
 have h := Ja l.length hl top ht l [] (-2) 0 (by simp) hv (by omega) (by omega); simpa [Dk.f] using h
def Kq (l : List Run) (x : Int) : Int × Bool := if memB l x = true then ((cd (memB l) x.toNat : Int), true) else (0, false)
theorem Jc (N : Nat) (hN : N ≤ 8796093022206) (top : Int) (ht : top ≤ 1073741823) (x : Int) (hx : (Lit.int .i64 x).wf = true) : ∀ (t pre : List S95) (last acc : Int), (pre ++ t).length ≤ N → An top last (t.map L95) → 0 ≤ acc → acc + size (t.map L95) ≤ 4294967296 →
 Ev (fun k => Dl.l0 k x acc (pre ++ t) (((pre ++ t).length : Nat) : Int) (pre.length : Int)) (if memB (t.map L95) x = true then (acc + (cd (memB (t.map L95)) x.toNat : Int), true) else (0, false))
 | [], pre, last, acc, _, _, _, _ => by
  refine Bq ?_; simp only [Dl.l0]; rw [List.append_nil]; simp only [if_neg (show ¬ ((pre.length : Nat) : Int) < ((pre.length : Nat) : Int) by omega)]; simpa [memB] using Cb ((0 : Int), false)
 | r :: t, pre, last, acc, hl, hv, h0, h1 => by
  have hlc := Et pre r t; have hs := Hp hv.2.2.2.2; have e1 : size ((r :: t).map L95) = (r.f1 - r.f0 + 1) + size (t.map L95) := Gu _ _; have v0 : 0 ≤ r.f0 := hv.1; have v1 : r.f0 ≤ r.f1 := hv.2.1; have v2 : r.f1 ≤ top := hv.2.2.1; have ih := Jc N hN top ht x hx t (pre ++ [r]) r.f1 (acc + (r.f1 - r.f0 + 1)) (by rw [Cn]; exact hl) hv.2.2.2.2 (by omega) (by omega); rw [Cn, Ek] at ih; refine Bq ?_; have hw : Aa (wrap64 ((pre.length : Int) + 1) = (pre.length : Int) + 1) := Aa.mk (w64 (by omega) (by simp at hl; omega)); have c1 : (pre.length : Int) < ((pre ++ r :: t).length : Nat) := by rw [hlc]; omega
  have c2 : (0 : Int) ≤ pre.length := by omega
  have w1 : Aa (wrap64 (r.f1 - r.f0) = r.f1 - r.f0) := Aa.mk (w64 (by omega) (by omega)); have w2 : Aa (wrap64 (r.f1 - r.f0 + 1) = r.f1 - r.f0 + 1) := Aa.mk (w64 (by omega) (by omega)); have w3 : Aa (wrap64 (acc + (r.f1 - r.f0 + 1)) = acc + (r.f1 - r.f0 + 1)) := Aa.mk (w64 (by omega) (by omega)); simp only [Dl.l0, if_pos c1, if_pos c2, rd95, hw.out, w1.out, w2.out, w3.out]; have hm : (L95 r).1 = r.f0 ∧ (L95 r).2 = r.f1 := ⟨rfl, rfl⟩; by_cases d1 : x < r.f0
  ·simp only [if_pos d1]; have : ¬ memB ((r :: t).map L95) x = true := fun h => by
    rcases mem_cons.1 (Dh.1 h) with h | h
    ·have := h.1; simp only [hm.1] at this; omega
    ·have := An.gt hv.2.2.2.2 h; simp only [hm.2] at this; omega
   rw [if_neg this]; exact Cb _
  by_cases d2 : x ≤ r.f1
  ·have w4 : Aa (wrap64 (acc + x) = acc + x) := Aa.mk (w64 (by omega) (by omega)); have w5 : Aa (wrap64 (acc + x - r.f0) = acc + x - r.f0) := Aa.mk (w64 (by omega) (by omega)); simp only [if_neg d1, if_pos d2, w4.out, w5.out]; have h : memB ((r :: t).map L95) x = true := Dh.2 (mem_cons.2 (.inl ⟨by simp only [hm.1]; omega, by simp only [hm.2]; omega⟩)); have hc := Gz (x := x) (show An top last (L95 r :: t.map L95) from hv) (by simp only [hm.1]; omega) (by simp only [hm.2]; omega); rw [if_pos h, List.map_cons, hc, hm.1, show acc + (x - r.f0) = acc + x - r.f0 by omega]; exact Cb _
  ·simp only [if_neg d1, if_neg d2]; have hc := Hk (x := x) (show An top last (L95 r :: t.map L95) from hv) (by simp only [hm.2]; omega); have e2 : memB ((r :: t).map L95) x = memB (t.map L95) x := Th ⟨fun h => by
    rcases mem_cons.1 h with h | h
    ·have := h.2; simp only [hm.2] at this; omega
    ·exact h, fun h => mem_cons.2 (.inr h)⟩
   have e3 : acc + (cd (memB ((r :: t).map L95)) x.toNat : Int) = acc + (r.f1 - r.f0 + 1) + (cd (memB (t.map L95)) x.toNat : Int) := by rw [List.map_cons, hc, hm.1, hm.2]; omega
   rw [e2, e3]; exact ih
theorem Ly {top : Int} {l : List Run} (hv : An top (-2) l) (ht : top ≤ 1073741823) : size l ≤ 4294967296 := by
 cases l with
 | nil => simp [Gs]
 | cons r t => have := hv.1; have := hv.2.1; have := hv.2.2.1; have := Jz hv (by omega); omega
theorem Ss (top : Int) (ht : top ≤ 1073741823) (l : List S95) (x : Int) (hx : (Lit.int .i64 x).wf = true) (hl : l.length ≤ 8796093022206) (hv : An top (-2) (l.map L95)) : Ev (fun k => Dl.f k l x) (Kq (l.map L95) x) := by
 have h := Jc l.length hl top ht x hx l [] (-2) 0 (by simp) hv (by omega) (by have := Ly hv ht; omega); simpa [Dl.f, Kq] using h
def Sel (l : List Run) (k : Int) (r : Int × Bool) : Prop := (∃ x, Mem l x ∧ (cd (memB l) x.toNat : Int) = k ∧ r = (x, true)) ∨ ((k < 0 ∨ size l ≤ k) ∧ r = (0, false))
theorem Sel.uniq {top : Int} {l : List Run} (hv : An top (-2) l) {k : Int} {r q : Int × Bool} (h : Sel l k r) (h' : Sel l k q) : r = q := by
 have lt : ∀ x, Mem l x → (cd (memB l) x.toNat : Int) < size l := fun x hx => by
  have hr := hv.range hx; have := Ji (n := top.toNat + 1) hv (by omega); have e : ((x.toNat : Nat) : Int) = x := Int.toNat_of_nonneg hr.1; have := Qm (memB l) (m := x.toNat) (n := top.toNat + 1) (by omega) (by rw [e]; exact Dh.2 hx); omega
 rcases h with ⟨x, hx, hk, rfl⟩ | ⟨hk, rfl⟩ <;> rcases h' with ⟨y, hy, hk', rfl⟩ | ⟨hk', rfl⟩
 ·have ex : ((x.toNat : Nat) : Int) = x := Int.toNat_of_nonneg (hv.range hx).1; have ey : ((y.toNat : Nat) : Int) = y := Int.toNat_of_nonneg (hv.range hy).1; have := Tw (memB l) (m := x.toNat) (n := y.toNat) (by rw [ex]; exact Dh.2 hx) (by rw [ey]; exact Dh.2 hy) (by omega); rw [show x = y by omega]
 ·have := lt x hx; omega
 ·have := lt y hy; omega
 ·rfl
theorem Hq (N : Nat) (hN : N ≤ 8796093022206) (top : Int) (ht : top ≤ 1073741823) : ∀ (t pre : List S95) (last kk : Int), (pre ++ t).length ≤ N → An top last (t.map L95) → 0 ≤ kk → kk ≤ 9223372036854775807 →
 ∃ r, Ev (fun k => Cf.l0 k kk (pre ++ t) (((pre ++ t).length : Nat) : Int) (pre.length : Int)) r ∧ Sel (t.map L95) kk r
 | [], pre, last, kk, _, _, h0, _ => by
  refine ⟨(0, false), Bq ?_, .inr ⟨.inr (by simpa [Gs] using h0), rfl⟩⟩; simp only [Cf.l0]; rw [List.append_nil]; simp only [if_neg (show ¬ ((pre.length : Nat) : Int) < ((pre.length : Nat) : Int) by omega)]; exact Cb _
 | r :: t, pre, last, kk, hl, hv, h0, h1 => by
  have hlc := Et pre r t; have v0 : 0 ≤ r.f0 := hv.1; have v1 : r.f0 ≤ r.f1 := hv.2.1; have v2 : r.f1 ≤ top := hv.2.2.1; have hm : (L95 r).1 = r.f0 ∧ (L95 r).2 = r.f1 := ⟨rfl, rfl⟩; have hw : Aa (wrap64 ((pre.length : Int) + 1) = (pre.length : Int) + 1) := Aa.mk (w64 (by omega) (by simp at hl; omega)); have c1 : (pre.length : Int) < ((pre ++ r :: t).length : Nat) := by rw [hlc]; omega
  have c2 : (0 : Int) ≤ pre.length := by omega
  have w1 : Aa (wrap64 (r.f1 - r.f0) = r.f1 - r.f0) := Aa.mk (w64 (by omega) (by omega)); have w2 : Aa (wrap64 (r.f1 - r.f0 + 1) = r.f1 - r.f0 + 1) := Aa.mk (w64 (by omega) (by omega)); by_cases d1 : kk ≤ r.f1 - r.f0
  ·have w3 : Aa (wrap64 (r.f0 + kk) = r.f0 + kk) := Aa.mk (w64 (by omega) (by omega)); refine ⟨(r.f0 + kk, true), Bq ?_, .inl ⟨r.f0 + kk, mem_cons.2 (.inl ⟨by simp only [hm.1]; omega, by simp only [hm.2]; omega⟩), ?_, rfl⟩⟩
   ·simp only [Cf.l0, if_pos c1, if_pos c2, rd95, hw.out, w1.out, w2.out, w3.out, if_pos d1]; exact Cb _
   ·have hc := Gz (x := r.f0 + kk) (show An top last (L95 r :: t.map L95) from hv) (by simp only [hm.1]; omega) (by simp only [hm.2]; omega); rw [List.map_cons, hc, hm.1]; omega
  ·have w3 : Aa (wrap64 (kk - (r.f1 - r.f0 + 1)) = kk - (r.f1 - r.f0 + 1)) := Aa.mk (w64 (by omega) (by omega)); obtain ⟨q, hq, hs⟩ := Hq N hN top ht t (pre ++ [r]) r.f1 (kk - (r.f1 - r.f0 + 1)) (by rw [Cn]; exact hl) hv.2.2.2.2 (by omega) (by omega); rw [Cn, Ek] at hq; refine ⟨q, Bq ?_, ?_⟩
   ·simp only [Cf.l0, if_pos c1, if_pos c2, rd95, hw.out, w1.out, w2.out, w3.out, if_neg d1]; exact hq
   ·rcases hs with ⟨x, hx, hk, rfl⟩ | ⟨hk, rfl⟩
    ·have hg := An.gt hv.2.2.2.2 hx; rw [hm.2] at hg; refine .inl ⟨x, mem_cons.2 (.inr hx), ?_, rfl⟩; have hc := Hk (x := x) (show An top last (L95 r :: t.map L95) from hv) (by simp only [hm.2]; omega); rw [List.map_cons, hc, hk, hm.1, hm.2]; omega
    ·have e1 : size ((r :: t).map L95) = (r.f1 - r.f0 + 1) + size (t.map L95) := Gu _ _; exact .inr ⟨.inr (by omega), rfl⟩
theorem Pb (top : Int) (ht : top ≤ 1073741823) (l : List S95) (kk : Int) (hk : (Lit.int .i64 kk).wf = true) (hl : l.length ≤ 8796093022206) (hv : An top (-2) (l.map L95)) : ∃ r, Ev (fun k => Cf.f k l kk) r ∧ Sel (l.map L95) kk r := by
 by_cases h0 : kk < 0
 ·exact ⟨(0, false), by simp only [Cf.f, if_pos h0]; exact Cb _, .inr ⟨.inl h0, rfl⟩⟩
 ·have hb := bounds_i64 hk; obtain ⟨r, hr, hs⟩ := Hq l.length hl top ht l [] (-2) kk (by simp) hv (by omega) (by omega); exact ⟨r, by simp only [Cf.f, if_neg h0]; simpa using hr, hs⟩
theorem Mq (a b : Int) : mx a b = max a b := by unfold mx; omega
theorem Rw (a b : Int) : mn a b = min a b := by unfold mn; omega
theorem Hs (N : Nat) (hN : N ≤ 8796093022206) (top : Int) (ht : top ≤ 1073741823) : ∀ (t pre o : List S95) (q : S95), (pre ++ t).length ≤ N → o.length + t.length + 1 ≤ N → (∀ r ∈ t, q.f0 ≤ r.f0) → t.Pairwise (fun x y => x.f0 ≤ y.f0) → (∀ r ∈ q :: t, 0 ≤ r.f0 ∧ r.f0 ≤ r.f1 ∧ r.f1 ≤ top) →
 ∃ m, Ev (fun k => Bn.l0 k (pre ++ t) (o ++ [q]) (((pre ++ t).length : Nat) : Int) (pre.length : Int)) (o ++ m, pre ++ t) ∧ m.length ≤ t.length + 1 ∧ (∀ last, last < q.f0 - 1 → An top last (m.map L95)) ∧ ∀ x, Mem (m.map L95) x ↔ Mem ((q :: t).map L95) x
 | [], pre, o, q, _, _, _, _, hr => by
  have hq := hr q List.mem_cons_self; refine ⟨[q], Bq ?_, by simp, fun last hlast => ⟨hq.1, hq.2.1, hq.2.2, hlast, trivial⟩, fun x => Iff.rfl⟩; simp only [Bn.l0]; rw [List.append_nil]; simp only [if_neg (show ¬ ((pre.length : Nat) : Int) < ((pre.length : Nat) : Int) by omega)]; exact Cb _
 | r :: t, pre, o, q, hl, ho, hs, hp, hr => by
  have hq := hr q List.mem_cons_self; have hr1 := hr r (List.mem_cons_of_mem _ List.mem_cons_self); have hqr := hs r List.mem_cons_self; have hp' := List.pairwise_cons.1 hp; have hlc := Et pre r t; have hw : Aa (wrap64 ((pre.length : Int) + 1) = (pre.length : Int) + 1) := Aa.mk (w64 (by omega) (by simp at hl; omega)); have c1 : (pre.length : Int) < ((pre ++ r :: t).length : Nat) := by rw [hlc]; omega
  have c2 : (0 : Int) ≤ pre.length := by omega
  have ol : (((o ++ [q]).length : Nat) : Int) = (o.length : Int) + 1 := Ek o q; have hob : (o.length : Int) ≤ 8796093022207 := by omega
  have c3 : (((o ++ [q]).length : Nat) : Int) > 0 := by omega
  have w1 : Aa (wrap64 ((((o ++ [q]).length : Nat) : Int) - 1) = (o.length : Int)) := Aa.mk (by rw [ol, w64 (by omega) (by omega)]; omega); have c4 : (0 : Int) ≤ (o.length : Int) := by omega
  have c5 : (o.length : Int) < (((o ++ [q]).length : Nat) : Int) := by omega
  have r1 : Ah (o ++ [q]) (o.length : Int) = q := rd95 o q []; have w2 : Aa (wrap64 (q.f1 + 1) = q.f1 + 1) := Aa.mk (w64 (by omega) (by omega)); have hlt : (o ++ [q]).length < 8796093022208 := by simp at ho ⊢; omega
  by_cases d : r.f0 ≤ q.f1 + 1
  ·obtain ⟨m, g1, g2, g3, g4⟩ := Hs N hN top ht t (pre ++ [r]) o ⟨q.f0, max q.f1 r.f1⟩ (by rw [Cn]; exact hl) (by simp at ho ⊢; omega) (fun z hz => Int.le_trans hqr (hp'.1 z hz)) hp'.2 (fun z hz => by
    rcases List.mem_cons.1 hz with rfl | hz
    ·exact ⟨hq.1, by show q.f0 ≤ max q.f1 r.f1; omega, by show max q.f1 r.f1 ≤ top; omega⟩
    ·exact hr z (List.mem_cons_of_mem _ (List.mem_cons_of_mem _ hz)))
   rw [Cn, Ek] at g1; refine ⟨m, Bq ?_, by simp; omega, g3, fun x => ?_⟩
   ·simp only [Bn.l0, if_pos c1, if_pos c2, rd95, hw.out, if_pos c3, w1.out, if_pos c4, if_pos c5, r1, w2.out, if_pos d, Mq]; have : (o ++ [q]).set (o.length : Int).toNat (⟨q.f0, max q.f1 r.f1⟩ : S95) = o ++ [⟨q.f0, max q.f1 r.f1⟩] := by simp
    rw [this]; exact g1
   ·rw [g4 x]; simp only [List.map_cons, mem_cons]; show (q.f0 ≤ x ∧ x ≤ max q.f1 r.f1) ∨ _ ↔ (q.f0 ≤ x ∧ x ≤ q.f1) ∨ (r.f0 ≤ x ∧ x ≤ r.f1) ∨ _; constructor
    ·rintro (h | h)
     ·by_cases e : x ≤ q.f1
      ·exact .inl (by omega)
      ·exact .inr (.inl (by omega))
     ·exact .inr (.inr h)
    ·rintro (h | h | h)
     ·exact .inl (by omega)
     ·exact .inl (by omega)
     ·exact .inr h
  ·obtain ⟨m, g1, g2, g3, g4⟩ := Hs N hN top ht t (pre ++ [r]) (o ++ [q]) r (by rw [Cn]; exact hl) (by simp at ho ⊢; omega) hp'.1 hp'.2 (fun z hz => hr z (List.mem_cons_of_mem _ hz)); rw [Cn, Ek] at g1; refine ⟨q :: m, Bq ?_, by simp; omega, fun last hlast => ⟨hq.1, hq.2.1, hq.2.2, hlast, g3 _ (by show q.f1 < _; omega)⟩, fun x => ?_⟩
   ·simp only [Bn.l0, if_pos c1, if_pos c2, rd95, hw.out, if_pos c3, w1.out, if_pos c4, if_pos c5, r1, w2.out, if_neg d, if_pos hlt]; simpa using g1
   ·rw [List.map_cons, mem_cons, g4 x]; exact mem_cons.symm
theorem Tb (top : Int) (ht : top ≤ 1073741823) (l : List S95) (hl : l.length ≤ 8796093022206) (hr : ∀ r ∈ l, 0 ≤ r.f0 ∧ r.f0 ≤ r.f1 ∧ r.f1 ≤ top) :
 ∃ m s, Ev (fun k => Bn.f k l) (m, s) ∧ m.length ≤ l.length ∧ An top (-2) (m.map L95) ∧ ∀ x, Mem (m.map L95) x ↔ Mem (l.map L95) x := by
 obtain ⟨s, hs⟩ : ∃ s, Cq.f l = some s := ⟨_, by unfold Cq.f; rw [if_pos (show l.length < 8796093022208 by omega)]⟩
 obtain ⟨hp, hsort⟩ := Cq.spec l s hs; have hlen := hp.length_eq; have hmem : ∀ x, Mem (s.map L95) x ↔ Mem (l.map L95) x := fun x => Rf (hp.map _)
 cases s with
 | nil =>
  refine ⟨[], [], ?_, by simp, trivial, hmem⟩; simp only [Bn.f, hs, Option.bind_some]; refine Bq ?_; simp only [Bn.l0, ← hlen]; simp only [List.length_nil, if_neg (show ¬ (0 : Int) < ((0 : Nat) : Int) by omega)]; exact Cb _
 | cons q t =>
  have hr' : ∀ r ∈ q :: t, 0 ≤ r.f0 ∧ r.f0 ≤ r.f1 ∧ r.f1 ≤ top := fun r h => hr r (hp.mem_iff.1 h)
  have hsp := List.pairwise_cons.1 hsort; obtain ⟨m, g1, g2, g3, g4⟩ := Hs (q :: t).length (by omega) top ht t [q] [] q (by simp) (by simp) hsp.1 hsp.2 hr'; have hq := hr' q List.mem_cons_self; refine ⟨m, q :: t, ?_, by rw [← hlen]; simpa using g2, g3 _ (by omega), fun x => (g4 x).trans (hmem x)⟩; simp only [Bn.f, hs, Option.bind_some, ← hlen]; refine Bq ?_; have c1 : (0 : Int) < (((q :: t).length : Nat) : Int) := by rw [List.length_cons]; omega
  have r1 : Ah (q :: t) 0 = q := rfl; have hw : Aa (wrap64 ((0 : Int) + 1) = 1) := Aa.mk (by rw [w64 (by omega) (by omega)]; rfl); simp only [Bn.l0, if_pos c1, if_pos (show (0 : Int) ≤ 0 by omega), r1, List.length_nil, if_neg (show ¬ ((0 : Nat) : Int) > 0 by omega), if_pos (show (0 : Nat) < 8796093022208 from Nat.zero_lt_succ _), hw.out]; exact g1
def setL (top : Int) (l : List Run) : List Run := if LT.Fd top (-2) l = true then l else []
theorem Hm (top : Int) (l : List Run) : An top (-2) (setL top l) := by
 unfold setL; split
 ·rename_i h; exact (Gk _ _ _).1 h
 ·trivial
theorem setL_of {top : Int} {l : List Run} (h : An top (-2) l) : setL top l = l := by unfold setL; rw [if_pos ((Gk _ _ _).2 h)]
theorem Ie {top : Int} : ∀ {l : List Run} {last : Int}, An top last l → (l.length : Int) ≤ size l
 | [], _, _ => by simp [Gs]
 | r :: t, _, hv => by
  have := Ie hv.2.2.2.2; have := hv.2.1; rw [Gu]; simp; omega
theorem Jm {top : Int} {l : List Run} {last : Int} (hv : An top last l) (h0 : 0 ≤ top) (ht : top ≤ 1073741823) : l.length ≤ 1073741824 := by
 have := Ie hv; have := Jz hv h0; omega
theorem Hb (l : List S63) (hl : l.length * 16 ≤ 140737488351232) : ∃ s, Ev (fun k => Dm.f k l) s ∧ s.map L95 = setL 1073741823 (l.map L63) := by
 have h1 := Px l hl; have h2 := Lo 1073741823 (by omega) (l.map Gh) (by simp; omega); rw [Kt] at h2; by_cases d : LT.Fd 1073741823 (-2) (l.map L63) = true
 ·refine ⟨l.map Gh, Ev.bind h1 (Ev.bind h2 ?_), by rw [Kt]; unfold setL; rw [if_pos d]⟩; simp only [if_pos d]; exact Cb _
 ·refine ⟨[], Ev.bind h1 (Ev.bind h2 ?_), by unfold setL; rw [if_neg d]; rfl⟩; simp only [if_neg d]; exact Cb _
theorem Mk (l : List S95) (hl : l.length * 16 ≤ 140737488351232) : Ev (fun k => Db.f k l) (l.map Fs) := Ev.bind (Nj l hl) (Cb _)
theorem Ft {l : List S63} {s : List S95} (h : s.map L95 = setL 1073741823 (l.map L63)) : An 1073741823 (-2) (s.map L95) ∧ s.length ≤ 1073741824 := by
 have hv : An 1073741823 (-2) (s.map L95) := by rw [h]; exact Hm _ _
 have := Jm hv (by omega) (by omega); exact ⟨hv, by simpa using this⟩
def scalars_IsSet (l : List S63) (p : Int → Prop) : Prop := An 1073741823 (-2) (l.map L63) ∧ l.length ≤ 1073741824 ∧ ∀ x, Mem (l.map L63) x ↔ p x
theorem scalars_IsSet.uniq {a b : List S63} {p q : Int → Prop} (ha : scalars_IsSet a p) (hb : scalars_IsSet b q) (h : ∀ x, p x ↔ q x) : a = b :=
 Ug (canon 1073741823 _ _ _ _ ha.1 hb.1 fun x => (ha.2.2 x).trans ((h x).trans (hb.2.2 x).symm))
theorem Mj {m : List S95} {p : Int → Prop} (hv : An 1073741823 (-2) (m.map L95)) (hm : ∀ x, Mem (m.map L95) x ↔ p x) : ∃ r, Ev (fun k => Db.f k m) r ∧ scalars_IsSet r p := by
 have hn := Jm hv (by omega) (by omega); have e := Mg m; refine ⟨_, Mk m (by simp at hn; omega), ?_, ?_, fun x => ?_⟩
 ·rw [e]; exact hv
 ·simpa using hn
 ·rw [e]; exact hm x
end Go.Proofs.PB4
end
section
namespace Go.Proofs.PB4
open Go.RowKit Go.Proofs.Zw.PrintWords Go.Proofs.Zw.PrintLast Go.Proofs.Zw.PrintMore Go.Proofs.I Go.Proofs.LT
set_option linter.unusedVariables false
set_option linter.unusedSimpArgs false
theorem Ht (N : Nat) (hN : N ≤ 8796093022206) (top : Int) (ht : top ≤ 1073741823) : ∀ (n : Nat) (a b out : List S95) (la lb : Int), a.length + b.length = n → out.length + a.length + b.length ≤ N → An top la (a.map L95) → An top lb (b.map L95) →
 ∃ m, Ev (fun k => Bm.l0 k a b out) (out ++ m) ∧ m.length ≤ a.length + b.length ∧ An top (max la lb) (m.map L95) ∧ ∀ x, Mem (m.map L95) x ↔ Mem (a.map L95) x ∧ Mem (b.map L95) x
 | n, [], b, out, la, lb, _, _, _, _ => by
  refine ⟨[], Bq (Bq ?_), by simp, trivial, fun x => ⟨fun h => (Mem.nil h).elim, fun h => (Mem.nil h.1).elim⟩⟩; simp only [Bm.l0, List.length_nil]; simp only [if_neg (show ¬ ((0 : Nat) : Int) > 0 by omega), Bm.j1]; simpa using Cb out
 | n, x :: a, [], out, la, lb, _, _, _, _ => by
  refine ⟨[], Bq (Bq ?_), by simp, trivial, fun x => ⟨fun h => (Mem.nil h).elim, fun h => (Mem.nil h.2).elim⟩⟩; simp only [Bm.l0, List.length_nil, List.length_cons]; simp only [if_pos (show ((a.length + 1 : Nat) : Int) > 0 by omega), show decide (((0 : Nat) : Int) > 0) = false by decide, Bm.j1]; simpa using Cb out
 | n, x :: a, y :: b, out, la, lb, hn, hl, ha, hb => by
  obtain ⟨a0, a1, a2, a3, a4⟩ := ha; obtain ⟨b0, b1, b2, b3, b4⟩ := hb; have ex : (L95 x).1 = x.f0 ∧ (L95 x).2 = x.f1 := ⟨rfl, rfl⟩; have ey : (L95 y).1 = y.f0 ∧ (L95 y).2 = y.f1 := ⟨rfl, rfl⟩; have c1 : ((((x :: a).length : Nat) : Int) > 0) := by rw [List.length_cons]; omega
  have c2 : decide ((((y :: b).length : Nat) : Int) > 0) = true := by rw [List.length_cons]; exact decide_eq_true (by omega)
  have c3 : (0 : Int) < (((x :: a).length : Nat) : Int) := c1; have c4 : (0 : Int) < (((y :: b).length : Nat) : Int) := by rw [List.length_cons]; omega
  have c5 : (1 : Int) ≤ (((x :: a).length : Nat) : Int) := by omega
  have c6 : (1 : Int) ≤ (((y :: b).length : Nat) : Int) := by omega
  have r1 : Ah (x :: a) 0 = x := rfl; have r2 : Ah (y :: b) 0 = y := rfl; have hlo : out.length < 8796093022208 := by simp at hl; omega
  simp only [ex.1, ex.2, ey.1, ey.2] at a0 a1 a2 a3 b0 b1 b2 b3; have main : ∀ (out' : List S95) (n' : Nat), out'.length + a.length + b.length + 1 ≤ N →
   ∃ m, Ev (fun k => if x.f1 < y.f1 then (if (1 : Int) ≤ (((x :: a).length : Nat) : Int) then Bm.l0 k ((x :: a).drop 1) (y :: b) out' else none) else (if (1 : Int) ≤ (((y :: b).length : Nat) : Int) then Bm.l0 k (x :: a) ((y :: b).drop 1) out' else none)) (out' ++ m) ∧ m.length ≤ a.length + b.length + 1 ∧ An top (if x.f1 < y.f1 then max x.f1 lb else max la y.f1) (m.map L95) ∧
    ∀ z, Mem (m.map L95) z ↔ (if x.f1 < y.f1 then Mem (a.map L95) z ∧ Mem ((y :: b).map L95) z else Mem ((x :: a).map L95) z ∧ Mem (b.map L95) z) := fun out' n' hl' => by
   by_cases d : x.f1 < y.f1
   ·obtain ⟨m, h1, h2, h3, h4⟩ := Ht N hN top ht (a.length + (y :: b).length) a (y :: b) out' x.f1 lb rfl (by simp; omega) a4 ⟨b0, b1, b2, b3, b4⟩; refine ⟨m, ?_, by simp at h2; omega, by rw [if_pos d]; exact h3, fun z => by rw [if_pos d]; exact h4 z⟩; simp only [if_pos d, if_pos c5, List.drop_one, List.tail_cons]; exact h1
   ·obtain ⟨m, h1, h2, h3, h4⟩ := Ht N hN top ht ((x :: a).length + b.length) (x :: a) b out' la y.f1 rfl (by simp; omega) ⟨a0, a1, a2, a3, a4⟩ b4; refine ⟨m, ?_, by simp at h2; omega, by rw [if_neg d]; exact h3, fun z => by rw [if_neg d]; exact h4 z⟩; simp only [if_neg d, if_pos c6, List.drop_one, List.tail_cons]; exact h1
  by_cases d0 : max x.f0 y.f0 ≤ min x.f1 y.f1
  ·obtain ⟨m, h1, h2, h3, h4⟩ := main (out ++ [⟨max x.f0 y.f0, min x.f1 y.f1⟩]) 0 (by simp at hl ⊢; omega); refine ⟨⟨max x.f0 y.f0, min x.f1 y.f1⟩ :: m, Bq (Bq ?_), by simp; omega, ?_, fun z => ?_⟩
   ·simp only [Bm.l0, if_pos c1, c2, Bm.j1, if_true, if_pos c3, if_pos c4, r1, r2, Mq, Rw, if_pos d0, if_pos hlo, Option.bind_some]; simpa using h1
   ·refine ⟨?_, ?_, ?_, ?_, ?_⟩
    ·show 0 ≤ max x.f0 y.f0; omega
    ·exact d0
    ·show min x.f1 y.f1 ≤ top; omega
    ·show max la lb < max x.f0 y.f0 - 1; omega
    ·refine An.mono ?_ h3; show min x.f1 y.f1 ≤ _; split <;> omega
   ·rw [List.map_cons, mem_cons, h4 z]; have e : (L95 ⟨max x.f0 y.f0, min x.f1 y.f1⟩).1 = max x.f0 y.f0 ∧ (L95 ⟨max x.f0 y.f0, min x.f1 y.f1⟩).2 = min x.f1 y.f1 := ⟨rfl, rfl⟩; rw [e.1, e.2]; have ga : ∀ z, Mem (a.map L95) z → x.f1 + 1 < z := fun z h => An.gt a4 h
    have gb : ∀ z, Mem (b.map L95) z → y.f1 + 1 < z := fun z h => An.gt b4 h
    simp only [List.map_cons, mem_cons, ex.1, ex.2, ey.1, ey.2]; by_cases d : x.f1 < y.f1
    ·simp only [if_pos d]; constructor
     ·rintro (h | ⟨h, h'⟩)
      ·exact ⟨.inl (by omega), .inl (by omega)⟩
      ·exact ⟨.inr h, h'⟩
     ·rintro ⟨h | h, h'⟩
      ·rcases h' with h' | h'
       ·exact .inl (by omega)
       ·have := gb z h'; omega
      ·exact .inr ⟨h, h'⟩
    ·simp only [if_neg d]; constructor
     ·rintro (h | ⟨h, h'⟩)
      ·exact ⟨.inl (by omega), .inl (by omega)⟩
      ·exact ⟨h, .inr h'⟩
     ·rintro ⟨h, h' | h'⟩
      ·rcases h with h | h
       ·exact .inl (by omega)
       ·have := ga z h; omega
      ·exact .inr ⟨h, h'⟩
  ·obtain ⟨m, h1, h2, h3, h4⟩ := main out 0 (by simp at hl; omega); refine ⟨m, Bq (Bq ?_), by simp; omega, ?_, fun z => ?_⟩
   ·simp only [Bm.l0, if_pos c1, c2, Bm.j1, if_true, if_pos c3, if_pos c4, r1, r2, Mq, Rw, if_neg d0]; exact h1
   ·refine An.mono ?_ h3; split <;> omega
   ·rw [h4 z]; have ga : ∀ z, Mem (a.map L95) z → x.f1 + 1 < z := fun z h => An.gt a4 h
    have gb : ∀ z, Mem (b.map L95) z → y.f1 + 1 < z := fun z h => An.gt b4 h
    simp only [List.map_cons, mem_cons, ex.1, ex.2, ey.1, ey.2]; by_cases d : x.f1 < y.f1
    ·simp only [if_pos d]; constructor
     ·rintro ⟨h, h'⟩; exact ⟨.inr h, h'⟩
     ·rintro ⟨h | h, h'⟩
      ·rcases h' with h' | h'
       ·omega
       ·have := gb z h'; omega
      ·exact ⟨h, h'⟩
    ·simp only [if_neg d]; constructor
     ·rintro ⟨h, h'⟩; exact ⟨h, .inr h'⟩
     ·rintro ⟨h, h' | h'⟩
      ·rcases h with h | h
       ·omega
       ·have := ga z h; omega
      ·exact ⟨h, h'⟩
termination_by n a b => a.length + b.length
theorem Ti (top : Int) (ht : top ≤ 1073741823) (a b : List S95) (hl : a.length + b.length ≤ 8796093022206) (ha : An top (-2) (a.map L95)) (hb : An top (-2) (b.map L95)) :
 ∃ m, Ev (fun k => Bm.f k a b) m ∧ m.length ≤ a.length + b.length ∧ An top (-2) (m.map L95) ∧ ∀ x, Mem (m.map L95) x ↔ Mem (a.map L95) x ∧ Mem (b.map L95) x := by
 obtain ⟨m, h1, h2, h3, h4⟩ := Ht (a.length + b.length) hl top ht _ a b [] (-2) (-2) rfl (by simp) ha hb; exact ⟨m, by simpa [Bm.f] using h1, h2, by simpa using h3, h4⟩
theorem scalars_Union_is (a b : List S63) (ha : a.length * 16 ≤ 140737488351232) (hb : b.length * 16 ≤ 140737488351232) : ∃ r, Ev (fun k => Er.f k a b) r ∧ scalars_IsSet r (fun x => Mem (setL 1073741823 (a.map L63)) x ∨ Mem (setL 1073741823 (b.map L63)) x) := by
 obtain ⟨s, h1, h2⟩ := Hb a ha; obtain ⟨hv, hn⟩ := Ft h2; obtain ⟨t, g1, g2⟩ := Hb b hb; obtain ⟨gv, gn⟩ := Ft g2; obtain ⟨m, w, k1, k2, k3, k4⟩ := Tb 1073741823 (by omega) (s ++ t) (by simp; omega) (fun r hr => by
  rcases List.mem_append.1 hr with hr | hr
  ·exact hv.each (L95 r) (List.mem_map.2 ⟨r, hr, rfl⟩)
  ·exact gv.each (L95 r) (List.mem_map.2 ⟨r, hr, rfl⟩))
 obtain ⟨r, q1, q2⟩ := Mj (p := fun x => Mem (setL 1073741823 (a.map L63)) x ∨ Mem (setL 1073741823 (b.map L63)) x) k3 (fun x => by rw [k4 x, List.map_append, mem_append, h2, g2]); refine ⟨r, Ev.bind h1 (Ev.bind g1 ?_), q2⟩; simp only [if_pos (show s.length + t.length < 8796093022208 by omega)]; exact Ev.bind k1 (Ev.bind q1 (Cb _))
theorem scalars_Meet_is (a b : List S63) (ha : a.length * 16 ≤ 140737488351232) (hb : b.length * 16 ≤ 140737488351232) : ∃ r, Ev (fun k => Ez.f k a b) r ∧ scalars_IsSet r (fun x => Mem (setL 1073741823 (a.map L63)) x ∧ Mem (setL 1073741823 (b.map L63)) x) := by
 obtain ⟨s, h1, h2⟩ := Hb a ha; obtain ⟨hv, hn⟩ := Ft h2; obtain ⟨t, g1, g2⟩ := Hb b hb; obtain ⟨gv, gn⟩ := Ft g2; obtain ⟨m, k1, k2, k3, k4⟩ := Ti 1073741823 (by omega) s t (by omega) hv gv; obtain ⟨r, q1, q2⟩ := Mj (p := fun x => Mem (setL 1073741823 (a.map L63)) x ∧ Mem (setL 1073741823 (b.map L63)) x) k3 (fun x => by rw [k4 x, h2, g2]); exact ⟨r, Ev.bind h1 (Ev.bind g1 (Ev.bind k1 (Ev.bind q1 (Cb _)))), q2⟩
end Go.Proofs.PB4
end
section
namespace Go.Proofs.PBS
open Go.RowKit Go.Proofs.Zw.PrintWords Go.Proofs.Zw.PrintLast Go.Proofs.Zw.PrintMore Go.Proofs.I Go.Proofs.LT Go.Proofs.PB3
set_option linter.unusedVariables false
set_option linter.unusedSimpArgs false
abbrev Sp := S58
abbrev Ra := S63
abbrev Sh := S44
def runs (p : List Sp) : List Run := p.map L58
def sets (ps : List (List Sp)) : List (List Run) := ps.map runs
def In1 (p : List Sp) : Prop := p.length * 16 ≤ 140737488351232
def In2 (ps : List (List Sp)) : Prop := ps.length * 24 ≤ 140737488351232 ∧ ∀ p ∈ ps, In1 p
def Dc (p : List Sp) : Bool := !(decide (p.length = 0)) && LT.Fd 255 (-2) (runs p)
def Cu (ps : List (List Sp)) (a : Int) : Bool := decide (1 ≤ ps.length ∧ ps.length ≤ 8) && (decide (0 ≤ a ∧ a ≤ 1073741823) && (ps.all Dc && decide (a + cnt (sets ps) - 1 ≤ 1073741823)))
theorem Dp {p : List Sp} (h : Dc p = true) : An 255 (-2) (runs p) ∧ 1 ≤ size (runs p) := by
 simp only [Dc, Bool.and_eq_true, Bool.not_eq_true', decide_eq_false_iff_not] at h; have hv := (Gk _ _ _).1 h.2; refine ⟨hv, ?_⟩; have := Ie hv; have e : (runs p).length = p.length := List.length_map ..; omega
theorem Ib {ps : List (List Sp)} (h : ps.all Dc = true) : Is (sets ps) := fun s hs => by
 obtain ⟨p, hp, rfl⟩ := List.mem_map.1 hs; exact Dp (List.all_eq_true.1 h p hp)
theorem De {ps : List (List Sp)} {a : Int} (h : Cu ps a = true) : (1 ≤ ps.length ∧ ps.length ≤ 8) ∧ (0 ≤ a ∧ a ≤ 1073741823) ∧ ps.all Dc = true ∧ Is (sets ps) ∧ a + cnt (sets ps) - 1 ≤ 1073741823 := by
 simp only [Cu, Bool.and_eq_true, decide_eq_true_eq] at h; exact ⟨h.1, h.2.1, h.2.2.1, Ib h.2.2.1, h.2.2.2⟩
theorem He (ps : List (List Sp)) (i : Nat) : (sets ps).drop i = sets (ps.drop i) := (List.map_drop ..).symm
theorem Fp (ps : List (List Sp)) : (sets ps).length = ps.length := List.length_map ..
theorem none_is (p : List Sp) (hp : In1 p) : Ev (fun k => Gd.f k p) (!Dc p) := by
 simp only [Gd.f]; by_cases c : (p.length : Int) = 0
 ·simp only [if_pos c]; rw [show Dc p = false by simp only [Dc, decide_eq_true (show p.length = 0 by omega)]; rfl]; exact Cb _
 ·simp only [if_neg c]; have e : Dc p = LT.Fd 255 (-2) (runs p) := by simp only [Dc, decide_eq_false (show ¬ p.length = 0 by omega)]; rfl
  rw [e]; exact Ev.bind (Ni p hp) (Cb _)
theorem Vv : ∀ (ps : List (List Sp)), (∀ p ∈ ps, In1 p) → Ev (fun k => Cv.go k ps) (!(ps.all Dc))
 | [], _ => Cb _
 | p :: t, h => by
  have h1 := none_is p (h p List.mem_cons_self); have h2 := Vv t (fun q hq => h q (List.mem_cons_of_mem _ hq)); refine Ev.bind h1 ?_; cases hp : Dc p
  ·simp only [Bool.not_false, if_true]; rw [show (!((p :: t).all Dc)) = true by simp [hp]]; exact Cb _
  ·simp only [Bool.not_true, Bool.false_eq_true, if_false]; rw [show (!((p :: t).all Dc)) = !(t.all Dc) by simp [hp]]; exact h2
theorem any_is (ps : List (List Sp)) (h : In2 ps) : Ev (fun k => Cv.f k ps) (!(ps.all Dc)) := by
 simp only [Cv.f, if_pos (show ps.length ≤ 8796093022206 by have := h.1; omega)]; exact Vv ps h.2
theorem Qv (p : List Sp) (hp : In1 p) (h : Dc p = true) : Ev (fun k => Fo.f k p) (size (runs p)) := by
 have := Og p hp; rwa [show p.map L58 = runs p from rfl, setL_of (Dp h).1] at this
def capd : Int → List (List Sp) → Int
 | n, [] => n
 | n, p :: t => capd (min (n * size (runs p)) 1073741825) t
theorem Qo : ∀ (ps : List (List Sp)) (n : Int), ps.all Dc = true → 1 ≤ n → n ≤ 1073741825 → capd n ps = min (n * cnt (sets ps)) 1073741825
 | [], n, _, h0, h1 => by
  show n = min (n * cnt (sets [])) _; rw [show cnt (sets []) = 1 from Hi]; omega
 | p :: t, n, h, h0, h1 => by
  have hp : Dc p = true ∧ t.all Dc = true := by simpa using h
  have hs := Dp hp.1; have hc := Eu (Ib hp.2); show capd (min (n * size (runs p)) 1073741825) t = min (n * cnt (runs p :: sets t)) _; have hn1 : 1 ≤ n * size (runs p) := by have := Int.mul_le_mul h0 hs.2 (by omega) (by omega); omega
  rw [Qo t _ hp.2 (by omega) (by omega), Hd, ← Int.mul_assoc]; generalize n * size (runs p) = m at hn1 ⊢; rcases (by omega : m ≤ 1073741825 ∨ 1073741825 < m) with q | q
  ·rw [show min m 1073741825 = m by omega]
  ·rw [show min m 1073741825 = 1073741825 by omega]; have a1 := Int.mul_le_mul_of_nonneg_left hc (show (0 : Int) ≤ 1073741825 by omega); have a2 := Int.mul_le_mul_of_nonneg_right (show (1073741825 : Int) ≤ m by omega) (show 0 ≤ cnt (sets t) by omega); omega
theorem rdL (pre : List (List Sp)) (p : List Sp) (t : List (List Sp)) : Co (pre ++ p :: t) (pre.length : Int) = p := by simp [Co]
theorem Pr (qs : List (List Sp)) (a : Int) : ∀ (t pre : List (List Sp)) (n : Int), (∀ p ∈ t, In1 p) → t.all Dc = true → (pre ++ t).length ≤ 8 → 1 ≤ n → n ≤ 1073741825 → 0 ≤ a → a ≤ 1073741823 →
 Ev (fun k => Cw.l0 k n (pre ++ t) (((pre ++ t).length : Nat) : Int) (pre.length : Int) qs a) (a + capd n t - 1)
 | [], pre, n, _, _, hl, h0, h1, a0, a1 => by
  refine Bq ?_; simp only [Cw.l0]; rw [List.append_nil]; have w1 : Aa (wrap64 (wrap64 (a + n) - 1) = a + n - 1) := Aa.mk (by rw [w64 (x := a + n) (by omega) (by omega), w64 (by omega) (by omega)]); simp only [if_neg (show ¬ ((pre.length : Nat) : Int) < ((pre.length : Nat) : Int) by omega), w1.out]; exact Cb _
 | p :: t, pre, n, hi, hk, hl, h0, h1, a0, a1 => by
  have hlc := Et pre p t; have hp : Dc p = true ∧ t.all Dc = true := by simpa using hk
  have hs := Dp hp.1; have hz := Hj hs.1; have ih := Pr qs a t (pre ++ [p]) (min (n * size (runs p)) 1073741825) (fun q hq => hi q (List.mem_cons_of_mem _ hq)) hp.2 (by rw [Cn]; exact hl) (by have := Int.mul_le_mul h0 hs.2 (by omega) (by omega); omega) (by omega) a0 a1; rw [Cn, Ek] at ih; have c1 : (pre.length : Int) < ((pre ++ p :: t).length : Nat) := by rw [hlc]; omega
  have c2 : (0 : Int) ≤ pre.length := by omega
  have hpl : pre.length ≤ 8 := by simp at hl; omega
  have m0 : 0 ≤ n * size (runs p) := Int.mul_nonneg (by omega) (by omega); have m1 : n * size (runs p) ≤ 1073741825 * 256 := Int.mul_le_mul h1 hz (by omega) (by omega); have w1 : Aa (wrap64 ((pre.length : Int) + 1) = (pre.length : Int) + 1) := Aa.mk (w64 (by omega) (by omega)); have w2 : Aa (wrap64 (n * size (runs p)) = n * size (runs p)) := Aa.mk (w64 (by omega) (by omega)); refine Bq ?_; simp only [Cw.l0, if_pos c1, if_pos c2, rdL]; refine Ev.bind (Qv p (hi p List.mem_cons_self) hp.1) ?_; simp only [w1.out, w2.out, Rw]; exact ih
def Gp (p : Sh) : Int := p.f1 + cnt (sets p.f0) - 1
theorem last_is (ps : List (List Sp)) (a : Int) (hi : In2 ps) (hk : ps.all Dc = true) (hl : ps.length ≤ 8) (a0 : 0 ≤ a) (a1 : a ≤ 1073741823) :
 Ev (fun k => Cw.f k ps a) (a + min (cnt (sets ps)) 1073741825 - 1) := by
 have h := Pr ps a ps [] 1 hi.2 hk (by simpa using hl) (by omega) (by omega) a0 a1; rw [Qo ps 1 hk (by omega) (by omega), Int.one_mul] at h; simpa [Cw.f] using h
def InS (ss : List Sh) : Prop := ss.length * 32 ≤ 140737488351232 ∧ ∀ p ∈ ss, In2 p.f0
def Fj (p q : Sh) : Bool := decide (p.f1 ≤ Gp q) && decide (q.f1 ≤ Gp p)
def vS : List Sh → List Sh → Bool
 | _, [] => true
 | pre, p :: t => Cu p.f0 p.f1 && (!(pre.any (Fj p)) && vS (pre ++ [p]) t)
def Ed (ss : List Sh) : Bool := decide (ss.length ≤ 32) && vS [] ss
theorem rdSh (pre : List Sh) (p : Sh) (t : List Sh) : Ad (pre ++ p :: t) (pre.length : Int) = p := by simp [Ad]
theorem Sw {x y z : Int} : Mem ([(⟨x, y⟩ : Ra)].map PB4.L63) z ↔ (x ≤ z ∧ z ≤ y) := by
 show Mem [(x, y)] z ↔ _; rw [mem_cons]; exact ⟨fun h => by rcases h with h | h; exact h; exact (Mem.nil h).elim, fun h => .inl h⟩
def Taken (pre : List Sh) (x : Int) : Prop := ∃ q ∈ pre, q.f1 ≤ x ∧ x ≤ Gp q
theorem Lz (N : Nat) (hN : N ≤ 4398046511103) : ∀ (t pre : List Sh) (tk : List Ra), (pre ++ t).length ≤ N → (∀ p ∈ t, In2 p.f0) → (∀ q ∈ pre, 0 ≤ q.f1 ∧ q.f1 ≤ Gp q ∧ Gp q ≤ 1073741823) → PB4.scalars_IsSet tk (Taken pre) →
 Ev (fun k => Bh.l0 k tk (pre ++ t) (((pre ++ t).length : Nat) : Int) (pre.length : Int)) (vS pre t)
 | [], pre, tk, _, _, _, _ => by
  refine Bq ?_; simp only [Bh.l0]; rw [List.append_nil]; simp only [if_neg (show ¬ ((pre.length : Nat) : Int) < ((pre.length : Nat) : Int) by omega)]; exact Cb _
 | p :: t, pre, tk, hl, hi, hq, ht => by
  have hlc := Et pre p t; have hpl : pre.length ≤ N := by simp at hl; omega
  have c1 : (pre.length : Int) < ((pre ++ p :: t).length : Nat) := by rw [hlc]; omega
  have c2 : (0 : Int) ≤ pre.length := by omega
  have hw : Aa (wrap64 ((pre.length : Int) + 1) = (pre.length : Int) + 1) := Aa.mk (w64 (by omega) (by omega)); have hip := hi p List.mem_cons_self; have no : Cu p.f0 p.f1 = false → vS pre (p :: t) = false := fun h => by show (Cu p.f0 p.f1 && _) = false; rw [h, Bool.false_and]
  have jT : Ev (fun k => Bh.j1 k tk (pre ++ p :: t) (((pre ++ p :: t).length : Nat) : Int) (pre.length : Int) true p.f0 p.f1) false := by
   refine Bq ?_; simp only [Bh.j1, if_true]; exact Cb _
  refine Bq ?_; simp only [Bh.l0, if_pos c1, if_pos c2, rdSh]; by_cases d1 : (p.f0.length : Int) < 1
  ·simp only [if_pos d1]; rw [no (by simp only [Cu, decide_eq_false (show ¬ (1 ≤ p.f0.length ∧ p.f0.length ≤ 8) by omega), Bool.false_and])]; exact jT
  by_cases d2 : (p.f0.length : Int) > 8
  ·simp only [if_neg d1, if_pos d2]; rw [no (by simp only [Cu, decide_eq_false (show ¬ (1 ≤ p.f0.length ∧ p.f0.length ≤ 8) by omega), Bool.false_and])]; exact jT
  by_cases d3 : p.f1 < 0
  ·simp only [if_neg d1, if_neg d2, if_pos d3]; rw [no (by simp only [Cu, decide_eq_false (show ¬ (0 ≤ p.f1 ∧ p.f1 ≤ 1073741823) by omega), Bool.false_and, Bool.and_false])]; exact jT
  by_cases d4 : p.f1 > 1073741823
  ·simp only [if_neg d1, if_neg d2, if_neg d3, if_pos d4]; rw [no (by simp only [Cu, decide_eq_false (show ¬ (0 ≤ p.f1 ∧ p.f1 ≤ 1073741823) by omega), Bool.false_and, Bool.and_false])]; exact jT
  simp only [if_neg d1, if_neg d2, if_neg d3, if_neg d4]; refine Ev.bind (any_is p.f0 hip) ?_; cases ha : p.f0.all Dc
  ·rw [no (by simp only [Cu, ha, Bool.false_and, Bool.and_false])]; exact jT
  have hg := Ib ha; have hc := Eu hg; have hlast := last_is p.f0 p.f1 hip ha (by omega) (by omega) (by omega); refine Bq ?_; simp only [Bool.not_true, Bh.j1, Bool.false_eq_true, if_false]; refine Ev.bind hlast ?_; simp only [Option.bind_some]; have c3 : (0 : Int) < (([(⟨p.f1, p.f1 + min (cnt (sets p.f0)) 1073741825 - 1⟩ : Ra)].length : Nat) : Int) := by simp
  simp only [if_pos c3]; have e3 : (Fg [(⟨p.f1, p.f1 + min (cnt (sets p.f0)) 1073741825 - 1⟩ : Ra)] 0).f1 = p.f1 + min (cnt (sets p.f0)) 1073741825 - 1 := rfl; simp only [e3]; by_cases d5 : p.f1 + min (cnt (sets p.f0)) 1073741825 - 1 > 1073741823
  ·simp only [if_pos d5]; rw [no (by simp only [Cu, decide_eq_false (show ¬ (p.f1 + cnt (sets p.f0) - 1 ≤ 1073741823) by omega), Bool.and_false])]; exact Cb _
  have hmin : min (cnt (sets p.f0)) 1073741825 = cnt (sets p.f0) := by omega
  have hvp : Cu p.f0 p.f1 = true := by
   simp only [Cu, ha, Bool.true_and, decide_eq_true (show 1 ≤ p.f0.length ∧ p.f0.length ≤ 8 by omega), decide_eq_true (show 0 ≤ p.f1 ∧ p.f1 ≤ 1073741823 by omega), decide_eq_true (show p.f1 + cnt (sets p.f0) - 1 ≤ 1073741823 by omega)]
  simp only [hmin] at d5 ⊢; simp only [if_neg d5]; have small : tk.length * 16 ≤ 140737488351232 := by have := ht.2.1; omega
  have hvr : An 1073741823 (-2) ([(⟨p.f1, p.f1 + cnt (sets p.f0) - 1⟩ : Ra)].map PB4.L63) := ⟨by show 0 ≤ p.f1; omega, by show p.f1 ≤ p.f1 + cnt (sets p.f0) - 1; omega, by show p.f1 + cnt (sets p.f0) - 1 ≤ 1073741823; omega, by show (-2 : Int) < p.f1 - 1; omega, trivial⟩; obtain ⟨m, m1, m2⟩ := PB4.scalars_Meet_is tk [(⟨p.f1, p.f1 + cnt (sets p.f0) - 1⟩ : Ra)] small (by simp); obtain ⟨u, u1, u2⟩ := PB4.scalars_Union_is tk [(⟨p.f1, p.f1 + cnt (sets p.f0) - 1⟩ : Ra)] small (by simp); have mm : ∀ x, Mem (m.map PB4.L63) x ↔ (Taken pre x ∧ p.f1 ≤ x ∧ x ≤ Gp p) := fun x => by
   have h0 := m2.2.2 x; simp only [PB4.setL_of ht.1, PB4.setL_of hvr, Sw, ht.2.2 x] at h0; exact h0
  have hmt : (m.length : Int) > 0 ↔ pre.any (Fj p) = true := by
   constructor
   ·intro hm; cases m with
    | nil => simp at hm
    | cons r s =>
     have hr := m2.1.each (PB4.L63 r) (List.mem_cons_self); obtain ⟨⟨q, hq1, hq2, hq3⟩, h4, h5⟩ := (mm (PB4.L63 r).1).1 ⟨_, List.mem_cons_self, Int.le_refl _, hr.2.1⟩; refine List.any_eq_true.2 ⟨q, hq1, ?_⟩; simp only [Fj, Bool.and_eq_true, decide_eq_true_eq]; omega
   ·intro hm; obtain ⟨q, hq1, hq2⟩ := List.any_eq_true.1 hm; simp only [Fj, Bool.and_eq_true, decide_eq_true_eq] at hq2; have hqq := hq q hq1; have hpp : p.f1 ≤ Gp p := by show p.f1 ≤ p.f1 + cnt (sets p.f0) - 1; omega
    have := (mm (max p.f1 q.f1)).2 ⟨⟨q, hq1, by omega, by omega⟩, by omega, by omega⟩; cases m with
    | nil => exact (Mem.nil this).elim
    | cons r s => simp
  refine Ev.bind m1 ?_; by_cases d6 : (m.length : Int) > 0
  ·simp only [if_pos d6]; rw [show vS pre (p :: t) = false by show (Cu p.f0 p.f1 && (!(pre.any (Fj p)) && _)) = false; rw [hmt.1 d6]; simp]; exact Cb _
  ·simp only [if_neg d6]; rw [show vS pre (p :: t) = vS (pre ++ [p]) t by
    show (Cu p.f0 p.f1 && (!(pre.any (Fj p)) && vS (pre ++ [p]) t)) = _; rw [hvp, show pre.any (Fj p) = false by simpa using fun h => d6 (hmt.2 h)]; rfl]
   refine Ev.bind u1 ?_; simp only [hw.out]; have ih := Lz N hN t (pre ++ [p]) u (by rw [Cn]; exact hl) (fun q hq => hi q (List.mem_cons_of_mem _ hq))
    (fun q hq' => by
     rcases List.mem_append.1 hq' with h | h
     ·exact hq q h
     ·rw [List.mem_singleton.1 h]; show 0 ≤ p.f1 ∧ p.f1 ≤ p.f1 + cnt (sets p.f0) - 1 ∧ p.f1 + cnt (sets p.f0) - 1 ≤ 1073741823; omega)
    ⟨u2.1, u2.2.1, fun x => by
     have h0 := u2.2.2 x; simp only [PB4.setL_of ht.1, PB4.setL_of hvr, Sw, ht.2.2 x] at h0; rw [h0]; constructor
     ·rintro (⟨q, h1, h2⟩ | h)
      ·exact ⟨q, List.mem_append_left _ h1, h2⟩
      ·exact ⟨p, List.mem_append_right _ (List.mem_singleton.2 rfl), h⟩
     ·rintro ⟨q, h1, h2⟩; rcases List.mem_append.1 h1 with h1 | h1
      ·exact .inl ⟨q, h1, h2⟩
      ·rw [List.mem_singleton.1 h1] at h2; exact .inr h2⟩
   rw [Cn, Ek] at ih; exact ih
theorem Fz (ss : List Sh) (h : InS ss) : Ev (fun k => Bh.f k ss) (Ed ss) := by
 simp only [Bh.f]; by_cases c : (ss.length : Int) > 32
 ·simp only [if_pos c]; rw [show Ed ss = false by simp only [Ed, decide_eq_false (show ¬ ss.length ≤ 32 by omega), Bool.false_and]]; exact Cb _
 ·simp only [if_neg c]; rw [show Ed ss = vS [] ss by simp only [Ed, decide_eq_true (show ss.length ≤ 32 by omega), Bool.true_and]]; have := Lz 32 (by omega) ss [] [] (by simp; omega) h.2 (fun q hq => by cases hq) ⟨trivial, by simp, fun x => ⟨fun h => (Mem.nil h).elim, fun ⟨q, hq, _⟩ => by cases hq⟩⟩; simpa using this
theorem Ki (ps : List (List Sp)) (a : Int) (h : In2 ps) : Ev (fun k => En.f k ps a) (Cu ps a) := by
 simp only [En.f]; have := Fz [⟨ps, a⟩] ⟨by simp, fun p hp => by rw [List.mem_singleton.1 hp]; exact h⟩; refine Ev.bind this ?_; rw [show Ed [⟨ps, a⟩] = Cu ps a by show (_ && (Cu ps a && (_ && true))) = _; simp]; exact Cb _
end Go.Proofs.PBS
end
section
namespace Go.Proofs.PBS
open Go.RowKit Go.Proofs.Zw.PrintWords Go.Proofs.Zw.PrintLast Go.Proofs.Zw.PrintMore Go.Proofs.I Go.Proofs.LT Go.Proofs.PB3
set_option linter.unusedVariables false
set_option linter.unusedSimpArgs false
theorem wf64 {x : Int} (h0 : -9223372036854775808 ≤ x) (h1 : x ≤ 9223372036854775807) : (Lit.int .i64 x).wf = true := by
 have h := wf_wrap .i64 x; rwa [show IntKind.i64.wrap x = x from by rw [IntKind.wrap_i64]; omega] at h
theorem Jt (ps : List (List Sp)) (i : Nat) (h : i < ps.length) : Co ps (i : Int) = ps[i] := by simp [Co, List.getD, h]
theorem Up (l : List Int) (i : Nat) (x : Int) (h : l[i]? = some x) : rd l (i : Int) = x := by simp [rd, List.getD, h]
theorem Gb {ps : List (List Sp)} (h : ps.all Dc = true) {i : Nat} (hi : i < ps.length) : Dc ps[i] = true := List.all_eq_true.1 h _ (List.getElem_mem hi)
theorem Ip (ps : List (List Sp)) (i : Nat) (hi : i < ps.length) : cnt (sets (ps.drop i)) = size (runs ps[i]) * cnt (sets (ps.drop (i + 1))) := by
 rw [List.drop_eq_getElem_cons hi]; exact Hd _ _
theorem SP_step (ps : List (List Sp)) (i : Nat) (hi : i < ps.length) : SP (sets (ps.drop i)) = cnt (sets (ps.drop i)) :: SP (sets (ps.drop (i + 1))) := by
 rw [Ip ps i hi, List.drop_eq_getElem_cons hi]; exact (by rw [← Hd]; exact Nc _)
theorem Qd (i : Nat) (n : Int) (t : List Int) : (List.replicate (i + 1) 0 ++ t).set i n = List.replicate i 0 ++ n :: t := by
 rw [List.replicate_succ', List.append_assoc, List.set_append, if_neg (by simp), List.length_replicate, Nat.sub_self]; rfl
theorem Np (ps : List (List Sp)) (a : Int) (hI : In2 ps) (hk : ps.all Dc = true) (hl : ps.length ≤ 8) (hc : cnt (sets ps) ≤ 1073741824) : ∀ (i : Nat), i ≤ ps.length →
 Ev (fun k => Cc.l0 k (cnt (sets (ps.drop i))) (i : Int) (List.replicate (i + 1) 0 ++ (SP (sets (ps.drop i))).tail) ps a) (SP (sets ps))
 | 0, _ => by
  refine Bq ?_; rw [List.drop_zero]; have c : (0 : Int) < ((List.replicate (0 + 1) (0 : Int) ++ (SP (sets ps)).tail).length : Nat) := by simp
  simp only [Cc.l0, if_neg (show ¬ ((0 : Nat) : Int) > 0 by omega), if_pos c]; have e : (List.replicate (0 + 1) (0 : Int) ++ (SP (sets ps)).tail).set (0 : Int).toNat (cnt (sets ps)) = SP (sets ps) := by
   rw [show (0 : Int).toNat = 0 from rfl, Qd 0, ← Nc]; first | done | rfl
  rw [e]; exact Cb _
 | i + 1, hi => by
  have ih := Np ps a hI hk hl hc i (by omega); have hg := Ib hk; have hp := Gb hk (show i < ps.length by omega); have hs := Dp hp; have hz := Hj hs.1; have hd := Rj i hg; rw [He, Ip ps i (by omega)] at hd; have h1 : 1 ≤ cnt (sets (ps.drop (i + 1))) := by have := Eu (hg.drop (i + 1)); rwa [He] at this
  have e1 : cnt (sets (ps.drop (i + 1))) * size (runs ps[i]) = cnt (sets (ps.drop i)) := by rw [Ip ps i (by omega), Int.mul_comm]
  have hpos : 0 ≤ size (runs ps[i]) * cnt (sets (ps.drop (i + 1))) := Int.mul_nonneg (by omega) (by omega); have hw : Aa (wrap64 (cnt (sets (ps.drop (i + 1))) * size (runs ps[i])) = cnt (sets (ps.drop i))) := Aa.mk (by rw [w64 (by rw [Int.mul_comm]; omega) (by rw [Int.mul_comm]; omega), e1]); have hw2 : Aa (wrap64 (((i + 1 : Nat) : Int) - 1) = (i : Int)) := Aa.mk (by rw [w64 (by omega) (by omega)]; omega); have hlen : ((List.replicate (i + 1 + 1) (0 : Int) ++ (SP (sets (ps.drop (i + 1)))).tail).length : Nat) = ps.length + 1 := by
   simp [Kw, Fp]; omega
  have c1 : ((i + 1 : Nat) : Int) < ((List.replicate (i + 1 + 1) (0 : Int) ++ (SP (sets (ps.drop (i + 1)))).tail).length : Nat) := by rw [hlen]; omega
  refine Bq ?_; simp only [Cc.l0, if_pos (show ((i + 1 : Nat) : Int) > 0 by omega), if_pos (show (0 : Int) ≤ ((i + 1 : Nat) : Int) by omega), if_pos c1, hw2.out, if_pos (show (0 : Int) ≤ (i : Int) by omega), if_pos (show (i : Int) < (ps.length : Int) by omega), Jt ps i (by omega)]; refine Ev.bind (Qv _ (hI.2 _ (List.getElem_mem _)) hp) ?_; simp only [hw.out]; have e2 : (List.replicate (i + 1 + 1) (0 : Int) ++ (SP (sets (ps.drop (i + 1)))).tail).set (((i + 1 : Nat) : Int)).toNat (cnt (sets (ps.drop (i + 1)))) = List.replicate (i + 1) 0 ++ (SP (sets (ps.drop i))).tail := by
   rw [Int.toNat_natCast, Qd (i + 1), ← Nc, SP_step ps i (by omega)]; rfl
  rw [e2]; exact ih
theorem Oe {ps : List (List Sp)} {a : Int} (hI : In2 ps) (hv : Cu ps a = true) : Ev (fun k => Cc.f k ps a) (SP (sets ps)) := by
 obtain ⟨⟨l1, l2⟩, ⟨a1, a2⟩, hk, hg, hc⟩ := De hv; have h := Np ps a hI hk l2 (by omega) ps.length (Nat.le_refl _); rw [List.drop_length] at h; have hw : Aa (wrap64 ((ps.length : Int) + 1) = ((ps.length + 1 : Nat) : Int)) := Aa.mk (by rw [w64 (by omega) (by omega)]; simp); simp only [Cc.f, hw.out, if_pos (show (0 : Int) ≤ ((ps.length + 1 : Nat) : Int) by omega), Int.toNat_natCast, if_pos (show ps.length + 1 ≤ 35184372088832 by omega)]; simpa [sets, SP, Hi] using h
theorem Ox (ps : List (List Sp)) (a : Int) (hI : In2 ps) : Ev (fun k => Fk.f k ps a) (if Cu ps a = true then cnt (sets ps) else 0) := by
 simp only [Fk.f]; refine Ev.bind (Ki ps a hI) ?_; cases hv : Cu ps a
 ·simp only [Bool.false_eq_true, if_false]; exact Cb _
 ·simp only [if_true]; refine Ev.bind (Oe hI hv) ?_; rw [if_pos (show (0 : Int) < ((SP (sets ps)).length : Nat) by rw [Kw]; omega), show rd (SP (sets ps)) 0 = cnt (sets ps) by rw [Nc]; rfl]; exact Cb _
theorem Sk (p : List Sp) (d : Int) (hi : In1 p) (hk : Dc p = true) (h0 : 0 ≤ d) (h1 : d < size (runs p)) : Ev (fun k => Gl.f k p d) (selV (runs p) d, true) := by
 have hs := Dp hk; have hz := Hj hs.1; obtain ⟨r, r1, r2⟩ := Me p d (wf64 (by omega) (by omega)) hi; rw [show p.map L58 = runs p from rfl, setL_of hs.1] at r2; have hS := LT.Fn hs.1 h0 h1; obtain rfl := Sel.uniq hs.1 r2 (.inl ⟨_, hS.1, hS.2, rfl⟩); exact r1
theorem Sf (ps : List (List Sp)) (i : Nat) (hi : i < ps.length) : (SP (sets ps)).tail[i]? = some (cnt (sets (ps.drop (i + 1)))) := by
 have := SP_at (sets ps) (i + 1) (by rw [Fp]; omega); rw [He] at this; rw [← this, List.getElem?_tail]
theorem Ma (ps : List (List Sp)) (a : Int) (hI : In2 ps) (hk : ps.all Dc = true) (hl : ps.length ≤ 8) (hc : cnt (sets ps) ≤ 1073741824) : ∀ (n i : Nat) (kk : Int) (out : List Int), i + n = ps.length → out.length ≤ i → 0 ≤ kk → kk < cnt (sets (ps.drop i)) →
 Ev (fun k => Bi.l0 k kk out (SP (sets ps)).tail ((SP (sets ps)).tail.length : Int) (i : Int) ps a) (out ++ unr (sets (ps.drop i)) kk, true)
 | 0, i, kk, out, hi, _, _, _ => by
  refine Bq ?_; have hlen : (SP (sets ps)).tail.length = ps.length := by rw [List.length_tail, Kw, Fp]; rfl
  simp only [Bi.l0, hlen, if_neg (show ¬ (i : Int) < ((ps.length : Nat) : Int) by omega)]; rw [List.drop_of_length_le (by omega), show unr (sets []) kk = [] from Od _, List.append_nil]; exact Cb _
 | n + 1, i, kk, out, hi, ho, h0, h1 => by
  have hlen : (SP (sets ps)).tail.length = ps.length := by rw [List.length_tail, Kw, Fp]; rfl
  have hil : i < ps.length := by omega
  have hg := Ib hk; have hp := Gb hk hil; have hs := Dp hp; have hpos : 1 ≤ cnt (sets (ps.drop (i + 1))) := by have := Eu (hg.drop (i + 1)); rwa [He] at this
  rw [Ip ps i hil] at h1; obtain ⟨d0, d1, d2, d3⟩ := digit hpos h0 h1; have hz := Hj hs.1; have ih := Ma ps a hI hk hl hc n (i + 1) (kk % cnt (sets (ps.drop (i + 1)))) (out ++ [selV (runs ps[i]) (kk / cnt (sets (ps.drop (i + 1))))]) (by omega) (by simp; omega) d2 d3; have hr := hs.1.range (LT.Fn hs.1 d0 d1).1; have r1 := Up _ i _ (Sf ps i hil); have t1 : Int.tdiv kk (cnt (sets (ps.drop (i + 1)))) = kk / cnt (sets (ps.drop (i + 1))) := Int.tdiv_eq_ediv_of_nonneg h0; have t2 : Int.tmod kk (cnt (sets (ps.drop (i + 1)))) = kk % cnt (sets (ps.drop (i + 1))) := Int.tmod_eq_emod_of_nonneg h0; have hw : Aa (wrap64 (kk / cnt (sets (ps.drop (i + 1)))) = kk / cnt (sets (ps.drop (i + 1)))) := Aa.mk (w64 (by omega) (by omega)); have hw2 : Aa (wrap64 ((i : Int) + 1) = ((i + 1 : Nat) : Int)) := Aa.mk (by rw [w64 (by omega) (by omega)]; simp); have hm : selV (runs ps[i]) (kk / cnt (sets (ps.drop (i + 1)))) % 256 = selV (runs ps[i]) (kk / cnt (sets (ps.drop (i + 1)))) := Int.emod_eq_of_lt hr.1 (by omega); refine Bq ?_; simp only [Bi.l0, hlen, if_pos (show (i : Int) < ((ps.length : Nat) : Int) by omega), if_pos (show (0 : Int) ≤ (i : Int) by omega), r1, if_neg (show ¬ cnt (sets (ps.drop (i + 1))) = 0 by omega), Jt ps i hil, t1, t2, hw.out]; refine Ev.bind (Sk _ _ (hI.2 _ (List.getElem_mem _)) hp d0 d1) ?_; simp only [if_pos (show out.length < 140737488355328 by omega), hw2.out, hm]; have e : unr (sets (ps.drop i)) kk = selV (runs ps[i]) (kk / cnt (sets (ps.drop (i + 1)))) :: unr (sets (ps.drop (i + 1))) (kk % cnt (sets (ps.drop (i + 1)))) := by
   rw [List.drop_eq_getElem_cons hil]; exact Kg _ _ _
  rw [e]; rw [hlen, List.append_assoc] at ih; exact ih
theorem Ub (ps : List (List Sp)) (a kk : Int) (hI : In2 ps) (h : ¬ (0 ≤ kk ∧ kk < (if Cu ps a = true then cnt (sets ps) else 0))) : Ev (fun k => Bi.f k ps a kk) ([], false) := by
 have j : Ev (fun k => Bi.j0 k kk true ps a) ([], false) := by
  refine Bq ?_; simp only [Bi.j0, if_true]; exact Cb _
 simp only [Bi.f]; by_cases c : kk < 0
 ·simp only [if_pos c]; exact j
 ·simp only [if_neg c]; refine Ev.bind (Ox ps a hI) ?_; rw [decide_eq_true (show kk ≥ (if Cu ps a = true then cnt (sets ps) else 0) by omega)]; exact j
theorem Ry {ps : List (List Sp)} {a kk : Int} (hI : In2 ps) (hv : Cu ps a = true) (h0 : 0 ≤ kk) (h1 : kk < cnt (sets ps)) : Ev (fun k => Bi.f k ps a kk) (unr (sets ps) kk, true) := by
 obtain ⟨⟨l1, l2⟩, ⟨a1, a2⟩, hk, hg, hc⟩ := De hv; simp only [Bi.f, if_neg (show ¬ kk < 0 by omega)]; have hC := Ox ps a hI; rw [if_pos hv] at hC; refine Ev.bind hC ?_; rw [decide_eq_false (show ¬ kk ≥ cnt (sets ps) by omega)]; refine Bq ?_; simp only [Bi.j0, Bool.false_eq_true, if_false]; refine Ev.bind (Oe hI hv) ?_; simp only [if_pos (show (1 : Int) ≤ ((SP (sets ps)).length : Nat) by rw [Kw]; omega)]; simp only [Option.bind_some, show (1 : Int).toNat = 1 from rfl, List.drop_one]; have := Ma ps a hI hk l2 (by omega) ps.length 0 kk [] (by omega) (by simp) h0 (by rw [List.drop_zero]; exact h1); rw [List.drop_zero, List.nil_append] at this; exact this
def rkR : Option Int → Int × Bool
 | some r => (r, true)
 | none => (0, false)
theorem Nu (ps : List (List Sp)) (a : Int) (bs : List Int) (hb : ∀ b ∈ bs, 0 ≤ b ∧ b ≤ 255) (hbl : bs.length = ps.length) (hI : In2 ps) (hk : ps.all Dc = true) (hl : ps.length ≤ 8) (hc : cnt (sets ps) ≤ 1073741824) : ∀ (n i : Nat) (acc : Int), i + n = ps.length → 0 ≤ acc → acc + cnt (sets (ps.drop i)) ≤ 1073741824 →
 Ev (fun k => Bt.l0 k bs acc (SP (sets ps)).tail ((SP (sets ps)).tail.length : Int) (i : Int) ps a) (rkR ((rnk (sets (ps.drop i)) (bs.drop i)).map (acc + ·)))
 | 0, i, acc, hi, _, _ => by
  refine Bq ?_; have hlen : (SP (sets ps)).tail.length = ps.length := by rw [List.length_tail, Kw, Fp]; rfl
  simp only [Bt.l0, hlen, if_neg (show ¬ (i : Int) < ((ps.length : Nat) : Int) by omega)]; rw [List.drop_of_length_le (show ps.length ≤ i by omega), List.drop_of_length_le (show bs.length ≤ i by omega), show rnk (sets []) [] = some 0 from Qe]; simpa [rkR] using Cb (acc, true)
 | n + 1, i, acc, hi, h0, h1 => by
  have hlen : (SP (sets ps)).tail.length = ps.length := by rw [List.length_tail, Kw, Fp]; rfl
  have hil : i < ps.length := by omega
  have hbi : i < bs.length := by omega
  have hg := Ib hk; have hp := Gb hk hil; have hs := Dp hp; have hz := Hj hs.1; have hpos : 1 ≤ cnt (sets (ps.drop (i + 1))) := by have := Eu (hg.drop (i + 1)); rwa [He] at this
  have hbb := hb _ (List.getElem_mem hbi); rw [Ip ps i hil] at h1; have r1 := Up _ i _ (Sf ps i hil); have r2 := Up bs i _ (List.getElem?_eq_getElem hbi); have hw : Aa (wrap64 (bs[i]) = bs[i]) := Aa.mk (w64 (by omega) (by omega)); have hw2 : Aa (wrap64 ((i : Int) + 1) = ((i + 1 : Nat) : Int)) := Aa.mk (by rw [w64 (by omega) (by omega)]; simp); have hR := Oh ps[i] bs[i] (wf64 (by omega) (by omega)) (hI.2 _ (List.getElem_mem _)); rw [show ps[i].map L58 = runs ps[i] from rfl, setL_of hs.1] at hR; have e : rnk (sets (ps.drop i)) (bs.drop i) = if memB (runs ps[i]) bs[i] = true then (rnk (sets (ps.drop (i + 1))) (bs.drop (i + 1))).map (fun r => (cd (memB (runs ps[i])) bs[i].toNat : Int) * cnt (sets (ps.drop (i + 1))) + r) else none := by
   rw [List.drop_eq_getElem_cons hil, List.drop_eq_getElem_cons hbi]; exact Lp _ _ _ _
  refine Bq ?_; simp only [Bt.l0, hlen, if_pos (show (i : Int) < ((ps.length : Nat) : Int) by omega), if_pos (show (0 : Int) ≤ (i : Int) by omega), if_pos (show (i : Int) < ((bs.length : Nat) : Int) by omega), r1, r2, Jt ps i hil, hw.out]; refine Ev.bind hR ?_; by_cases hm : memB (runs ps[i]) bs[i] = true
  ·rw [e, if_pos hm]; simp only [Kq, if_pos hm, if_true]; have hd := Mx hs.1 (Dh.1 hm); have m0 : 0 ≤ (cd (memB (runs ps[i])) bs[i].toNat : Int) * cnt (sets (ps.drop (i + 1))) := Int.mul_nonneg (by omega) (by omega); have m1 := Int.mul_le_mul_of_nonneg_right (show (cd (memB (runs ps[i])) bs[i].toNat : Int) + 1 ≤ size (runs ps[i]) by omega) (show 0 ≤ cnt (sets (ps.drop (i + 1))) by omega); rw [Int.add_mul, Int.one_mul] at m1; have w1 : Aa (wrap64 (acc + wrap64 ((cd (memB (runs ps[i])) bs[i].toNat : Int) * cnt (sets (ps.drop (i + 1))))) = acc + (cd (memB (runs ps[i])) bs[i].toNat : Int) * cnt (sets (ps.drop (i + 1)))) := Aa.mk (by
    rw [w64 (x := (cd (memB (runs ps[i])) bs[i].toNat : Int) * cnt (sets (ps.drop (i + 1)))) (by omega) (by omega), w64 (by omega) (by omega)])
   simp only [w1.out, hw2.out]; have ih := Nu ps a bs hb hbl hI hk hl hc n (i + 1) (acc + (cd (memB (runs ps[i])) bs[i].toNat : Int) * cnt (sets (ps.drop (i + 1)))) (by omega) (by omega) (by omega); rw [hlen] at ih; have e3 : ((rnk (sets (ps.drop (i + 1))) (bs.drop (i + 1))).map (fun r => (cd (memB (runs ps[i])) bs[i].toNat : Int) * cnt (sets (ps.drop (i + 1))) + r)).map (acc + ·) = (rnk (sets (ps.drop (i + 1))) (bs.drop (i + 1))).map (acc + (cd (memB (runs ps[i])) bs[i].toNat : Int) * cnt (sets (ps.drop (i + 1))) + ·) := by
    cases rnk (sets (ps.drop (i + 1))) (bs.drop (i + 1)) with
    | none => rfl
    | some r => simp [Int.add_assoc]
   rw [e3]; exact ih
  ·rw [e, if_neg hm]; simp only [Kq, if_neg hm, Bool.false_eq_true, if_false]; exact Cb _
def rkS (ps : List (List Sp)) (a : Int) (bs : List Int) : Int × Bool := if Cu ps a = true then rkR (rnk (sets ps) bs) else (0, false)
theorem Rank_is (ps : List (List Sp)) (a : Int) (bs : List Int) (hI : In2 ps) (hb : ∀ b ∈ bs, 0 ≤ b ∧ b ≤ 255) : Ev (fun k => Bt.f k ps a bs) (rkS ps a bs) := by
 have jT : Ev (fun k => Bt.j0 k bs true ps a) (0, false) := by
  refine Bq ?_; simp only [Bt.j0, if_true]; exact Cb _
 simp only [Bt.f]; refine Ev.bind (Ki ps a hI) ?_; unfold rkS; cases hv : Cu ps a
 ·simp only [Bool.false_eq_true, if_false]; exact jT
 ·simp only [if_true]; obtain ⟨⟨l1, l2⟩, ⟨a1, a2⟩, hk, hg, hc⟩ := De hv; by_cases c : bs.length = ps.length
  ·rw [show ((bs.length : Int) != (ps.length : Int)) = false by simp [c]]; refine Bq ?_; simp only [Bt.j0, Bool.false_eq_true, if_false]; refine Ev.bind (Oe hI hv) ?_; simp only [if_pos (show (1 : Int) ≤ ((SP (sets ps)).length : Nat) by rw [Kw]; omega)]; simp only [Option.bind_some, show (1 : Int).toNat = 1 from rfl, List.drop_one]; have := Nu ps a bs hb c hI hk l2 (by omega) ps.length 0 0 (by omega) (by omega) (by rw [List.drop_zero]; omega); rw [List.drop_zero, List.drop_zero] at this; have e : (rnk (sets ps) bs).map ((0 : Int) + ·) = rnk (sets ps) bs := by cases rnk (sets ps) bs <;> simp
   rw [e] at this; exact this
  ·rw [show ((bs.length : Int) != (ps.length : Int)) = true by simp; omega]; have e : rnk (sets ps) bs = none := by
    cases hr : rnk (sets ps) bs with
    | none => rfl
    | some r => exact (c (by have := Oi hr; rwa [Fp] at this)).elim
   rw [e]; exact jT
end Go.Proofs.PBS
end
