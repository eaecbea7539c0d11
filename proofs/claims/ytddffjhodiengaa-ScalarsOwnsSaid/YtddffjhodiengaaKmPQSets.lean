/- Words and walks of this claim, of the text PQSets. -/
import Derived.Test.YtddffjhodiengaaKmQx0
import Derived.Test.YtddffjhodiengaaKmQx2
import Derived.Test.YtddffjhodiengaaKmQx3
import Derived.Test.YtddffjhodiengaaKmQx4
import Derived.Test.YtddffjhodiengaaKmSets
import Derived.OpenShut
namespace Go.Proofs.Ytddffjhodiengaa.PQ
open Go.RowKit Go.Proofs.YtddffjhodiengaaW.PrintWords Go.Proofs.YtddffjhodiengaaW.PrintLast Go.Proofs.YtddffjhodiengaaW.PrintMore Go.Proofs.Ytddffjhodiengaa.Q Go.Proofs.LT
set_option linter.unusedVariables false
set_option linter.unusedSimpArgs false
theorem evSucc {α : Type} {g : Nat → Option α} {r : α} (h : Ev (fun k => g (k + 1)) r) : Ev g r := Ev.step (fun _ => rfl) h
theorem evNow {α : Type} (r : α) : Ev (fun _ => some r) r := Ev.now r
theorem w64 {x : Int} (h0 : -9223372036854775808 ≤ x) (h1 : x ≤ 9223372036854775807) : wrap64 x = x := by unfold wrap64; omega
def L72 (x : S72) : Run := (x.f0, x.f1)
def L56 (x : S56) : Run := (x.f0, x.f1)
theorem L56_inj : ∀ {a b : List S56}, a.map L56 = b.map L56 → a = b
  | [], [], _ => rfl
  | [], _ :: _, h => by simp at h
  | _ :: _, [], h => by simp at h
  | ⟨_, _⟩ :: t, ⟨_, _⟩ :: t', h => by
    simp only [List.map_cons, List.cons.injEq, L56, Prod.mk.injEq] at h
    obtain ⟨⟨rfl, rfl⟩, h⟩ := h
    rw [L56_inj h]
theorem rd72 (pre : List S72) (r : S72) (t : List S72) : rd_T72 (pre ++ r :: t) (pre.length : Int) = r := by simp [rd_T72]
theorem rd56 (pre : List S56) (r : S56) (t : List S56) : rd_T56 (pre ++ r :: t) (pre.length : Int) = r := by simp [rd_T56]
theorem snoc_len {α : Type} (pre : List α) (r : α) : (((pre ++ [r]).length : Nat) : Int) = (pre.length : Int) + 1 := by simp
theorem app_snoc {α : Type} (pre : List α) (r : α) (t : List α) : (pre ++ [r]) ++ t = pre ++ r :: t := by simp
theorem len_cons {α : Type} (pre : List α) (r : α) (t : List α) : (((pre ++ r :: t).length : Nat) : Int) = pre.length + 1 + t.length := by simp; omega
def api_Range_c (x : S56) : S72 := ⟨x.f0, x.f1⟩
theorem api_Range_loop (N : Nat) (hN : N ≤ 8796093022206) : ∀ (t pre : List S56) (out : List S72), (pre ++ t).length ≤ N → out.length = pre.length → Ev (fun k => api_Range.l0 k out (pre ++ t) (((pre ++ t).length : Nat) : Int) (pre.length : Int)) (out ++ t.map api_Range_c)
  | [], pre, out, _, _ => by
    refine evSucc ?_
    simp only [api_Range.l0]
    rw [List.append_nil]
    simp only [if_neg (show ¬ ((pre.length : Nat) : Int) < ((pre.length : Nat) : Int) by omega)]
    simpa using evNow out
  | r :: t, pre, out, hl, ho => by
    have hlc := len_cons pre r t
    have hlt : out.length < 8796093022208 := by simp at hl; omega
    have ih := api_Range_loop N hN t (pre ++ [r]) (out ++ [api_Range_c r]) (by rw [app_snoc]; exact hl) (by simp [ho])
    rw [app_snoc, snoc_len] at ih
    refine evSucc ?_
    have hw : Aside0 (wrap64 ((pre.length : Int) + 1) = (pre.length : Int) + 1) := Aside0.mk (w64 (by omega) (by simp at hl; omega))
    have c1 : (pre.length : Int) < ((pre ++ r :: t).length : Nat) := by rw [hlc]; omega
    have c2 : (0 : Int) ≤ pre.length := by omega
    simp only [api_Range.l0, if_pos c1, if_pos c2, if_pos hlt, rd56, hw.out]
    simpa [api_Range_c] using ih
theorem api_Range_is (l : List S56) (hl : l.length * 16 ≤ 140737488351232) : Ev (fun k => api_Range.f k l) (l.map api_Range_c) := by
  have h := api_Range_loop l.length (by omega) l [] [] (by simp) rfl
  have c1 : (0 : Int) ≤ (l.length : Int) := by omega
  have c2 : ((l.length : Int) : Int).toNat ≤ 17592186044416 := by omega
  simp only [api_Range.f, if_pos c1, if_pos c2]
  simpa using h
theorem api_Range_len (l : List S56) : (l.map api_Range_c).map L72 = l.map L56 := by rw [List.map_map]; rfl
def sets_Run_90_c (x : S72) : S56 := ⟨x.f0, x.f1⟩
theorem sets_Run_90_loop (N : Nat) (hN : N ≤ 8796093022206) : ∀ (t pre : List S72) (out : List S56), (pre ++ t).length ≤ N → out.length = pre.length → Ev (fun k => sets_Run_90.l0 k out (pre ++ t) (((pre ++ t).length : Nat) : Int) (pre.length : Int)) (out ++ t.map sets_Run_90_c)
  | [], pre, out, _, _ => by
    refine evSucc ?_
    simp only [sets_Run_90.l0]
    rw [List.append_nil]
    simp only [if_neg (show ¬ ((pre.length : Nat) : Int) < ((pre.length : Nat) : Int) by omega)]
    simpa using evNow out
  | r :: t, pre, out, hl, ho => by
    have hlc := len_cons pre r t
    have hlt : out.length < 8796093022208 := by simp at hl; omega
    have ih := sets_Run_90_loop N hN t (pre ++ [r]) (out ++ [sets_Run_90_c r]) (by rw [app_snoc]; exact hl) (by simp [ho])
    rw [app_snoc, snoc_len] at ih
    refine evSucc ?_
    have hw : Aside0 (wrap64 ((pre.length : Int) + 1) = (pre.length : Int) + 1) := Aside0.mk (w64 (by omega) (by simp at hl; omega))
    have c1 : (pre.length : Int) < ((pre ++ r :: t).length : Nat) := by rw [hlc]; omega
    have c2 : (0 : Int) ≤ pre.length := by omega
    simp only [sets_Run_90.l0, if_pos c1, if_pos c2, if_pos hlt, rd72, hw.out]
    simpa [sets_Run_90_c] using ih
theorem sets_Run_90_is (l : List S72) (hl : l.length * 16 ≤ 140737488351232) : Ev (fun k => sets_Run_90.f k l) (l.map sets_Run_90_c) := by
  have h := sets_Run_90_loop l.length (by omega) l [] [] (by simp) rfl
  have c1 : (0 : Int) ≤ (l.length : Int) := by omega
  have c2 : ((l.length : Int) : Int).toNat ≤ 17592186044416 := by omega
  simp only [sets_Run_90.f, if_pos c1, if_pos c2]
  simpa using h
theorem sets_Run_90_len (l : List S72) : (l.map sets_Run_90_c).map L56 = l.map L72 := by rw [List.map_map]; rfl
theorem valid_loop (N : Nat) (hN : N ≤ 8796093022206) (top : Int) (ht : top ≤ 1073741823) : ∀ (t pre : List S72) (last : Int), (pre ++ t).length ≤ N → Ev (fun k => sets_Valid.l0 k top last (pre ++ t) (((pre ++ t).length : Nat) : Int) (pre.length : Int)) (validB top last (t.map L72))
  | [], pre, last, _ => by
    refine evSucc ?_
    simp only [sets_Valid.l0]
    rw [List.append_nil]
    simp only [if_neg (show ¬ ((pre.length : Nat) : Int) < ((pre.length : Nat) : Int) by omega)]
    rw [show validB top last (([] : List S72).map L72) = true from validB_nil _ _]
    exact evNow _
  | r :: t, pre, last, hl => by
    have hlc := len_cons pre r t
    have ih := valid_loop N hN top ht t (pre ++ [r]) r.f1 (by rw [app_snoc]; exact hl)
    rw [app_snoc, snoc_len] at ih
    refine evSucc ?_
    have hw : Aside0 (wrap64 ((pre.length : Int) + 1) = (pre.length : Int) + 1) := Aside0.mk (w64 (by omega) (by simp at hl; omega))
    have c1 : (pre.length : Int) < ((pre ++ r :: t).length : Nat) := by rw [hlc]; omega
    have c2 : (0 : Int) ≤ pre.length := by omega
    simp only [sets_Valid.l0, if_pos c1, if_pos c2, rd72, hw.out, List.map_cons, validB_cons, L72]
    by_cases d1 : r.f0 < 0
    · simp only [if_pos d1]; exact evNow _
    by_cases d2 : r.f0 > r.f1
    · simp only [if_neg d1, if_pos d2]; exact evNow _
    by_cases d3 : r.f1 > top
    · simp only [if_neg d1, if_neg d2, if_pos d3]; exact evNow _
    have hw2 : Aside0 (wrap64 (r.f0 - 1) = r.f0 - 1) := Aside0.mk (w64 (by omega) (by omega))
    simp only [if_neg d1, if_neg d2, if_neg d3, hw2.out]
    by_cases d4 : r.f0 - 1 ≤ last
    · simp only [if_pos d4]; exact evNow _
    · simp only [if_neg d4]; exact ih
theorem valid_is (top : Int) (ht : top ≤ 1073741823) (l : List S72) (hl : l.length ≤ 8796093022206) : Ev (fun k => sets_Valid.f k l top) (validB top (-2) (l.map L72)) := by
  have h := valid_loop l.length hl top ht l [] (-2) (by simp)
  simpa [sets_Valid.f] using h
theorem size_loop (N : Nat) (hN : N ≤ 8796093022206) (top : Int) (ht : top ≤ 1073741823) : ∀ (t pre : List S72) (last acc : Int), (pre ++ t).length ≤ N → ValidFrom top last (t.map L72) → 0 ≤ acc → acc + size (t.map L72) ≤ 4294967296 →
    Ev (fun k => sets_Size.l0 k acc (pre ++ t) (((pre ++ t).length : Nat) : Int) (pre.length : Int)) (acc + size (t.map L72))
  | [], pre, last, acc, _, _, _, _ => by
    refine evSucc ?_
    simp only [sets_Size.l0]
    rw [List.append_nil]
    simp only [if_neg (show ¬ ((pre.length : Nat) : Int) < ((pre.length : Nat) : Int) by omega)]
    simpa [size_nil] using evNow acc
  | r :: t, pre, last, acc, hl, hv, h0, h1 => by
    have hlc := len_cons pre r t
    have hs := size_nonneg hv.2.2.2.2
    have e1 : size ((r :: t).map L72) = (r.f1 - r.f0 + 1) + size (t.map L72) := size_cons _ _
    have v0 : 0 ≤ r.f0 := hv.1
    have v1 : r.f0 ≤ r.f1 := hv.2.1
    have v2 : r.f1 ≤ top := hv.2.2.1
    have ih := size_loop N hN top ht t (pre ++ [r]) r.f1 (acc + (r.f1 - r.f0 + 1)) (by rw [app_snoc]; exact hl) hv.2.2.2.2 (by omega) (by omega)
    rw [app_snoc, snoc_len] at ih
    refine evSucc ?_
    have hw : Aside0 (wrap64 ((pre.length : Int) + 1) = (pre.length : Int) + 1) := Aside0.mk (w64 (by omega) (by simp at hl; omega))
    have c1 : (pre.length : Int) < ((pre ++ r :: t).length : Nat) := by rw [hlc]; omega
    have c2 : (0 : Int) ≤ pre.length := by omega
    have w1 : Aside0 (wrap64 (r.f1 - r.f0) = r.f1 - r.f0) := Aside0.mk (w64 (by omega) (by omega))
    have w2 : Aside0 (wrap64 (r.f1 - r.f0 + 1) = r.f1 - r.f0 + 1) := Aside0.mk (w64 (by omega) (by omega))
    have w3 : Aside0 (wrap64 (acc + (r.f1 - r.f0 + 1)) = acc + (r.f1 - r.f0 + 1)) := Aside0.mk (w64 (by omega) (by omega))
    simp only [sets_Size.l0, if_pos c1, if_pos c2, rd72, hw.out, w1.out, w2.out, w3.out]
    have e2 : acc + size ((r :: t).map L72) = acc + (r.f1 - r.f0 + 1) + size (t.map L72) := by omega
    rw [e2]
    exact ih
theorem size_is (top : Int) (ht : top ≤ 1073741823) (l : List S72) (hl : l.length ≤ 8796093022206) (hv : ValidFrom top (-2) (l.map L72)) : Ev (fun k => sets_Size.f k l) (size (l.map L72)) := by
  have h0 : (0:Int) ≤ top ∨ l = [] := by
    cases l with
    | nil => exact .inr rfl
    | cons r t => have := hv.1; have := hv.2.1; have := hv.2.2.1; exact .inl (by omega)
  have hs : size (l.map L72) ≤ 4294967296 := by
    rcases h0 with h0 | rfl
    · have := size_le hv h0; omega
    · simp [size_nil]
  have h := size_loop l.length hl top ht l [] (-2) 0 (by simp) hv (by omega) (by omega)
  simpa [sets_Size.f] using h
def Sel (l : List Run) (k : Int) (r : Int × Bool) : Prop := (∃ x, Mem l x ∧ (cd (memB l) x.toNat : Int) = k ∧ r = (x, true)) ∨ ((k < 0 ∨ size l ≤ k) ∧ r = (0, false))
theorem Sel.uniq {top : Int} {l : List Run} (hv : ValidFrom top (-2) l) {k : Int} {r q : Int × Bool} (h : Sel l k r) (h' : Sel l k q) : r = q := by
  have lt : ∀ x, Mem l x → (cd (memB l) x.toNat : Int) < size l := fun x hx => by
    have hr := hv.range hx
    have := cd_size (n := top.toNat + 1) hv (by omega)
    have e : ((x.toNat : Nat) : Int) = x := Int.toNat_of_nonneg hr.1
    have := cd_lt (memB l) (m := x.toNat) (n := top.toNat + 1) (by omega) (by rw [e]; exact memB_iff.2 hx)
    omega
  rcases h with ⟨x, hx, hk, rfl⟩ | ⟨hk, rfl⟩ <;> rcases h' with ⟨y, hy, hk', rfl⟩ | ⟨hk', rfl⟩
  · have ex : ((x.toNat : Nat) : Int) = x := Int.toNat_of_nonneg (hv.range hx).1
    have ey : ((y.toNat : Nat) : Int) = y := Int.toNat_of_nonneg (hv.range hy).1
    have := cd_inj (memB l) (m := x.toNat) (n := y.toNat) (by rw [ex]; exact memB_iff.2 hx) (by rw [ey]; exact memB_iff.2 hy) (by omega)
    rw [show x = y by omega]
  · have := lt x hx; omega
  · have := lt y hy; omega
  · rfl
theorem select_loop (N : Nat) (hN : N ≤ 8796093022206) (top : Int) (ht : top ≤ 1073741823) : ∀ (t pre : List S72) (last kk : Int), (pre ++ t).length ≤ N → ValidFrom top last (t.map L72) → 0 ≤ kk → kk ≤ 9223372036854775807 →
    ∃ r, Ev (fun k => sets_Select.l0 k kk (pre ++ t) (((pre ++ t).length : Nat) : Int) (pre.length : Int)) r ∧ Sel (t.map L72) kk r
  | [], pre, last, kk, _, _, h0, _ => by
    refine ⟨(0, false), evSucc ?_, .inr ⟨.inr (by simpa [size_nil] using h0), rfl⟩⟩
    simp only [sets_Select.l0]
    rw [List.append_nil]
    simp only [if_neg (show ¬ ((pre.length : Nat) : Int) < ((pre.length : Nat) : Int) by omega)]
    exact evNow _
  | r :: t, pre, last, kk, hl, hv, h0, h1 => by
    have hlc := len_cons pre r t
    have v0 : 0 ≤ r.f0 := hv.1
    have v1 : r.f0 ≤ r.f1 := hv.2.1
    have v2 : r.f1 ≤ top := hv.2.2.1
    have hm : (L72 r).1 = r.f0 ∧ (L72 r).2 = r.f1 := ⟨rfl, rfl⟩
    have hw : Aside0 (wrap64 ((pre.length : Int) + 1) = (pre.length : Int) + 1) := Aside0.mk (w64 (by omega) (by simp at hl; omega))
    have c1 : (pre.length : Int) < ((pre ++ r :: t).length : Nat) := by rw [hlc]; omega
    have c2 : (0 : Int) ≤ pre.length := by omega
    have w1 : Aside0 (wrap64 (r.f1 - r.f0) = r.f1 - r.f0) := Aside0.mk (w64 (by omega) (by omega))
    have w2 : Aside0 (wrap64 (r.f1 - r.f0 + 1) = r.f1 - r.f0 + 1) := Aside0.mk (w64 (by omega) (by omega))
    by_cases d1 : kk ≤ r.f1 - r.f0
    · have w3 : Aside0 (wrap64 (r.f0 + kk) = r.f0 + kk) := Aside0.mk (w64 (by omega) (by omega))
      refine ⟨(r.f0 + kk, true), evSucc ?_, .inl ⟨r.f0 + kk, mem_cons.2 (.inl ⟨by simp only [hm.1]; omega, by simp only [hm.2]; omega⟩), ?_, rfl⟩⟩
      · simp only [sets_Select.l0, if_pos c1, if_pos c2, rd72, hw.out, w1.out, w2.out, w3.out, if_pos d1]; exact evNow _
      · have hc := cd_in_first (x := r.f0 + kk) (show ValidFrom top last (L72 r :: t.map L72) from hv) (by simp only [hm.1]; omega) (by simp only [hm.2]; omega)
        rw [List.map_cons, hc, hm.1]; omega
    · have w3 : Aside0 (wrap64 (kk - (r.f1 - r.f0 + 1)) = kk - (r.f1 - r.f0 + 1)) := Aside0.mk (w64 (by omega) (by omega))
      obtain ⟨q, hq, hs⟩ := select_loop N hN top ht t (pre ++ [r]) r.f1 (kk - (r.f1 - r.f0 + 1)) (by rw [app_snoc]; exact hl) hv.2.2.2.2 (by omega) (by omega)
      rw [app_snoc, snoc_len] at hq
      refine ⟨q, evSucc ?_, ?_⟩
      · simp only [sets_Select.l0, if_pos c1, if_pos c2, rd72, hw.out, w1.out, w2.out, w3.out, if_neg d1]; exact hq
      · rcases hs with ⟨x, hx, hk, rfl⟩ | ⟨hk, rfl⟩
        · have hg := ValidFrom.gt hv.2.2.2.2 hx
          rw [hm.2] at hg
          refine .inl ⟨x, mem_cons.2 (.inr hx), ?_, rfl⟩
          have hc := cd_past_first (x := x) (show ValidFrom top last (L72 r :: t.map L72) from hv) (by simp only [hm.2]; omega)
          rw [List.map_cons, hc, hk, hm.1, hm.2]; omega
        · have e1 : size ((r :: t).map L72) = (r.f1 - r.f0 + 1) + size (t.map L72) := size_cons _ _
          exact .inr ⟨.inr (by omega), rfl⟩
theorem select_is (top : Int) (ht : top ≤ 1073741823) (l : List S72) (kk : Int) (hk : (Lit.int .i64 kk).wf = true) (hl : l.length ≤ 8796093022206) (hv : ValidFrom top (-2) (l.map L72)) : ∃ r, Ev (fun k => sets_Select.f k l kk) r ∧ Sel (l.map L72) kk r := by
  by_cases h0 : kk < 0
  · exact ⟨(0, false), by simp only [sets_Select.f, if_pos h0]; exact evNow _, .inr ⟨.inl h0, rfl⟩⟩
  · have hb := bounds_i64 hk
    obtain ⟨r, hr, hs⟩ := select_loop l.length hl top ht l [] (-2) kk (by simp) hv (by omega) (by omega)
    exact ⟨r, by simp only [sets_Select.f, if_neg h0]; simpa using hr, hs⟩
theorem mx_eq (a b : Int) : mx a b = max a b := by unfold mx; omega
theorem mn_eq (a b : Int) : mn a b = min a b := by unfold mn; omega
theorem norm_loop (N : Nat) (hN : N ≤ 8796093022206) (top : Int) (ht : top ≤ 1073741823) : ∀ (t pre o : List S72) (q : S72), (pre ++ t).length ≤ N → o.length + t.length + 1 ≤ N → (∀ r ∈ t, q.f0 ≤ r.f0) → t.Pairwise (fun x y => x.f0 ≤ y.f0) → (∀ r ∈ q :: t, 0 ≤ r.f0 ∧ r.f0 ≤ r.f1 ∧ r.f1 ≤ top) →
    ∃ m, Ev (fun k => sets_Norm.l0 k (pre ++ t) (o ++ [q]) (((pre ++ t).length : Nat) : Int) (pre.length : Int)) (o ++ m, pre ++ t) ∧ m.length ≤ t.length + 1 ∧ (∀ last, last < q.f0 - 1 → ValidFrom top last (m.map L72)) ∧ ∀ x, Mem (m.map L72) x ↔ Mem ((q :: t).map L72) x
  | [], pre, o, q, _, _, _, _, hr => by
    have hq := hr q List.mem_cons_self
    refine ⟨[q], evSucc ?_, by simp, fun last hlast => ⟨hq.1, hq.2.1, hq.2.2, hlast, trivial⟩, fun x => Iff.rfl⟩
    simp only [sets_Norm.l0]
    rw [List.append_nil]
    simp only [if_neg (show ¬ ((pre.length : Nat) : Int) < ((pre.length : Nat) : Int) by omega)]
    exact evNow _
  | r :: t, pre, o, q, hl, ho, hs, hp, hr => by
    have hq := hr q List.mem_cons_self
    have hr1 := hr r (List.mem_cons_of_mem _ List.mem_cons_self)
    have hqr := hs r List.mem_cons_self
    have hp' := List.pairwise_cons.1 hp
    have hlc := len_cons pre r t
    have hw : Aside0 (wrap64 ((pre.length : Int) + 1) = (pre.length : Int) + 1) := Aside0.mk (w64 (by omega) (by simp at hl; omega))
    have c1 : (pre.length : Int) < ((pre ++ r :: t).length : Nat) := by rw [hlc]; omega
    have c2 : (0 : Int) ≤ pre.length := by omega
    have ol : (((o ++ [q]).length : Nat) : Int) = (o.length : Int) + 1 := snoc_len o q
    have hob : (o.length : Int) ≤ 8796093022207 := by omega
    have c3 : (((o ++ [q]).length : Nat) : Int) > 0 := by omega
    have w1 : Aside0 (wrap64 ((((o ++ [q]).length : Nat) : Int) - 1) = (o.length : Int)) := Aside0.mk (by rw [ol, w64 (by omega) (by omega)]; omega)
    have c4 : (0 : Int) ≤ (o.length : Int) := by omega
    have c5 : (o.length : Int) < (((o ++ [q]).length : Nat) : Int) := by omega
    have r1 : rd_T72 (o ++ [q]) (o.length : Int) = q := rd72 o q []
    have w2 : Aside0 (wrap64 (q.f1 + 1) = q.f1 + 1) := Aside0.mk (w64 (by omega) (by omega))
    have hlt : (o ++ [q]).length < 8796093022208 := by simp at ho ⊢; omega
    by_cases d : r.f0 ≤ q.f1 + 1
    · obtain ⟨m, g1, g2, g3, g4⟩ := norm_loop N hN top ht t (pre ++ [r]) o ⟨q.f0, max q.f1 r.f1⟩ (by rw [app_snoc]; exact hl) (by simp at ho ⊢; omega) (fun z hz => Int.le_trans hqr (hp'.1 z hz)) hp'.2 (fun z hz => by
        rcases List.mem_cons.1 hz with rfl | hz
        · exact ⟨hq.1, by show q.f0 ≤ max q.f1 r.f1; omega, by show max q.f1 r.f1 ≤ top; omega⟩
        · exact hr z (List.mem_cons_of_mem _ (List.mem_cons_of_mem _ hz)))
      rw [app_snoc, snoc_len] at g1
      refine ⟨m, evSucc ?_, by simp; omega, g3, fun x => ?_⟩
      · simp only [sets_Norm.l0, if_pos c1, if_pos c2, rd72, hw.out, if_pos c3, w1.out, if_pos c4, if_pos c5, r1, w2.out, if_pos d, mx_eq]
        have : (o ++ [q]).set (o.length : Int).toNat (⟨q.f0, max q.f1 r.f1⟩ : S72) = o ++ [⟨q.f0, max q.f1 r.f1⟩] := by simp
        rw [this]
        exact g1
      · rw [g4 x]
        simp only [List.map_cons, mem_cons]
        show (q.f0 ≤ x ∧ x ≤ max q.f1 r.f1) ∨ _ ↔ (q.f0 ≤ x ∧ x ≤ q.f1) ∨ (r.f0 ≤ x ∧ x ≤ r.f1) ∨ _
        constructor
        · rintro (h | h)
          · by_cases e : x ≤ q.f1
            · exact .inl (by omega)
            · exact .inr (.inl (by omega))
          · exact .inr (.inr h)
        · rintro (h | h | h)
          · exact .inl (by omega)
          · exact .inl (by omega)
          · exact .inr h
    · obtain ⟨m, g1, g2, g3, g4⟩ := norm_loop N hN top ht t (pre ++ [r]) (o ++ [q]) r (by rw [app_snoc]; exact hl) (by simp at ho ⊢; omega) hp'.1 hp'.2 (fun z hz => hr z (List.mem_cons_of_mem _ hz))
      rw [app_snoc, snoc_len] at g1
      refine ⟨q :: m, evSucc ?_, by simp; omega, fun last hlast => ⟨hq.1, hq.2.1, hq.2.2, hlast, g3 _ (by show q.f1 < _; omega)⟩, fun x => ?_⟩
      · simp only [sets_Norm.l0, if_pos c1, if_pos c2, rd72, hw.out, if_pos c3, w1.out, if_pos c4, if_pos c5, r1, w2.out, if_neg d, if_pos hlt]
        simpa using g1
      · rw [List.map_cons, mem_cons, g4 x]
        exact mem_cons.symm
theorem norm_is (top : Int) (ht : top ≤ 1073741823) (l : List S72) (hl : l.length ≤ 8796093022206) (hr : ∀ r ∈ l, 0 ≤ r.f0 ∧ r.f0 ≤ r.f1 ∧ r.f1 ≤ top) :
    ∃ m s, Ev (fun k => sets_Norm.f k l) (m, s) ∧ m.length ≤ l.length ∧ ValidFrom top (-2) (m.map L72) ∧ ∀ x, Mem (m.map L72) x ↔ Mem (l.map L72) x := by
  obtain ⟨s, hs⟩ : ∃ s, sortRun.f l = some s := ⟨_, by unfold sortRun.f; rw [if_pos (show l.length < 8796093022208 by omega)]⟩
  obtain ⟨hp, hsort⟩ := sortRun.spec l s hs
  have hlen := hp.length_eq
  have hmem : ∀ x, Mem (s.map L72) x ↔ Mem (l.map L72) x := fun x => mem_perm (hp.map _)
  cases s with
  | nil =>
    refine ⟨[], [], ?_, by simp, trivial, hmem⟩
    simp only [sets_Norm.f, hs, Option.bind_some]
    refine evSucc ?_
    simp only [sets_Norm.l0, ← hlen]
    simp only [List.length_nil, if_neg (show ¬ (0 : Int) < ((0 : Nat) : Int) by omega)]
    exact evNow _
  | cons q t =>
    have hr' : ∀ r ∈ q :: t, 0 ≤ r.f0 ∧ r.f0 ≤ r.f1 ∧ r.f1 ≤ top := fun r h => hr r (hp.mem_iff.1 h)
    have hsp := List.pairwise_cons.1 hsort
    obtain ⟨m, g1, g2, g3, g4⟩ := norm_loop (q :: t).length (by omega) top ht t [q] [] q (by simp) (by simp) hsp.1 hsp.2 hr'
    have hq := hr' q List.mem_cons_self
    refine ⟨m, q :: t, ?_, by rw [← hlen]; simpa using g2, g3 _ (by omega), fun x => (g4 x).trans (hmem x)⟩
    simp only [sets_Norm.f, hs, Option.bind_some, ← hlen]
    refine evSucc ?_
    have c1 : (0 : Int) < (((q :: t).length : Nat) : Int) := by rw [List.length_cons]; omega
    have r1 : rd_T72 (q :: t) 0 = q := rfl
    have hw : Aside0 (wrap64 ((0 : Int) + 1) = 1) := Aside0.mk (by rw [w64 (by omega) (by omega)]; rfl)
    simp only [sets_Norm.l0, if_pos c1, if_pos (show (0 : Int) ≤ 0 by omega), r1, List.length_nil, if_neg (show ¬ ((0 : Nat) : Int) > 0 by omega), if_pos (show (0 : Nat) < 8796093022208 from Nat.zero_lt_succ _), hw.out]
    exact g1
def setL (top : Int) (l : List Run) : List Run := if validB top (-2) l = true then l else []
theorem setL_valid (top : Int) (l : List Run) : ValidFrom top (-2) (setL top l) := by
  unfold setL
  split
  · rename_i h; exact (validB_iff _ _ _).1 h
  · trivial
theorem setL_of {top : Int} {l : List Run} (h : ValidFrom top (-2) l) : setL top l = l := by unfold setL; rw [if_pos ((validB_iff _ _ _).2 h)]
theorem valid_len {top : Int} : ∀ {l : List Run} {last : Int}, ValidFrom top last l → (l.length : Int) ≤ size l
  | [], _, _ => by simp [size_nil]
  | r :: t, _, hv => by
    have := valid_len hv.2.2.2.2
    have := hv.2.1
    rw [size_cons]; simp; omega
theorem valid_len' {top : Int} {l : List Run} {last : Int} (hv : ValidFrom top last l) (h0 : 0 ≤ top) (ht : top ≤ 1073741823) : l.length ≤ 1073741824 := by
  have := valid_len hv
  have := size_le hv h0
  omega
theorem scalars_set_is (l : List S56) (hl : l.length * 16 ≤ 140737488351232) : ∃ s, Ev (fun k => scalars_set.f k l) s ∧ s.map L72 = setL 1073741823 (l.map L56) := by
  have h1 := api_Range_is l hl
  have h2 := valid_is 1073741823 (by omega) (l.map api_Range_c) (by simp; omega)
  rw [api_Range_len] at h2
  by_cases d : validB 1073741823 (-2) (l.map L56) = true
  · refine ⟨l.map api_Range_c, Ev.bind h1 (Ev.bind h2 ?_), by rw [api_Range_len]; unfold setL; rw [if_pos d]⟩
    simp only [if_pos d]; exact evNow _
  · refine ⟨[], Ev.bind h1 (Ev.bind h2 ?_), by unfold setL; rw [if_neg d]; rfl⟩
    simp only [if_neg d]; exact evNow _
theorem scalars_back_is (l : List S72) (hl : l.length * 16 ≤ 140737488351232) : Ev (fun k => scalars_back.f k l) (l.map sets_Run_90_c) := Ev.bind (sets_Run_90_is l hl) (evNow _)
theorem scalars_set_facts {l : List S56} {s : List S72} (h : s.map L72 = setL 1073741823 (l.map L56)) : ValidFrom 1073741823 (-2) (s.map L72) ∧ s.length ≤ 1073741824 := by
  have hv : ValidFrom 1073741823 (-2) (s.map L72) := by rw [h]; exact setL_valid _ _
  have := valid_len' hv (by omega) (by omega)
  exact ⟨hv, by simpa using this⟩
theorem scalars_Size_is (l : List S56) (hl : l.length * 16 ≤ 140737488351232) : Ev (fun k => scalars_Size.f k l) (size (setL 1073741823 (l.map L56))) := by
  obtain ⟨s, h1, h2⟩ := scalars_set_is l hl
  obtain ⟨hv, hn⟩ := scalars_set_facts h2
  have h3 := size_is 1073741823 (by omega) s (by omega) hv
  rw [h2] at h3
  exact Ev.bind h1 (Ev.bind h3 (evNow _))
theorem scalars_Select_is (l : List S56) (kk : Int) (hk : (Lit.int .i64 kk).wf = true) (hl : l.length * 16 ≤ 140737488351232) : ∃ r, Ev (fun k => scalars_Select.f k l kk) r ∧ Sel (setL 1073741823 (l.map L56)) kk r := by
  obtain ⟨s, h1, h2⟩ := scalars_set_is l hl
  obtain ⟨hv, hn⟩ := scalars_set_facts h2
  obtain ⟨r, h3, h4⟩ := select_is 1073741823 (by omega) s kk hk (by omega) hv
  rw [h2] at h4
  exact ⟨r, Ev.bind h1 (Ev.bind h3 (evNow _)), h4⟩
def scalars_IsSet (l : List S56) (p : Int → Prop) : Prop := ValidFrom 1073741823 (-2) (l.map L56) ∧ l.length ≤ 1073741824 ∧ ∀ x, Mem (l.map L56) x ↔ p x
theorem scalars_IsSet.uniq {a b : List S56} {p q : Int → Prop} (ha : scalars_IsSet a p) (hb : scalars_IsSet b q) (h : ∀ x, p x ↔ q x) : a = b :=
  L56_inj (canon 1073741823 _ _ _ _ ha.1 hb.1 fun x => (ha.2.2 x).trans ((h x).trans (hb.2.2 x).symm))
theorem scalars_out {m : List S72} {p : Int → Prop} (hv : ValidFrom 1073741823 (-2) (m.map L72)) (hm : ∀ x, Mem (m.map L72) x ↔ p x) : ∃ r, Ev (fun k => scalars_back.f k m) r ∧ scalars_IsSet r p := by
  have hn := valid_len' hv (by omega) (by omega)
  have e := sets_Run_90_len m
  refine ⟨_, scalars_back_is m (by simp at hn; omega), ?_, ?_, fun x => ?_⟩
  · rw [e]; exact hv
  · simpa using hn
  · rw [e]; exact hm x
def scalars_badP (p : S56) : Bool := decide (p.f0 < 0) || decide (p.f0 > p.f1) || decide (p.f1 > 1073741823)
theorem scalars_Norm_loop (N : Nat) (hN : N ≤ 8796093022206) (x0 : List S56) : ∀ (t pre : List S56), (pre ++ t).length ≤ N →
    (∀ i, t.findIdx? scalars_badP = some i → Ev (fun k => scalars_Norm.l0 k x0 (pre ++ t) (((pre ++ t).length : Nat) : Int) (pre.length : Int)) (([] : List S56), ((pre.length : Int) + i), 1)) ∧
    (t.findIdx? scalars_badP = none → ∀ r, Ev (fun k => (api_Range.f k x0).bind fun t136 => ((sets_Norm.f k t136).bind fun bt139 => ((scalars_back.f k bt139.1).bind fun t143 => (some (t143, (0 : Int), (0 : Int)))))) r → Ev (fun k => scalars_Norm.l0 k x0 (pre ++ t) (((pre ++ t).length : Nat) : Int) (pre.length : Int)) r)
  | [], pre, _ => by
    refine ⟨fun i h => by simp at h, fun _ r hr => evSucc ?_⟩
    simp only [scalars_Norm.l0]
    rw [List.append_nil]
    simp only [if_neg (show ¬ ((pre.length : Nat) : Int) < ((pre.length : Nat) : Int) by omega)]
    exact hr
  | r :: t, pre, hl => by
    have hlc := len_cons pre r t
    have hw : Aside0 (wrap64 ((pre.length : Int) + 1) = (pre.length : Int) + 1) := Aside0.mk (w64 (by omega) (by simp at hl; omega))
    have c1 : (pre.length : Int) < ((pre ++ r :: t).length : Nat) := by rw [hlc]; omega
    have c2 : (0 : Int) ≤ pre.length := by omega
    have ih := scalars_Norm_loop N hN x0 t (pre ++ [r]) (by rw [app_snoc]; exact hl)
    rw [app_snoc, snoc_len] at ih
    by_cases hb : scalars_badP r = true
    · refine ⟨fun i h => ?_, fun h => by simp [List.findIdx?_cons, hb] at h⟩
      obtain rfl : i = 0 := by simpa [List.findIdx?_cons, hb] using h.symm
      refine evSucc ?_
      simp only [scalars_badP, Bool.or_eq_true, decide_eq_true_eq] at hb
      simp only [scalars_Norm.l0, if_pos c1, if_pos c2, rd56, hw.out]
      by_cases d1 : r.f0 < 0
      · simp only [if_pos d1]; simpa using evNow (([] : List S56), (pre.length : Int), (1 : Int))
      by_cases d2 : r.f0 > r.f1
      · simp only [if_neg d1, if_pos d2]; simpa using evNow (([] : List S56), (pre.length : Int), (1 : Int))
      have d3 : r.f1 > 1073741823 := by omega
      simp only [if_neg d1, if_neg d2, if_pos d3]; simpa using evNow (([] : List S56), (pre.length : Int), (1 : Int))
    · have hb' : scalars_badP r = false := by simpa using hb
      simp only [scalars_badP, Bool.or_eq_true, decide_eq_true_eq, not_or] at hb
      refine ⟨fun i h => ?_, fun h q hq => ?_⟩
      · simp only [List.findIdx?_cons, hb', Option.map_eq_some_iff] at h
        simp at h
        obtain ⟨j, hj, rfl⟩ := h
        have := ih.1 j hj
        refine evSucc ?_
        simp only [scalars_Norm.l0, if_pos c1, if_pos c2, rd56, hw.out, if_neg hb.1.1, if_neg hb.1.2, if_neg hb.2]
        rw [show ((pre.length : Int) + ((j + 1 : Nat) : Int)) = (pre.length : Int) + 1 + (j : Int) by omega]
        exact this
      · simp [List.findIdx?_cons, hb'] at h
        have := ih.2 (by simpa using h) q hq
        refine evSucc ?_
        simp only [scalars_Norm.l0, if_pos c1, if_pos c2, rd56, hw.out, if_neg hb.1.1, if_neg hb.1.2, if_neg hb.2]
        exact this
theorem scalars_Norm_is (l : List S56) (hl : l.length * 16 ≤ 140737488351232) :
    (∀ i, l.findIdx? scalars_badP = some i → Ev (fun k => scalars_Norm.f k l) (([] : List S56), (i : Int), 1)) ∧
    (l.findIdx? scalars_badP = none → ∃ r, Ev (fun k => scalars_Norm.f k l) (r, 0, 0) ∧ scalars_IsSet r (fun x => Mem (l.map L56) x)) := by
  have h := scalars_Norm_loop l.length (by omega) l l [] (by simp)
  refine ⟨fun i hi => ?_, fun hn => ?_⟩
  · have := h.1 i hi
    simpa [scalars_Norm.f] using this
  · have hgood : ∀ r ∈ l, 0 ≤ r.f0 ∧ r.f0 ≤ r.f1 ∧ r.f1 ≤ 1073741823 := fun r hr => by
      have := List.findIdx?_eq_none_iff.1 hn r hr
      simp only [scalars_badP, Bool.or_eq_false_iff, decide_eq_false_iff_not] at this
      omega
    have h1 := api_Range_is l hl
    obtain ⟨m, w, k1, k2, k3, k4⟩ := norm_is 1073741823 (by omega) (l.map api_Range_c) (by simp; omega) (fun r hr => by
      obtain ⟨q, hq, rfl⟩ := List.mem_map.1 hr
      exact hgood q hq)
    obtain ⟨r, q1, q2⟩ := scalars_out (p := fun x => Mem (l.map L56) x) k3 (fun x => by rw [k4 x, api_Range_len])
    refine ⟨r, ?_, q2⟩
    have := h.2 hn (r, 0, 0) (Ev.bind h1 (Ev.bind k1 (Ev.bind q1 (evNow _))))
    simpa [scalars_Norm.f] using this
end Go.Proofs.Ytddffjhodiengaa.PQ
