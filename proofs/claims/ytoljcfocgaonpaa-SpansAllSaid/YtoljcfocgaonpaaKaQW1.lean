/- Words and laws of this claim, of 1 texts. -/
import Derived.OpenShut
import Derived.ShutString
import Derived.SizedLaws
import Derived.Deep.Slices
import Derived.Test.YtoljcfocgaonpaaKaQW0
section
namespace Go.Proofs.Ytoljcfocgaonpaa.Opens
open Go.ChangeShapes Go.WideShapes Go.Deep Go.Proofs.YtoljcfocgaonpaaW.PrintWords
structure Opens (P : Program) (t : TypeId) {α : Type} (K : Kd α) (Q : α → Prop) : Prop where
  sz : P.cellsOf t = K.sz
  go : ∀ {H : Type} {enc : TypeId × Value → H} {w : World} {spare : Nat → Bool} {held : Bool} {fuel : Nat} {cs : List Value} {x : DataW H × List MemPlace}, DataW.trod enc P w 0 spare held fuel t cs = some x → (∀ n ∈ x.1.weights P t, n ≤ reachBytes) → ∃ a, K.K w a cs ∧ Q a
theorem opens_int {P : Program} {t : TypeId} {k : IntKind} (ht : P.underlying t = some (.int k)) (hc : P.cellsOf t = 1) : Opens P t (Kd.int k) (fun n => (Lit.int k n).wf = true) where
  sz := hc
  go := by
    intro H enc w spare held fuel cs x h hw
    cases fuel with
    | zero => simp [DataW.trod] at h
    | succ n =>
      unfold DataW.trod at h
      rw [ht] at h
      split at h
      all_goals first | (rename_i k0 e0; cases e0; done) | skip
      all_goals try (first | contradiction | (simp at h; done))
      all_goals (rename_i k1 k2 n2 e1; injection e1 with e1; injection e1 with e1; subst e1; split at h <;> first | (rename_i hh; obtain ⟨rfl, hh⟩ := hh; exact ⟨n2, rfl, hh⟩) | simp at h)
theorem weights_all_mem {H : Type} {P : Program} {e : TypeId} : ∀ {l : List (DataW H)} {d : DataW H}, d ∈ l → ∀ n ∈ d.weights P e, n ∈ DataW.weightsAll P e l
  | d0 :: l, d, hd, n, hn => by
    simp only [DataW.weightsAll, List.mem_append]
    rcases List.mem_cons.1 hd with rfl | hd
    · exact .inl hn
    · exact .inr (weights_all_mem hd n hn)
theorem opens_slice {P : Program} {t e : TypeId} {B : Nat} {α : Type} {K : Kd α} {Q : α → Prop} [Inhabited α] (ht : P.underlying t = some (.slice e)) (hc : P.cellsOf t = 1) (hB : P.bytesOf e = B) (he : Opens P e K Q) : Opens P t (Kd.slice e K) (fun l => l.length * B ≤ 140737488351232 ∧ ∀ x ∈ l, Q x) where
  sz := hc
  go := by
    intro H enc w spare held fuel cs x h hw
    rcases open_slice ht h with ⟨rfl, _⟩ | ⟨a, len, cap, m, n, D, Pl, rfl, hb, hl, hm, hmm, rfl, hx⟩
    · exact ⟨[], ⟨none, 0, rfl, Nat.le_refl _, rfl, by simp, fun hp => absurd hp (by simp)⟩, by simp, by simp⟩
    · have hlm : len ≤ m := by rw [hmm]; split <;> omega
      have hws : ∀ i, i < len → ∀ n ∈ (D i).weights P e, n ≤ reachBytes := fun i hi n hn => hw n (by
        simp only [DataW.weights, ht, List.mem_cons, List.mem_append]
        exact .inr (.inl (weights_all_mem (List.mem_map.2 ⟨i, List.mem_range.2 hi, rfl⟩) n hn)))
      have hlen : len * B ≤ 140737488351232 := by
        have := hw ((((List.range len).map D).length + ((List.range (m - len)).map fun j => D (len + j)).length) * P.bytesOf e) (by simp only [DataW.weights, ht]; exact List.mem_cons_self)
        rw [hB] at this
        have h2 : len * B ≤ (((List.range len).map D).length + ((List.range (m - len)).map fun j => D (len + j)).length) * B := Nat.mul_le_mul_right _ (by simp)
        exact Nat.le_trans (Nat.le_trans h2 this) (by decide)
      have each : ∀ i, i < len → ∃ q : α × List Value, K.K w q.1 q.2 ∧ Q q.1 ∧ w.cells? 0 (a.add (i * P.cellsOf e)) (P.cellsOf e) = some q.2 := fun i hi => by
        obtain ⟨cs', h1, h2⟩ := hx i (by omega)
        obtain ⟨y, h3, h4⟩ := he.go h2 (hws i hi)
        exact ⟨(y, cs'), h3, h4, h1⟩
      obtain ⟨q, hq⟩ := choose_lt each
      refine ⟨(List.range len).map fun i => (q i).1, ⟨some a, cap, by simp, by simpa using hl, ?_⟩, by simpa using hlen, ?_⟩
      · refine ⟨rfl, by simp only [maxLen] at hm; simp; omega, fun _ => ⟨a, rfl, fun j p hj => ?_⟩⟩
        obtain ⟨hj1, hj2⟩ := List.getElem?_eq_some_iff.1 hj
        have hjl : j < len := by simpa using hj1
        have hp : (q j).1 = p := by simpa using hj2
        obtain ⟨g1, g2, g3⟩ := hq j hjl
        rw [hp] at g1
        refine ⟨(q j).2, K.K_len g1, g1, fun i u hu => ?_⟩
        obtain ⟨_, hlen', hcell⟩ := World.cells?_some g3
        have hil : i < (q j).2.length := (List.getElem?_eq_some_iff.1 hu).1
        have := hcell i (by rw [he.sz, ← K.K_len g1]; exact hil)
        rw [Go.Deep.add_add, he.sz] at this
        rw [this, ← hu]
      · intro x hx'
        obtain ⟨i, hi, rfl⟩ := List.mem_map.1 hx'
        exact (hq i (List.mem_range.1 hi)).2.1
theorem opens_struct2 {P : Program} {t : TypeId} {f0 f1 : Field} {α β γ : Type} {A : Kd α} {B : Kd β} {QA : α → Prop} {QB : β → Prop} (proj : γ → α × β) (mk : α → β → γ) (hmk : ∀ a b, proj (mk a b) = (a, b))
    (ht : P.underlying t = some (.struct #[f0, f1])) (hA : Opens P f0.type A QA) (hB : Opens P f1.type B QB) (hc : P.cellsOf t = A.sz + B.sz) (o0 : f0.offset = 0) (o1 : f1.offset = A.sz) :
    Opens P t (Kd.iso (Kd.pair A B) proj) (fun c => QA (proj c).1 ∧ QB (proj c).2) where
  sz := hc
  go := by
    intro H enc w spare held fuel cs x h hw
    obtain ⟨xs, n, _, rfl, hcl, hxl, hf⟩ := DataW.trod_struct ht h
    match xs, hxl with
    | [y0, y1], _ =>
      have g0 := hf 0 f0 rfl
      have g1 := hf 1 f1 rfl
      have w0 : ∀ n ∈ y0.1.weights P f0.type, n ≤ reachBytes := fun n hn => hw n (by simp [DataW.weights, ht, DataW.weightsEach]; exact .inl hn)
      have w1 : ∀ n ∈ y1.1.weights P f1.type, n ≤ reachBytes := fun n hn => hw n (by simp [DataW.weights, ht, DataW.weightsEach]; exact .inr hn)
      simp only [List.getElem?_cons_zero, List.getElem?_cons_succ, o0, o1, hA.sz, hB.sz, List.drop_zero] at g0 g1
      obtain ⟨a, ka, qa⟩ := hA.go g0 w0
      obtain ⟨b, kb, qb⟩ := hB.go g1 w1
      refine ⟨mk a b, ?_, by rw [hmk]; exact ⟨qa, qb⟩⟩
      show (Kd.pair A B).K w (proj (mk a b)) cs
      rw [hmk]
      refine ⟨_, _, ?_, ka, kb⟩
      rw [List.take_of_length_le (l := cs.drop A.sz) (by rw [List.length_drop]; omega)]
      exact (List.take_append_drop _ _).symm
theorem arg_slice {P : Program} {t e : TypeId} {α : Type} {K : Kd α} {Q : List α → Prop} {H : Type} {enc : TypeId × Value → H} {w : World} {spare : Nat → Bool} {held : Bool} {r : Reach} {b0 : Nat} {v : Value} {d : DataW H} {p : List MemPlace} {ts : List TypeId} {ds : List (DataW H)} {j : Nat}
    (ho : Opens P t (Kd.slice e K) Q) (ht : P.underlying t = some (.slice e)) (hv : Value.okWide P w r b0 t v) (h : DataW.Trod enc P w 0 spare held t v d p)
    (hsz : (DataW.weightsEach P ts ds).all (· ≤ reachBytes) = true) (h1 : ts[j]? = some t) (h2 : ds[j]? = some d) : ∃ (A : Option Addr) (c : Nat) (l : List α), v = .slice A l.length c ∧ l.length ≤ c ∧ Kd.C K w A l.length l ∧ Q l := by
  obtain ⟨a, len, cap, rfl⟩ := okWide_slice ht hv
  obtain ⟨fuel, hf⟩ := h
  obtain ⟨l, ⟨A, c, he, hl, hC⟩, hQ⟩ := ho.go hf (fun n hn => of_decide_eq_true (List.all_eq_true.1 hsz n (DataW.weights_mem_each h1 h2 n hn)))
  simp [Value.cells] at he
  obtain ⟨rfl, rfl, rfl⟩ := he
  exact ⟨_, _, l, rfl, hl, hC, hQ⟩
end Go.Proofs.Ytoljcfocgaonpaa.Opens
end
