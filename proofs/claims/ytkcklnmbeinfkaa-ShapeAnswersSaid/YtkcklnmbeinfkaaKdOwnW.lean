/- Words and walks of this claim, of the text OwnW. -/
import Derived.Test.YtkcklnmbeinfkaaKdWWords
import Derived.Test.YtkcklnmbeinfkaaKdWLast
import Derived.Test.YtkcklnmbeinfkaaKdWApart
import Derived.Test.YtkcklnmbeinfkaaKdWKept
import Derived.Test.YtkcklnmbeinfkaaKdWMore
namespace Go.Proofs.YtkcklnmbeinfkaaW.PrintWords
open Go.RowKit Go.Proofs.YtkcklnmbeinfkaaW.PrintMore
set_option linter.unusedVariables false
set_option linter.unusedSimpArgs false
theorem w64o {x : Int} (h0 : -9223372036854775808 ≤ x) (h1 : x ≤ 9223372036854775807) : wrap64 x = x := by unfold wrap64; omega
inductive RowsL {α : Type} (d : Kd α) (e2 : Nat) (W : World) (base : Nat) : List (List α) → List Value → Prop
  | nil : RowsL d e2 W base [] []
  | cons {x : List α} {v : Value} {xs : List (List α)} {vs : List Value} (h : d.R e2 W base (fun k => some k = v.ownBlock) v x) (t : RowsL d e2 W base xs vs) : RowsL d e2 W base (x :: xs) (v :: vs)
inductive AwayL (v : Value) : List Value → Prop
  | nil : AwayL v []
  | cons {u : Value} {us : List Value} (h : ∀ k, some k = v.ownBlock → some k = u.ownBlock → False) (t : AwayL v us) : AwayL v (u :: us)
inductive ApartL : List Value → Prop
  | nil : ApartL []
  | cons {v : Value} {vs : List Value} (h : AwayL v vs) (t : ApartL vs) : ApartL (v :: vs)
theorem okL_cons {ok : Nat → Prop} {v : Value} {vs : List Value} (h : ∀ k, some k = v.ownBlock → ok k) (t : ∀ u ∈ vs, ∀ k, some k = u.ownBlock → ok k) : ∀ u ∈ v :: vs, ∀ k, some k = u.ownBlock → ok k := fun u hu => by
  rcases List.mem_cons.1 hu with rfl | hu
  · exact h
  · exact t u hu
theorem RowsL.at_ {α : Type} {d : Kd α} {e2 : Nat} {W : World} {base : Nat} : ∀ {xs : List (List α)} {vs : List Value}, RowsL d e2 W base xs vs → vs.length = xs.length ∧ ∀ (j : Nat) (x : List α), xs[j]? = some x → ∃ v : Value, vs[j]? = some v ∧ d.R e2 W base (fun k => some k = v.ownBlock) v x
  | _, _, .nil => ⟨rfl, fun j x h => by simp at h⟩
  | _, _, .cons h t => by
    obtain ⟨h1, h2⟩ := t.at_
    refine ⟨by simp [h1], fun j x hj => ?_⟩
    cases j with
    | zero => simp at hj; subst hj; exact ⟨_, rfl, h⟩
    | succ j => simp at hj; obtain ⟨v, a, b⟩ := h2 j x hj; exact ⟨v, by simpa using a, b⟩
theorem AwayL.mem {v : Value} : ∀ {us : List Value}, AwayL v us → ∀ u ∈ us, ∀ k, some k = v.ownBlock → some k = u.ownBlock → False
  | _, .cons h t, u, hu => by
    rcases List.mem_cons.1 hu with rfl | hu
    · exact h
    · exact t.mem u hu
def ApartV (vs : List Value) : Prop := ∀ (i j : Nat) (u v : Value), vs[i]? = some u → vs[j]? = some v → ∀ k, some k = u.ownBlock → some k = v.ownBlock → i = j
theorem ApartL.at_ : ∀ {vs : List Value}, ApartL vs → ApartV vs
  | _, .nil => fun i j u v h => by simp at h
  | _, .cons h t => fun i j u v hi hj k hu hv => by
    have ih := t.at_
    cases i with
    | zero =>
      cases j with
      | zero => rfl
      | succ j => simp at hi hj; subst hi; exact (h.mem v (List.mem_of_getElem? hj) k hu hv).elim
    | succ i =>
      cases j with
      | zero => simp at hi hj; subst hj; exact (h.mem u (List.mem_of_getElem? hi) k hv hu).elim
      | succ j => simp at hi hj; rw [ih i j u v hi hj k hu hv]
section
variable {P : Program} {ops : Array Oper} {o : Oper} {rest : List Oper} {a : Act} {Q : Exit → Act → World → Prop} {α : Type}
theorem Kd.S_rows (d : Kd α) {e2 : Nat} {w0 W : World} (base e : Nat) (hgd : o.guard = none) {N : Tmp} (hd : o.dst = some N) {xs : List (List α)} {vs : List Value} {ok : Nat → Prop}
    (hrun : (execOp a.eval o).run P W = .ok (.value (.slice (some ⟨W.heap.size, 0, none⟩) xs.length xs.length)) (W.alloc (.cells vs.toArray e)))
    (hrow : RowsL d e2 W base xs vs) (hap : ApartL vs) (hok : ∀ u ∈ vs, ∀ k, some k = u.ownBlock → ok k) (hfresh : ok W.heap.size) (HB : Below base w0 W) (hbase : base ≤ W.heap.size) (hm : xs.length ≤ 9223372036854775807)
    (h : ∀ v1 w1, Kd.S (Kd.slice e2 d) e w1 base ok v1 xs → Below W.heap.size W w1 → W.grownBy w1 none → (∃ b, v1.ownBlock = some b ∧ W.heap.size ≤ b) → wpList P ops Q rest (a.put o.dst v1) w1) : wpList P ops Q (o :: rest) a W := by
  obtain ⟨hl, hr⟩ := hrow.at_
  have hap2 := hap.at_
  refine Kd.S_lits (Kd.slice e2 d) base e hgd hd (xs := xs) (inner := vs) (ok := ok) (fun j k => ∃ v, vs[j]? = some v ∧ some k = v.ownBlock) hrun (by show vs.length = xs.length * 1; rw [hl, Nat.mul_one]) (fun j x hj => ?_) (fun i j k ⟨u, hu, hku⟩ ⟨v, hv, hkv⟩ => hap2 i j u v hu hv k hku hkv) (fun j k ⟨v, hv, hk⟩ => hok v (List.mem_of_getElem? hv) k hk) hfresh HB hbase hm (fun v1 w1 h1 _ h3 h4 => h v1 w1 h1 ⟨h3.os, h3.tape, h3.output, h3.size, fun i hi => h3.block i hi (by simp)⟩ h3 h4)
  obtain ⟨v, hv, hR⟩ := hr j x hj
  have e1 : (vs.drop (j * (Kd.slice e2 d).sz)).take (Kd.slice e2 d).sz = [v] := by
    show (vs.drop (j * 1)).take 1 = [v]
    rw [Nat.mul_one]
    obtain ⟨h1, h2⟩ := List.getElem?_eq_some_iff.1 hv
    rw [List.drop_eq_getElem_cons h1, h2]; rfl
  rw [e1]
  exact ⟨v, rfl, Kd.R_mono hR (fun k hk => ⟨v, hv, hk⟩)⟩
end
section
variable {P : Program}
end
def RowsAt (W : World) (b0 e sz : Nat) (vs : List Value) (ln : Nat → Nat) (C : Nat → List Value) : Prop := ∀ (j : Nat) (v : Value), vs[j]? = some v → W.ownsRow b0 e sz v (ln j) (C j)
structure OwnSt (b0 e sz eo : Nat) (w0 w : World) (P : Nat → Prop) (lv : Value) (vs : List Value) (ln : Nat → Nat) (C : Nat → List Value) (W : World) : Prop where
  below : Below b0 w0 W
  kept : Kept w W P
  outer : W.ownsRow b0 eo 1 lv vs.length vs
  rows : RowsAt W b0 e sz vs ln C
section
variable {b0 e sz eo : Nat} {w0 w W W1 : World} {P : Nat → Prop} {lv gv gv' : Value} {vs us : List Value} {ln : Nat → Nat} {C : Nat → List Value}
theorem OwnSt.size (h : OwnSt b0 e sz eo w0 w P lv vs ln C W) (hb : b0 ≤ w0.heap.size) : b0 ≤ W.heap.size := Nat.le_trans hb h.below.size
theorem RowsAt.below (h : RowsAt W b0 e sz vs ln C) (hb : Below W.heap.size W W1) : RowsAt W1 b0 e sz vs ln C := fun j v hv => pw_own_below (h j v hv) hb
theorem OwnSt.step (h : OwnSt b0 e sz eo w0 w P lv vs ln C W) (hb0 : b0 ≤ W.heap.size) (hb : Below W.heap.size W W1) : OwnSt b0 e sz eo w0 w P lv vs ln C W1 :=
  ⟨below_then h.below hb0 hb, h.kept.below hb, pw_own_below h.outer hb, h.rows.below hb⟩
theorem OwnSt.alloc (h : OwnSt b0 e sz eo w0 w P lv vs ln C W) (hb0 : b0 ≤ W.heap.size) (o : Obj) : OwnSt b0 e sz eo w0 w P lv vs ln C (W.alloc o) := h.step hb0 (below_alloc (Below.refl _ _) o)
theorem OwnSt.drewN (h : OwnSt b0 e sz eo w0 w P lv vs ln C W) (n : Nat) : OwnSt b0 e sz eo w0 w P lv vs ln C (W.drewN n) :=
  ⟨pw_below_drewN h.below n, h.kept.drewN n, pw_own_below h.outer (pw_below_drewN (Below.refl _ _) n), h.rows.below (pw_below_drewN (Below.refl _ _) n)⟩
theorem OwnSt.put (h : OwnSt b0 e sz eo w0 w P lv vs ln C W) (hne : e ≠ eo) (hap : ApartV vs) (hP : ∀ (j : Nat) (v : Value), vs[j]? = some v → ∀ k, v.ownBlock = some k → P k) {k g c : Nat} (hk : vs[k]? = some (.slice (some ⟨g, 0, none⟩) (ln k) c)) (j : Nat) (u : Value) :
    OwnSt b0 e sz eo w0 w P lv vs ln (fun i => if i = k then (C k).set j u else C i) (W.setCell ⟨g, j, none⟩ u) := by
  have hr := h.rows k _ hk
  obtain ⟨h1, h2⟩ := hr.stored j u
  have hb : b0 ≤ g := (hr.lt g rfl).1
  refine ⟨h.below.setCell (p := ⟨g, j, none⟩) hb _, h.kept.setCell (p := ⟨g, j, none⟩) (.inl (hP k _ hk g rfl)) _, h.outer.kept h2 ?_, fun i v hv => ?_⟩
  · rcases own_type_ne h.outer hr (Ne.symm hne) with q | q
    · exact .inl q
    · exact .inr q
  · by_cases hik : i = k
    · subst hik
      rw [hk] at hv
      obtain rfl := Option.some.inj hv
      simp only [if_true]
      exact h1
    · simp only [if_neg hik]
      refine (h.rows i v hv).kept h2 ?_
      by_cases hn : v.ownBlock = some g
      · exact (hik (hap i k v _ hv hk g hn.symm rfl)).elim
      · exact .inr hn
theorem OwnSt.congr {C' : Nat → List Value} (h : OwnSt b0 e sz eo w0 w P lv vs ln C W) (hc : ∀ j, j < vs.length → C j = C' j) : OwnSt b0 e sz eo w0 w P lv vs ln C' W :=
  ⟨h.below, h.kept, h.outer, fun j v hv => by rw [← hc j (List.getElem?_eq_some_iff.1 hv).1]; exact h.rows j v hv⟩
structure OwnGr (b0 e sz eo : Nat) (w0 w : World) (P : Nat → Prop) (lv : Value) (vs : List Value) (ln : Nat → Nat) (C : Nat → List Value) (H : Nat) (D : Nat → List Value) (us : List Value) (gv : Value) (W : World) : Prop where
  st : OwnSt b0 e sz eo w0 w P lv vs ln C W
  big : H ≤ W.heap.size
  grown : W.ownsRow b0 eo 1 gv us.length us
  gfar : ∀ b, gv.ownBlock = some b → H ≤ b
  rows : RowsAt W b0 e sz us (fun j => ln j + 24) D
  sep : ∀ (j : Nat) (u : Value), us[j]? = some u → ∀ b, u.ownBlock = some b → (∃ v, vs[j]? = some v ∧ v.ownBlock = some b) ∨ H ≤ b
theorem OwnGr.step {H : Nat} {D : Nat → List Value} (h : OwnGr b0 e sz eo w0 w P lv vs ln C H D us gv W) (hb0 : b0 ≤ W.heap.size) (hb : Below W.heap.size W W1) : OwnGr b0 e sz eo w0 w P lv vs ln C H D us gv W1 :=
  ⟨h.st.step hb0 hb, Nat.le_trans h.big hb.size, pw_own_below h.grown hb, h.gfar, h.rows.below hb, h.sep⟩
theorem OwnGr.drewN {H : Nat} {D : Nat → List Value} (h : OwnGr b0 e sz eo w0 w P lv vs ln C H D us gv W) (n : Nat) : OwnGr b0 e sz eo w0 w P lv vs ln C H D us gv (W.drewN n) :=
  ⟨h.st.drewN n, h.big, pw_own_below h.grown (pw_below_drewN (Below.refl _ _) n), h.gfar, h.rows.below (pw_below_drewN (Below.refl _ _) n), h.sep⟩
def CurAt (W : World) (b0 e sz : Nat) (v : Value) (n0 K : Nat) (u : Value) (n : Nat) (c : List Value) : Prop :=
  W.ownsRow b0 e sz u (n0 + n) c ∧ ((∃ A cap, v = .slice A n0 cap ∧ u = .slice A (n0 + n) cap) ∨ (∃ b, u.ownBlock = some b ∧ K ≤ b))
theorem CurAt.step {v u : Value} {n0 K n : Nat} {c : List Value} (h : CurAt W b0 e sz v n0 K u n c) (hb : Below W.heap.size W W1) : CurAt W1 b0 e sz v n0 K u n c := ⟨pw_own_below h.1 hb, h.2⟩
end
end Go.Proofs.YtkcklnmbeinfkaaW.PrintWords
