/- Words and walks of this claim, of the text OwnW. -/
import Derived.Test.YtddffjhodiengaaKmWWords
import Derived.Test.YtddffjhodiengaaKmWLast
import Derived.Test.YtddffjhodiengaaKmWApart
import Derived.Test.YtddffjhodiengaaKmWKept
import Derived.Test.YtddffjhodiengaaKmWMore
namespace Go.Proofs.YtddffjhodiengaaW.PrintWords
open Go.RowKit Go.Proofs.YtddffjhodiengaaW.PrintMore
set_option linter.unusedVariables false
set_option linter.unusedSimpArgs false
theorem w64o {x : Int} (h0 : -9223372036854775808 ≤ x) (h1 : x ≤ 9223372036854775807) : wrap64 x = x := by unfold wrap64; omega
inductive RowsL {α : Type} (d : Kd α) (e2 : Nat) (W : World) (base : Nat) : List (List α) → List Value → Prop
  | nil : RowsL d e2 W base [] []
  | cons {x : List α} {v : Value} {xs : List (List α)} {vs : List Value} (h : d.R e2 W base (fun k => some k = v.ownBlock) v x) (t : RowsL d e2 W base xs vs) : RowsL d e2 W base (x :: xs) (v :: vs)
inductive AwayL (v : Value) : List Value → Prop
  | nil : AwayL v []
  | cons {u : Value} {us : List Value} (h : ∀ k, some k = v.ownBlock → some k = u.ownBlock → False) (t : AwayL v us) : AwayL v (u :: us)
inductive ApartL : List Value → Prop
  | nil : ApartL []
  | cons {v : Value} {vs : List Value} (h : AwayL v vs) (t : ApartL vs) : ApartL (v :: vs)
theorem okL_cons {ok : Nat → Prop} {v : Value} {vs : List Value} (h : ∀ k, some k = v.ownBlock → ok k) (t : ∀ u ∈ vs, ∀ k, some k = u.ownBlock → ok k) : ∀ u ∈ v :: vs, ∀ k, some k = u.ownBlock → ok k := fun u hu => by
  rcases List.mem_cons.1 hu with rfl | hu
  · exact h
  · exact t u hu
theorem RowsL.at_ {α : Type} {d : Kd α} {e2 : Nat} {W : World} {base : Nat} : ∀ {xs : List (List α)} {vs : List Value}, RowsL d e2 W base xs vs → vs.length = xs.length ∧ ∀ (j : Nat) (x : List α), xs[j]? = some x → ∃ v : Value, vs[j]? = some v ∧ d.R e2 W base (fun k => some k = v.ownBlock) v x
  | _, _, .nil => ⟨rfl, fun j x h => by simp at h⟩
  | _, _, .cons h t => by
    obtain ⟨h1, h2⟩ := t.at_
    refine ⟨by simp [h1], fun j x hj => ?_⟩
    cases j with
    | zero => simp at hj; subst hj; exact ⟨_, rfl, h⟩
    | succ j => simp at hj; obtain ⟨v, a, b⟩ := h2 j x hj; exact ⟨v, by simpa using a, b⟩
theorem AwayL.mem {v : Value} : ∀ {us : List Value}, AwayL v us → ∀ u ∈ us, ∀ k, some k = v.ownBlock → some k = u.ownBlock → False
  | _, .cons h t, u, hu => by
    rcases List.mem_cons.1 hu with rfl | hu
    · exact h
    · exact t.mem u hu
def ApartV (vs : List Value) : Prop := ∀ (i j : Nat) (u v : Value), vs[i]? = some u → vs[j]? = some v → ∀ k, some k = u.ownBlock → some k = v.ownBlock → i = j
theorem ApartL.at_ : ∀ {vs : List Value}, ApartL vs → ApartV vs
  | _, .nil => fun i j u v h => by simp at h
  | _, .cons h t => fun i j u v hi hj k hu hv => by
    have ih := t.at_
    cases i with
    | zero =>
      cases j with
      | zero => rfl
      | succ j => simp at hi hj; subst hi; exact (h.mem v (List.mem_of_getElem? hj) k hu hv).elim
    | succ i =>
      cases j with
      | zero => simp at hi hj; subst hj; exact (h.mem u (List.mem_of_getElem? hi) k hv hu).elim
      | succ j => simp at hi hj; rw [ih i j u v hi hj k hu hv]
section
variable {P : Program} {ops : Array Oper} {o : Oper} {rest : List Oper} {a : Act} {Q : Exit → Act → World → Prop} {α : Type}
theorem Kd.S_rows (d : Kd α) {e2 : Nat} {w0 W : World} (base e : Nat) (hgd : o.guard = none) {N : Tmp} (hd : o.dst = some N) {xs : List (List α)} {vs : List Value} {ok : Nat → Prop}
    (hrun : (execOp a.eval o).run P W = .ok (.value (.slice (some ⟨W.heap.size, 0, none⟩) xs.length xs.length)) (W.alloc (.cells vs.toArray e)))
    (hrow : RowsL d e2 W base xs vs) (hap : ApartL vs) (hok : ∀ u ∈ vs, ∀ k, some k = u.ownBlock → ok k) (hfresh : ok W.heap.size) (HB : Below base w0 W) (hbase : base ≤ W.heap.size) (hm : xs.length ≤ 9223372036854775807)
    (h : ∀ v1 w1, Kd.S (Kd.slice e2 d) e w1 base ok v1 xs → Below W.heap.size W w1 → W.grownBy w1 none → (∃ b, v1.ownBlock = some b ∧ W.heap.size ≤ b) → wpList P ops Q rest (a.put o.dst v1) w1) : wpList P ops Q (o :: rest) a W := by
  obtain ⟨hl, hr⟩ := hrow.at_
  have hap2 := hap.at_
  refine Kd.S_lits (Kd.slice e2 d) base e hgd hd (xs := xs) (inner := vs) (ok := ok) (fun j k => ∃ v, vs[j]? = some v ∧ some k = v.ownBlock) hrun (by show vs.length = xs.length * 1; rw [hl, Nat.mul_one]) (fun j x hj => ?_) (fun i j k ⟨u, hu, hku⟩ ⟨v, hv, hkv⟩ => hap2 i j u v hu hv k hku hkv) (fun j k ⟨v, hv, hk⟩ => hok v (List.mem_of_getElem? hv) k hk) hfresh HB hbase hm (fun v1 w1 h1 _ h3 h4 => h v1 w1 h1 ⟨h3.os, h3.tape, h3.output, h3.size, fun i hi => h3.block i hi (by simp)⟩ h3 h4)
  obtain ⟨v, hv, hR⟩ := hr j x hj
  have e1 : (vs.drop (j * (Kd.slice e2 d).sz)).take (Kd.slice e2 d).sz = [v] := by
    show (vs.drop (j * 1)).take 1 = [v]
    rw [Nat.mul_one]
    obtain ⟨h1, h2⟩ := List.getElem?_eq_some_iff.1 hv
    rw [List.drop_eq_getElem_cons h1, h2]; rfl
  rw [e1]
  exact ⟨v, rfl, Kd.R_mono hR (fun k hk => ⟨v, hv, hk⟩)⟩
end
theorem Kd.R_apS {α : Type} {d : Kd α} {e : Nat} {W : World} {base : Nat} {ok S : Nat → Prop} {v : Value} {xs : List α} (hE : d.E = []) (h : d.R e W base ok v xs) (hn : ∀ k, some k = v.ownBlock → ¬ S k) : d.R e W base (fun k => ok k ∧ ¬ S k) v xs := Kd.R_mono (Kd.R_tight2 hE h) (fun k hk => ⟨hk.2, hn k hk.1⟩)
theorem Kd.C_view {α : Type} {d : Kd α} {e : Nat} {W : World} {base : Nat} {ok : Nat → Prop} {A : Option Addr} {n c m : Nat} {xs ys : List α} (h : d.R e W base ok (.slice A n c) xs) (hy : ys = xs.take m) : d.C W A ys.length ys := by
  subst hy
  have h1 := Kd.R_take (m := (xs.take m).length) h (by rw [List.length_take]; exact Nat.min_le_right _ _)
  rw [show xs.take (xs.take m).length = xs.take m by rw [List.length_take, ← List.take_take, List.take_length]] at h1
  exact (Kd.R_reads' h1).2.2
theorem Kd.S_open {α : Type} {d : Kd α} {e eo : Nat} {W : World} {base : Nat} {P : Nat → Prop} {lv : Value} {xs : List (List α)} (h : Kd.S (Kd.slice e d) eo W base P lv xs) :
    ∃ vs : List Value, vs.length = xs.length ∧ W.ownsRow base eo 1 lv vs.length vs ∧ (∀ (j : Nat) (v : Value), vs[j]? = some v → ∃ (x : List α) (c : List Value), xs[j]? = some x ∧ W.ownsRow base e d.sz v x.length c) ∧ ApartV vs ∧ (∀ (j : Nat) (v : Value), vs[j]? = some v → ∀ k, v.ownBlock = some k → P k) := by
  obtain ⟨f, hP, inner, ho, hr⟩ := h
  rw [List.length_zipIdx] at ho
  have hlen : inner.length = xs.length := by have h1 : inner.length = xs.length * 1 := ho.1; omega
  have hM : ∀ (j : Nat) (v : Value), inner[j]? = some v → ∃ x : List α, xs[j]? = some x ∧ d.R e W base (fun k => (P k ∧ some k ≠ lv.ownBlock) ∧ f k = j) v x := fun j v hv => by
    have hj : j < xs.length := by rw [← hlen]; exact (List.getElem?_eq_some_iff.1 hv).1
    have hx : xs[j]? = some xs[j] := List.getElem?_eq_getElem hj
    have := hr.2 j (xs[j], j) (zip_at hx)
    have e1 : (inner.drop (j * (Kd.tag f (Kd.slice e d)).sz)).take (Kd.tag f (Kd.slice e d)).sz = [v] := by
      show (inner.drop (j * 1)).take 1 = [v]
      rw [Nat.mul_one]
      obtain ⟨h1, h2⟩ := List.getElem?_eq_some_iff.1 hv
      rw [List.drop_eq_getElem_cons h1, h2]; rfl
    rw [e1] at this
    obtain ⟨v', hv', hR⟩ := this
    obtain rfl : v = v' := by simpa using hv'
    exact ⟨_, hx, hR⟩
  refine ⟨inner, hlen, by rw [hlen]; exact ho, fun j v hv => ?_, fun i j u v hu hv k hku hkv => ?_, fun j v hv k hk => ?_⟩
  · obtain ⟨x, hx, _, c, ho', _⟩ := hM j v hv
    exact ⟨x, c, hx, ho'⟩
  · obtain ⟨x, _, hp, _⟩ := hM i u hu
    obtain ⟨y, _, hq, _⟩ := hM j v hv
    rw [← (hp k hku.symm).2, ← (hq k hkv.symm).2]
  · obtain ⟨x, _, hp, _⟩ := hM j v hv
    exact (hp k hk).1.1
section
variable {P : Program}
theorem run_append_two (w : World) (base : Nat) (t ty e : TypeId) (i : TypeInfo) (z : Value) (size bytes : Nat) (ht : P.underlying t = some (.slice e)) (hi : P.info? e = some i) (hz : i.zero = some z)
    (hsize : i.size = size) (hby : i.bytes = bytes) (hzs : z.cells.size = size) (hsz : 0 < size)
    (v : Value) (n : Nat) (xs : List Value) (hown : w.ownsRow base e size v n xs)
    (a : Addr) (c : Nat) (news : List Value) (hl : news.length = size) (hnews : ∀ (j : Nat) (u : Value), news[j]? = some u → w.cell? (a.add j) = some u) (h1 : ∀ u ∈ news, u.oneCell' = true)
    (h63 : n + 1 ≤ maxLen) (hbytes : (n + 1) * bytes ≤ 140737488355328) (hbase : base ≤ w.heap.size) :
    ∃ v' w', (Builtin.append_ #[t, t] ty #[v, .slice (some a) 1 c]).run P w = .ok v' w' ∧ w'.ownsRow base e size v' (n + 1) (xs ++ news) ∧
      ((∃ g c, v = .slice (some ⟨g, 0, none⟩) n c ∧ v' = .slice (some ⟨g, 0, none⟩) (n + 1) c ∧ w.grownBy w' (some g)) ∨ ((∃ b, v'.ownBlock = some b ∧ w.heap.size ≤ b) ∧ w.grownBy w' none)) := by
  subst hsize
  subst hby
  have hl1 : news.length = 1 * i.size := by rw [hl, Nat.one_mul]
  have hlen : (xs ++ news).length = (n + 1) * i.size := by rw [List.length_append, hown.1, hl, Nat.succ_mul]
  have fresh : ∀ (old : Nat), old < n + 1 →
      (w.drew.alloc (.cells (xs.toArray ++ news.toArray ++ Builtin.zeroCells z.cells (grownCap w (n + 1) old e - (n + 1))) e)).ownsRow base e i.size
        (.slice (some ⟨w.heap.size, 0, none⟩) (n + 1) (grownCap w (n + 1) old e)) (n + 1) (xs ++ news) ∧
      w.grownBy (w.drew.alloc (.cells (xs.toArray ++ news.toArray ++ Builtin.zeroCells z.cells (grownCap w (n + 1) old e - (n + 1))) e)) none := by
    intro old ho
    have hge := grownCap_ge w (n + 1) old e
    have hcm : grownCap w (n + 1) old e ≤ maxLen := grownCap_le_maxLen w (n + 1) old e h63
    refine ⟨⟨hlen, .inr ⟨w.heap.size, _, _, rfl, hbase, heap_alloc_new w.drew _, hge, hcm, ?_, ?_⟩⟩, ⟨rfl, rfl, rfl, by simp, fun k hk _ => heap_alloc_old w.drew _ hk⟩⟩
    · simp only [Array.size_append, List.size_toArray, size_zeroCells, hzs, hown.1, hl1, ← Nat.add_mul]
      congr 1
      omega
    · simp only [Array.toList_append, List.append_assoc]
      rw [← List.append_assoc, ← hlen]
      exact List.take_left
  rcases hown.2 with ⟨rfl, rfl⟩ | ⟨g, cap, cur, rfl, hbg, hg, hnc, hcm, hcs, htake⟩
  · have hx : xs = [] := List.eq_nil_of_length_eq_zero (by simpa using hown.1)
    subst hx
    have hr := run_append_nil (P := P) w t ty e i z ht hi hz a 1 c news hl1 hnews (by omega) (by simp only [maxLen] at h63 ⊢; omega) (by have hb := hbytes; simp only [Nat.zero_add] at hb; omega)
    have hgr := fresh 0 (by omega)
    simp only [Nat.zero_add, List.nil_append, Array.empty_append] at hgr ⊢
    exact ⟨_, _, hr, hgr.1, .inr ⟨⟨_, rfl, Nat.le_refl _⟩, hgr.2⟩⟩
  · by_cases hroom : n + 1 ≤ cap
    · have hfit : n * i.size + news.length ≤ cur.size := by rw [hl1, hcs, ← Nat.add_mul]; exact Nat.mul_le_mul_right _ hroom
      have hr := run_append_room (P := P) w t ty e i ht hi g n cap cur hg a 1 c news hl1 hnews h1 hroom hfit
      refine ⟨_, _, hr, ⟨hlen, .inr ⟨g, cap, _, rfl, hbg, setRow_heap w g cur _ e _ hg, hroom, hcm, ?_, ?_⟩⟩, .inl ⟨g, cap, rfl, rfl, ⟨rfl, rfl, rfl, by simp, fun k _ hk => setRow_other w g k _ (fun e => hk (by rw [e]))⟩⟩⟩
      · simp only [List.size_toArray, List.length_append, List.length_take, List.length_drop, Array.length_toList]
        omega
      · rw [htake, ← hlen]
        exact List.take_left
    · have holds : ∀ (j : Nat) (u : Value), xs[j]? = some u → w.cell? ((⟨g, 0, none⟩ : Addr).add j) = some u := hown.cells (g := g) rfl
      have hr := run_append_grow (P := P) w t ty e i z ht hi hz ⟨g, 0, none⟩ n cap xs hown.1 holds a 1 c news hl1 hnews (by omega) (by simp only [maxLen] at h63 ⊢; omega) (growslice_fits (by omega) hbytes)
      have hgr := fresh cap (by omega)
      exact ⟨_, _, hr, hgr.1, .inr ⟨⟨_, rfl, Nat.le_refl _⟩, hgr.2⟩⟩
theorem wpList_append_two {ops : Array Oper} {rest : List Oper} {o : Oper} {a : Act} {Q : Exit → Act → World → Prop} (w : World) (hgd : o.guard = none) (s x : Operand) (t : TypeId)
    (ho : o.op = .call { callee := .builtin .append, args := #[s, x], argTypes := #[t, t] })
    (base : Nat) (e : TypeId) (z : Value) (size bytes : Nat) (ht : P.underlying t = some (.slice e)) (hinfo : (P.info? e).map (fun i => (i.zero, i.size, i.bytes)) = some (some z, size, bytes))
    (hzs : z.cells.size = size) (hsz : 0 < size) (hb0 : 0 < bytes)
    (v : Value) (n : Nat) (xs : List Value) (hs : a.eval s = v) (hown : w.ownsRow base e size v n xs)
    (ys : List Value) (hx : a.eval x = .slice (some ⟨w.heap.size, 0, none⟩) 1 1) (hl : ys.length = size) (h1 : ∀ u ∈ ys, u.oneCell' = true)
    (hbytes : (n + 1) * bytes ≤ 140737488355328) (hbase : base ≤ w.heap.size)
    (h : ∀ v' w', w'.ownsRow base e size v' (n + 1) (xs ++ ys) → ((∃ g c, v = .slice (some ⟨g, 0, none⟩) n c ∧ v' = .slice (some ⟨g, 0, none⟩) (n + 1) c ∧ w.grownBy w' (some g)) ∨ ((∃ b, v'.ownBlock = some b ∧ w.heap.size ≤ b) ∧ w.grownBy w' none)) → wpList P ops Q rest (a.put o.dst v') w') :
    wpList P ops Q (o :: rest) a (w.alloc (.cells ys.toArray e)) := by
  obtain ⟨i0, hi, hzz⟩ := Option.map_eq_some_iff.1 hinfo
  simp only [Prod.mk.injEq] at hzz
  obtain ⟨hz0, hz1, hz2⟩ := hzz
  have hlen : n + 1 ≤ 140737488355328 := Nat.le_trans (Nat.le_mul_of_pos_right _ hb0) hbytes
  refine wpList_plain hgd fun K hK => ?_
  obtain ⟨v', w', hr, h2, h3⟩ := run_append_two (P := P) (w.alloc (.cells ys.toArray e)) base t o.type e i0 z size bytes ht hi hz0 hz1 hz2 hzs hsz v n xs (hown.alloc _) ⟨w.heap.size, 0, none⟩ 1 ys hl
    (by simpa using World.news_of_block (cs := ys.toArray) (t := e) (fr := (0, 0)) (heap_alloc_new w (.cells ys.toArray e))) h1 (by simp only [maxLen]; omega) hbytes (by simp; omega)
  unfold Oper.wp execOp
  simp only [ho, resolve, invoke, builtin, Sem.run_bind, Sem.run_pure, Result.andThen_ok, List.map_toArray, List.map_cons, List.map_nil, hs, hx, hr]
  refine hK _ _ (h v' w' h2 ?_)
  rcases h3 with ⟨g, c, a1, a2, a3⟩ | ⟨⟨b, a1, a2⟩, a3⟩
  · exact .inl ⟨g, c, a1, a2, World.grownBy.trans (World.grownBy_alloc w _ _) a3⟩
  · exact .inr ⟨⟨b, a1, by simp at a2; omega⟩, World.grownBy.trans (World.grownBy_alloc w _ _) a3⟩
end
def RowsAt (W : World) (b0 e sz : Nat) (vs : List Value) (ln : Nat → Nat) (C : Nat → List Value) : Prop := ∀ (j : Nat) (v : Value), vs[j]? = some v → W.ownsRow b0 e sz v (ln j) (C j)
structure OwnSt (b0 e sz eo : Nat) (w0 w : World) (P : Nat → Prop) (lv : Value) (vs : List Value) (ln : Nat → Nat) (C : Nat → List Value) (W : World) : Prop where
  below : Below b0 w0 W
  kept : Kept w W P
  outer : W.ownsRow b0 eo 1 lv vs.length vs
  rows : RowsAt W b0 e sz vs ln C
section
variable {b0 e sz eo : Nat} {w0 w W W1 : World} {P : Nat → Prop} {lv gv gv' : Value} {vs us : List Value} {ln : Nat → Nat} {C : Nat → List Value}
theorem OwnSt.size (h : OwnSt b0 e sz eo w0 w P lv vs ln C W) (hb : b0 ≤ w0.heap.size) : b0 ≤ W.heap.size := Nat.le_trans hb h.below.size
theorem RowsAt.below (h : RowsAt W b0 e sz vs ln C) (hb : Below W.heap.size W W1) : RowsAt W1 b0 e sz vs ln C := fun j v hv => pw_own_below (h j v hv) hb
theorem OwnSt.step (h : OwnSt b0 e sz eo w0 w P lv vs ln C W) (hb0 : b0 ≤ W.heap.size) (hb : Below W.heap.size W W1) : OwnSt b0 e sz eo w0 w P lv vs ln C W1 :=
  ⟨below_then h.below hb0 hb, h.kept.below hb, pw_own_below h.outer hb, h.rows.below hb⟩
theorem OwnSt.alloc (h : OwnSt b0 e sz eo w0 w P lv vs ln C W) (hb0 : b0 ≤ W.heap.size) (o : Obj) : OwnSt b0 e sz eo w0 w P lv vs ln C (W.alloc o) := h.step hb0 (below_alloc (Below.refl _ _) o)
theorem OwnSt.drewN (h : OwnSt b0 e sz eo w0 w P lv vs ln C W) (n : Nat) : OwnSt b0 e sz eo w0 w P lv vs ln C (W.drewN n) :=
  ⟨pw_below_drewN h.below n, h.kept.drewN n, pw_own_below h.outer (pw_below_drewN (Below.refl _ _) n), h.rows.below (pw_below_drewN (Below.refl _ _) n)⟩
theorem OwnSt.put (h : OwnSt b0 e sz eo w0 w P lv vs ln C W) (hne : e ≠ eo) (hap : ApartV vs) (hP : ∀ (j : Nat) (v : Value), vs[j]? = some v → ∀ k, v.ownBlock = some k → P k) {k g c : Nat} (hk : vs[k]? = some (.slice (some ⟨g, 0, none⟩) (ln k) c)) (j : Nat) (u : Value) :
    OwnSt b0 e sz eo w0 w P lv vs ln (fun i => if i = k then (C k).set j u else C i) (W.setCell ⟨g, j, none⟩ u) := by
  have hr := h.rows k _ hk
  obtain ⟨h1, h2⟩ := hr.stored j u
  have hb : b0 ≤ g := (hr.lt g rfl).1
  refine ⟨h.below.setCell (p := ⟨g, j, none⟩) hb _, h.kept.setCell (p := ⟨g, j, none⟩) (.inl (hP k _ hk g rfl)) _, h.outer.kept h2 ?_, fun i v hv => ?_⟩
  · rcases own_type_ne h.outer hr (Ne.symm hne) with q | q
    · exact .inl q
    · exact .inr q
  · by_cases hik : i = k
    · subst hik
      rw [hk] at hv
      obtain rfl := Option.some.inj hv
      simp only [if_true]
      exact h1
    · simp only [if_neg hik]
      refine (h.rows i v hv).kept h2 ?_
      by_cases hn : v.ownBlock = some g
      · exact (hik (hap i k v _ hv hk g hn.symm rfl)).elim
      · exact .inr hn
theorem OwnSt.congr {C' : Nat → List Value} (h : OwnSt b0 e sz eo w0 w P lv vs ln C W) (hc : ∀ j, j < vs.length → C j = C' j) : OwnSt b0 e sz eo w0 w P lv vs ln C' W :=
  ⟨h.below, h.kept, h.outer, fun j v hv => by rw [← hc j (List.getElem?_eq_some_iff.1 hv).1]; exact h.rows j v hv⟩
theorem own_away {W W1 : World} {b e1 s1 n1 : Nat} {v : Value} {xs : List Value} (h : W.ownsRow b e1 s1 v n1 xs) {g : Nat} (hg : W.grownBy W1 (some g)) (hn : v.ownBlock ≠ some g) : W1.ownsRow b e1 s1 v n1 xs := h.kept hg (.inr hn)
theorem own_stay {W W1 : World} {b e1 s1 n1 : Nat} {v : Value} {xs : List Value} (h : W.ownsRow b e1 s1 v n1 xs) (hg : W.grownBy W1 none) : W1.ownsRow b e1 s1 v n1 xs := h.kept hg (by cases v.ownBlock <;> simp)
structure OwnGr (b0 e sz eo : Nat) (w0 w : World) (P : Nat → Prop) (lv : Value) (vs : List Value) (ln : Nat → Nat) (C : Nat → List Value) (H : Nat) (D : Nat → List Value) (us : List Value) (gv : Value) (W : World) : Prop where
  st : OwnSt b0 e sz eo w0 w P lv vs ln C W
  big : H ≤ W.heap.size
  grown : W.ownsRow b0 eo 1 gv us.length us
  gfar : ∀ b, gv.ownBlock = some b → H ≤ b
  rows : RowsAt W b0 e sz us (fun j => ln j + 24) D
  sep : ∀ (j : Nat) (u : Value), us[j]? = some u → ∀ b, u.ownBlock = some b → (∃ v, vs[j]? = some v ∧ v.ownBlock = some b) ∨ H ≤ b
theorem OwnGr.step {H : Nat} {D : Nat → List Value} (h : OwnGr b0 e sz eo w0 w P lv vs ln C H D us gv W) (hb0 : b0 ≤ W.heap.size) (hb : Below W.heap.size W W1) : OwnGr b0 e sz eo w0 w P lv vs ln C H D us gv W1 :=
  ⟨h.st.step hb0 hb, Nat.le_trans h.big hb.size, pw_own_below h.grown hb, h.gfar, h.rows.below hb, h.sep⟩
theorem OwnGr.drewN {H : Nat} {D : Nat → List Value} (h : OwnGr b0 e sz eo w0 w P lv vs ln C H D us gv W) (n : Nat) : OwnGr b0 e sz eo w0 w P lv vs ln C H D us gv (W.drewN n) :=
  ⟨h.st.drewN n, h.big, pw_own_below h.grown (pw_below_drewN (Below.refl _ _) n), h.gfar, h.rows.below (pw_below_drewN (Below.refl _ _) n), h.sep⟩
theorem OwnGr.kept_ {H : Nat} {D : Nat → List Value} (h : OwnGr b0 e sz eo w0 w P lv vs ln C H D us gv W) {row : Option Nat} (hg : W.grownBy W1 row) (hw : ∀ g, row = some g → b0 ≤ g ∧ (P g ∨ w.heap.size ≤ g))
    (hb0 : b0 ≤ W.heap.size) (hl : ∀ g, row = some g → lv.ownBlock ≠ some g) (hgv : ∀ g, row = some g → gv.ownBlock ≠ some g) (hus : ∀ (j : Nat) (u : Value), us[j]? = some u → ∀ g, row = some g → u.ownBlock ≠ some g)
    (hvs : RowsAt W1 b0 e sz vs ln C) : OwnGr b0 e sz eo w0 w P lv vs ln C H D us gv W1 := by
  have q : ∀ {v : Value}, (∀ g, row = some g → v.ownBlock ≠ some g) → v.ownBlock = none ∨ v.ownBlock ≠ row := fun {v} hv => by
    cases row with
    | none => cases v.ownBlock <;> simp
    | some g => exact .inr (hv g rfl)
  exact ⟨⟨h.st.below.grown hg hb0 (fun k hk => (hw k hk).1), Kept.of_grown hg h.st.kept (fun k hk => (hw k hk).2), h.st.outer.kept hg (q hl), hvs⟩, Nat.le_trans h.big hg.size, h.grown.kept hg (q hgv), h.gfar, fun j u hu => (h.rows j u hu).kept hg (q (hus j u hu)), h.sep⟩
theorem own_any {A : Option Addr} {n n' c c' b : Nat} (h : (Value.slice A n c).ownBlock = some b) : (Value.slice A n' c').ownBlock = some b := by
  cases A with
  | none => simp [Value.ownBlock] at h
  | some a => simpa [Value.ownBlock] using h
def CurAt (W : World) (b0 e sz : Nat) (v : Value) (n0 K : Nat) (u : Value) (n : Nat) (c : List Value) : Prop :=
  W.ownsRow b0 e sz u (n0 + n) c ∧ ((∃ A cap, v = .slice A n0 cap ∧ u = .slice A (n0 + n) cap) ∨ (∃ b, u.ownBlock = some b ∧ K ≤ b))
theorem CurAt.step {v u : Value} {n0 K n : Nat} {c : List Value} (h : CurAt W b0 e sz v n0 K u n c) (hb : Below W.heap.size W W1) : CurAt W1 b0 e sz v n0 K u n c := ⟨pw_own_below h.1 hb, h.2⟩
theorem OwnGr.app {H K : Nat} {D : Nat → List Value} (h : OwnGr b0 e sz eo w0 w P lv vs ln C H D us gv W) (hb0 : b0 ≤ W.heap.size) (hne : e ≠ eo) (hap : ApartV vs) (hP : ∀ (j : Nat) (v : Value), vs[j]? = some v → ∀ k, v.ownBlock = some k → P k)
    (hvH : ∀ (j : Nat) (v : Value), vs[j]? = some v → ∀ k, v.ownBlock = some k → k < H) (hHK : H ≤ K) (hwK : w.heap.size ≤ K) (hKW : K ≤ W.heap.size)
    (huK : ∀ (j : Nat) (u : Value), us[j]? = some u → ∀ k, u.ownBlock = some k → k < K) (hgK : ∀ k, gv.ownBlock = some k → k < K) (hlK : ∀ k, lv.ownBlock = some k → k < H)
    {u v u' : Value} {n : Nat} {c y : List Value} (hv : vs[us.length]? = some v) (hcur : CurAt W b0 e sz v (ln us.length) K u n c) (hpre : c.take (ln us.length * sz) = C us.length)
    (ho : W1.ownsRow b0 e sz u' (ln us.length + n + 1) (c ++ y))
    (hcase : (∃ g c, u = .slice (some ⟨g, 0, none⟩) (ln us.length + n) c ∧ u' = .slice (some ⟨g, 0, none⟩) (ln us.length + n + 1) c ∧ W.grownBy W1 (some g)) ∨ ((∃ b, u'.ownBlock = some b ∧ W.heap.size ≤ b) ∧ W.grownBy W1 none)) :
    OwnGr b0 e sz eo w0 w P lv vs ln C H D us gv W1 ∧ CurAt W1 b0 e sz v (ln us.length) K u' (n + 1) (c ++ y) := by
  have hrow := h.st.rows _ v hv
  have hpre2 : (c ++ y).take (ln us.length * sz) = C us.length := by
    have hl : ln us.length * sz ≤ c.length := by rw [hcur.1.1]; exact Nat.mul_le_mul_right _ (Nat.le_add_right _ _)
    rw [List.take_append_of_le_length hl]; exact hpre
  rcases hcase with ⟨g, cap, rfl, rfl, hg⟩ | ⟨⟨b, hb, hbW⟩, hg⟩
  · have hbg : b0 ≤ g := (hcur.1.lt g rfl).1
    rcases hcur.2 with ⟨A, cap', rfl, hA⟩ | ⟨b, hb, hKb⟩
    · simp only [Value.slice.injEq] at hA
      obtain ⟨rfl, _, rfl⟩ := hA
      have hgH := hvH _ _ hv g rfl
      refine ⟨h.kept_ hg (fun k hk => by cases hk; exact ⟨hbg, .inl (hP _ _ hv g rfl)⟩) hb0 (fun k hk => by cases hk; rcases own_type_ne h.st.outer hcur.1 (Ne.symm hne) with q | q; (rw [q]; simp); exact q)
        (fun k hk he => by cases hk; have := h.gfar _ he; omega) (fun j u hu k hk he => ?_) (fun j v hv' => ?_), ?_, .inl ⟨_, _, rfl, rfl⟩⟩
      · cases hk
        rcases h.sep j u hu g he with ⟨v', hv', hb'⟩ | hb'
        · have hj : j < us.length := (List.getElem?_eq_some_iff.1 hu).1
          have := hap j us.length v' _ hv' hv g hb'.symm rfl
          omega
        · omega
      · by_cases hj : j = us.length
        · subst hj
          rw [hv] at hv'
          obtain rfl := Option.some.inj hv'
          have := own_take (m := ln us.length) (show W1.ownsRow b0 e sz (.slice (some ⟨g, 0, none⟩) (ln us.length + n + 1) cap) (ln us.length + n + 1) (c ++ y) from ho) (by omega)
          rw [hpre2] at this
          exact this
        · refine own_away (h.st.rows j v hv') hg (fun he => ?_)
          exact hj (hap j us.length v _ hv' hv g he.symm rfl)
      · exact ho
    · obtain rfl : g = b := by simpa [Value.ownBlock] using hb
      refine ⟨h.kept_ hg (fun k hk => by cases hk; exact ⟨hbg, .inr (Nat.le_trans hwK hKb)⟩) hb0 (fun k hk he => by cases hk; have := hlK _ he; omega)
        (fun k hk he => by cases hk; have := hgK _ he; omega) (fun j u hu k hk he => by cases hk; have := huK j u hu _ he; omega) (fun j v hv' => own_away (h.st.rows j v hv') hg (fun he => by have := hvH j v hv' _ he; omega)), ho, .inr ⟨g, rfl, hKb⟩⟩
  · exact ⟨h.kept_ hg (fun k hk => by cases hk) hb0 (fun k hk => by cases hk) (fun k hk => by cases hk) (fun j u hu k hk => by cases hk) (fun j v hv' => own_stay (h.st.rows j v hv') hg), ho, .inr ⟨b, hb, Nat.le_trans hKW hbW⟩⟩
theorem OwnGr.join {H K : Nat} {D : Nat → List Value} (h : OwnGr b0 e sz eo w0 w P lv vs ln C H D us gv W) (hb0 : b0 ≤ W.heap.size) (hne : e ≠ eo) (hHK : H ≤ K) (hwH : w.heap.size ≤ H) (hlK : ∀ k, lv.ownBlock = some k → k < H)
    {u v gv' : Value} (hv : vs[us.length]? = some v) (hcur : CurAt W b0 e sz v (ln us.length) K u 24 (D us.length))
    (ho : W1.ownsRow b0 eo 1 gv' (us.length + 1) (us ++ [u]))
    (hcase : (∃ g c, gv = .slice (some ⟨g, 0, none⟩) us.length c ∧ gv' = .slice (some ⟨g, 0, none⟩) (us.length + 1) c ∧ W.grownBy W1 (some g)) ∨ ((∃ b, gv'.ownBlock = some b ∧ W.heap.size ≤ b) ∧ W.grownBy W1 none)) :
    OwnGr b0 e sz eo w0 w P lv vs ln C H D (us ++ [u]) gv' W1 := by
  have hD : ∀ (j : Nat) (u' : Value), (us ++ [u])[j]? = some u' → us[j]? = some u' ∨ (j = us.length ∧ u' = u) := fun j u' hj => by
    by_cases c : j < us.length
    · rw [List.getElem?_append_left c] at hj; exact .inl hj
    · have hlt := (List.getElem?_eq_some_iff.1 hj).1
      simp at hlt
      have : j = us.length := by omega
      subst this
      simp at hj
      exact .inr ⟨rfl, hj.symm⟩
  have hrow : W.ownsRow b0 e sz u (ln us.length + 24) (D us.length) := hcur.1
  have hsep : ∀ b, u.ownBlock = some b → (∃ v, vs[us.length]? = some v ∧ v.ownBlock = some b) ∨ H ≤ b := fun b hb => by
    rcases hcur.2 with ⟨A, cap, rfl, rfl⟩ | ⟨b', hb', hK⟩
    · exact .inl ⟨_, hv, own_any hb⟩
    · rw [hb'] at hb; cases hb; exact .inr (Nat.le_trans hHK hK)
  have fin : ∀ row, W.grownBy W1 row → (∀ g, row = some g → H ≤ g ∧ gv.ownBlock = some g) → (∀ b, gv'.ownBlock = some b → H ≤ b) → OwnGr b0 e sz eo w0 w P lv vs ln C H D (us ++ [u]) gv' W1 := fun row hg hr hgf => by
    have q : ∀ {v : Value} {n : Nat} {c : List Value}, W.ownsRow b0 e sz v n c → W1.ownsRow b0 e sz v n c := fun {v n c} hv => by
      cases row with
      | none => exact own_stay hv hg
      | some g =>
        refine own_away hv hg (fun he => ?_)
        have := (hr g rfl).2
        rcases own_type_ne hv h.grown hne with q | q
        · rw [q] at he; cases he
        · exact q (he.trans this.symm)
    refine ⟨⟨h.st.below.grown hg hb0 (fun k hk => (h.grown.lt k (hr k hk).2).1), Kept.of_grown hg h.st.kept (fun k hk => .inr (Nat.le_trans hwH (hr k hk).1)), ?_, fun j v hv => q (h.st.rows j v hv)⟩, Nat.le_trans h.big hg.size, by rw [List.length_append]; exact ho, hgf, fun j u' hu => ?_, fun j u' hu b hb => ?_⟩
    · cases row with
      | none => exact own_stay h.st.outer hg
      | some g => exact own_away h.st.outer hg (fun he => by have := hlK g he; have := (hr g rfl).1; omega)
    · rcases hD j u' hu with hj | ⟨rfl, rfl⟩
      · exact q (h.rows j u' hj)
      · exact q hrow
    · rcases hD j u' hu with hj | ⟨rfl, rfl⟩
      · exact h.sep j u' hj b hb
      · exact hsep b hb
  rcases hcase with ⟨g, cap, rfl, rfl, hg⟩ | ⟨⟨b, hb, hbW⟩, hg⟩
  · exact fin (some g) hg (fun k hk => by cases hk; exact ⟨h.gfar g rfl, rfl⟩) (fun b hb => h.gfar b (own_any hb))
  · exact fin none hg (fun k hk => by cases hk) (fun b' hb' => by rw [hb] at hb'; cases hb'; exact Nat.le_trans h.big hbW)
end
def rep (n : Nat) (m : List Value) : List Value := (List.replicate n m).flatten
theorem rep_len (n : Nat) (m : List Value) : (rep n m).length = n * m.length := by simp [rep]
theorem rep_succ (n : Nat) (m : List Value) : rep (n + 1) m = rep n m ++ m := by simp [rep, List.replicate_succ']
theorem rep_one (n : Nat) (m : List Value) : rep (n + 1) m = m ++ rep n m := by simp [rep, List.replicate_succ]
theorem rep_at {m : List Value} {sz : Nat} (hm : m.length = sz) : ∀ {n i : Nat}, i < n → ∀ j, j < sz → (rep n m)[i * sz + j]? = m[j]?
  | n + 1, 0, _, j, hj => by rw [rep_one, Nat.zero_mul, Nat.zero_add, List.getElem?_append_left (by omega)]
  | n + 1, i + 1, h, j, hj => by
    rw [rep_one, List.getElem?_append_right (by rw [Nat.succ_mul]; omega), show (i + 1) * sz + j - m.length = i * sz + j by rw [Nat.succ_mul]; omega]
    exact rep_at hm (by omega) j hj
theorem put2_ (i : Nat) (a b x y : Value) (t : List Value) : ((rep i [a, b] ++ x :: y :: t).set (i * 2) a).set (i * 2 + 1) b = rep (i + 1) [a, b] ++ t := by
  have h : (rep i [a, b]).length = i * 2 := by rw [rep_len]; simp
  rw [List.set_append, if_neg (by omega), h, Nat.sub_self, List.set_append, if_neg (by omega), h, show i * 2 + 1 - i * 2 = 1 by omega, rep_succ]
  simp
end Go.Proofs.YtddffjhodiengaaW.PrintWords
