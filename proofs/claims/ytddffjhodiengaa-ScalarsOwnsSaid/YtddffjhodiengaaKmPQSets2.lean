/- Words and walks of this claim, of the text PQSets2. -/
import Derived.Test.YtddffjhodiengaaKmQx0
import Derived.Test.YtddffjhodiengaaKmQx4
import Derived.Test.YtddffjhodiengaaKmQx5
import Derived.Test.YtddffjhodiengaaKmQx6
import Derived.Test.YtddffjhodiengaaKmPQSets
namespace Go.Proofs.Ytddffjhodiengaa.PQ
open Go.RowKit Go.Proofs.YtddffjhodiengaaW.PrintWords Go.Proofs.YtddffjhodiengaaW.PrintLast Go.Proofs.YtddffjhodiengaaW.PrintMore Go.Proofs.Ytddffjhodiengaa.Q Go.Proofs.LT
set_option linter.unusedVariables false
set_option linter.unusedSimpArgs false
theorem meet_loop (N : Nat) (hN : N ≤ 8796093022206) (top : Int) (ht : top ≤ 1073741823) : ∀ (n : Nat) (a b out : List S72) (la lb : Int), a.length + b.length = n → out.length + a.length + b.length ≤ N → ValidFrom top la (a.map L72) → ValidFrom top lb (b.map L72) →
    ∃ m, Ev (fun k => sets_Meet.l0 k a b out) (out ++ m) ∧ m.length ≤ a.length + b.length ∧ ValidFrom top (max la lb) (m.map L72) ∧ ∀ x, Mem (m.map L72) x ↔ Mem (a.map L72) x ∧ Mem (b.map L72) x
  | n, [], b, out, la, lb, _, _, _, _ => by
    refine ⟨[], evSucc (evSucc ?_), by simp, trivial, fun x => ⟨fun h => (Mem.nil h).elim, fun h => (Mem.nil h.1).elim⟩⟩
    simp only [sets_Meet.l0, List.length_nil]
    simp only [if_neg (show ¬ ((0 : Nat) : Int) > 0 by omega), sets_Meet.j1]
    simpa using evNow out
  | n, x :: a, [], out, la, lb, _, _, _, _ => by
    refine ⟨[], evSucc (evSucc ?_), by simp, trivial, fun x => ⟨fun h => (Mem.nil h).elim, fun h => (Mem.nil h.2).elim⟩⟩
    simp only [sets_Meet.l0, List.length_nil, List.length_cons]
    simp only [if_pos (show ((a.length + 1 : Nat) : Int) > 0 by omega), show decide (((0 : Nat) : Int) > 0) = false by decide, sets_Meet.j1]
    simpa using evNow out
  | n, x :: a, y :: b, out, la, lb, hn, hl, ha, hb => by
    obtain ⟨a0, a1, a2, a3, a4⟩ := ha
    obtain ⟨b0, b1, b2, b3, b4⟩ := hb
    have ex : (L72 x).1 = x.f0 ∧ (L72 x).2 = x.f1 := ⟨rfl, rfl⟩
    have ey : (L72 y).1 = y.f0 ∧ (L72 y).2 = y.f1 := ⟨rfl, rfl⟩
    have c1 : ((((x :: a).length : Nat) : Int) > 0) := by rw [List.length_cons]; omega
    have c2 : decide ((((y :: b).length : Nat) : Int) > 0) = true := by rw [List.length_cons]; exact decide_eq_true (by omega)
    have c3 : (0 : Int) < (((x :: a).length : Nat) : Int) := c1
    have c4 : (0 : Int) < (((y :: b).length : Nat) : Int) := by rw [List.length_cons]; omega
    have c5 : (1 : Int) ≤ (((x :: a).length : Nat) : Int) := by omega
    have c6 : (1 : Int) ≤ (((y :: b).length : Nat) : Int) := by omega
    have r1 : rd_T72 (x :: a) 0 = x := rfl
    have r2 : rd_T72 (y :: b) 0 = y := rfl
    have hlo : out.length < 8796093022208 := by simp at hl; omega
    simp only [ex.1, ex.2, ey.1, ey.2] at a0 a1 a2 a3 b0 b1 b2 b3
    have main : ∀ (out' : List S72) (n' : Nat), out'.length + a.length + b.length + 1 ≤ N →
        ∃ m, Ev (fun k => if x.f1 < y.f1 then (if (1 : Int) ≤ (((x :: a).length : Nat) : Int) then sets_Meet.l0 k ((x :: a).drop 1) (y :: b) out' else none) else (if (1 : Int) ≤ (((y :: b).length : Nat) : Int) then sets_Meet.l0 k (x :: a) ((y :: b).drop 1) out' else none)) (out' ++ m) ∧ m.length ≤ a.length + b.length + 1 ∧ ValidFrom top (if x.f1 < y.f1 then max x.f1 lb else max la y.f1) (m.map L72) ∧
          ∀ z, Mem (m.map L72) z ↔ (if x.f1 < y.f1 then Mem (a.map L72) z ∧ Mem ((y :: b).map L72) z else Mem ((x :: a).map L72) z ∧ Mem (b.map L72) z) := fun out' n' hl' => by
      by_cases d : x.f1 < y.f1
      · obtain ⟨m, h1, h2, h3, h4⟩ := meet_loop N hN top ht (a.length + (y :: b).length) a (y :: b) out' x.f1 lb rfl (by simp; omega) a4 ⟨b0, b1, b2, b3, b4⟩
        refine ⟨m, ?_, by simp at h2; omega, by rw [if_pos d]; exact h3, fun z => by rw [if_pos d]; exact h4 z⟩
        simp only [if_pos d, if_pos c5, List.drop_one, List.tail_cons]
        exact h1
      · obtain ⟨m, h1, h2, h3, h4⟩ := meet_loop N hN top ht ((x :: a).length + b.length) (x :: a) b out' la y.f1 rfl (by simp; omega) ⟨a0, a1, a2, a3, a4⟩ b4
        refine ⟨m, ?_, by simp at h2; omega, by rw [if_neg d]; exact h3, fun z => by rw [if_neg d]; exact h4 z⟩
        simp only [if_neg d, if_pos c6, List.drop_one, List.tail_cons]
        exact h1
    by_cases d0 : max x.f0 y.f0 ≤ min x.f1 y.f1
    · obtain ⟨m, h1, h2, h3, h4⟩ := main (out ++ [⟨max x.f0 y.f0, min x.f1 y.f1⟩]) 0 (by simp at hl ⊢; omega)
      refine ⟨⟨max x.f0 y.f0, min x.f1 y.f1⟩ :: m, evSucc (evSucc ?_), by simp; omega, ?_, fun z => ?_⟩
      · simp only [sets_Meet.l0, if_pos c1, c2, sets_Meet.j1, if_true, if_pos c3, if_pos c4, r1, r2, mx_eq, mn_eq, if_pos d0, if_pos hlo, Option.bind_some]
        simpa using h1
      · refine ⟨?_, ?_, ?_, ?_, ?_⟩
        · show 0 ≤ max x.f0 y.f0; omega
        · exact d0
        · show min x.f1 y.f1 ≤ top; omega
        · show max la lb < max x.f0 y.f0 - 1; omega
        · refine ValidFrom.mono ?_ h3
          show min x.f1 y.f1 ≤ _
          split <;> omega
      · rw [List.map_cons, mem_cons, h4 z]
        have e : (L72 ⟨max x.f0 y.f0, min x.f1 y.f1⟩).1 = max x.f0 y.f0 ∧ (L72 ⟨max x.f0 y.f0, min x.f1 y.f1⟩).2 = min x.f1 y.f1 := ⟨rfl, rfl⟩
        rw [e.1, e.2]
        have ga : ∀ z, Mem (a.map L72) z → x.f1 + 1 < z := fun z h => ValidFrom.gt a4 h
        have gb : ∀ z, Mem (b.map L72) z → y.f1 + 1 < z := fun z h => ValidFrom.gt b4 h
        simp only [List.map_cons, mem_cons, ex.1, ex.2, ey.1, ey.2]
        by_cases d : x.f1 < y.f1
        · simp only [if_pos d]
          constructor
          · rintro (h | ⟨h, h'⟩)
            · exact ⟨.inl (by omega), .inl (by omega)⟩
            · exact ⟨.inr h, h'⟩
          · rintro ⟨h | h, h'⟩
            · rcases h' with h' | h'
              · exact .inl (by omega)
              · have := gb z h'; omega
            · exact .inr ⟨h, h'⟩
        · simp only [if_neg d]
          constructor
          · rintro (h | ⟨h, h'⟩)
            · exact ⟨.inl (by omega), .inl (by omega)⟩
            · exact ⟨h, .inr h'⟩
          · rintro ⟨h, h' | h'⟩
            · rcases h with h | h
              · exact .inl (by omega)
              · have := ga z h; omega
            · exact .inr ⟨h, h'⟩
    · obtain ⟨m, h1, h2, h3, h4⟩ := main out 0 (by simp at hl; omega)
      refine ⟨m, evSucc (evSucc ?_), by simp; omega, ?_, fun z => ?_⟩
      · simp only [sets_Meet.l0, if_pos c1, c2, sets_Meet.j1, if_true, if_pos c3, if_pos c4, r1, r2, mx_eq, mn_eq, if_neg d0]
        exact h1
      · refine ValidFrom.mono ?_ h3
        split <;> omega
      · rw [h4 z]
        have ga : ∀ z, Mem (a.map L72) z → x.f1 + 1 < z := fun z h => ValidFrom.gt a4 h
        have gb : ∀ z, Mem (b.map L72) z → y.f1 + 1 < z := fun z h => ValidFrom.gt b4 h
        simp only [List.map_cons, mem_cons, ex.1, ex.2, ey.1, ey.2]
        by_cases d : x.f1 < y.f1
        · simp only [if_pos d]
          constructor
          · rintro ⟨h, h'⟩
            exact ⟨.inr h, h'⟩
          · rintro ⟨h | h, h'⟩
            · rcases h' with h' | h'
              · omega
              · have := gb z h'; omega
            · exact ⟨h, h'⟩
        · simp only [if_neg d]
          constructor
          · rintro ⟨h, h'⟩
            exact ⟨h, .inr h'⟩
          · rintro ⟨h, h' | h'⟩
            · rcases h with h | h
              · omega
              · have := ga z h; omega
            · exact ⟨h, h'⟩
termination_by n a b => a.length + b.length
theorem meet_is (top : Int) (ht : top ≤ 1073741823) (a b : List S72) (hl : a.length + b.length ≤ 8796093022206) (ha : ValidFrom top (-2) (a.map L72)) (hb : ValidFrom top (-2) (b.map L72)) :
    ∃ m, Ev (fun k => sets_Meet.f k a b) m ∧ m.length ≤ a.length + b.length ∧ ValidFrom top (-2) (m.map L72) ∧ ∀ x, Mem (m.map L72) x ↔ Mem (a.map L72) x ∧ Mem (b.map L72) x := by
  obtain ⟨m, h1, h2, h3, h4⟩ := meet_loop (a.length + b.length) hl top ht _ a b [] (-2) (-2) rfl (by simp) ha hb
  exact ⟨m, by simpa [sets_Meet.f] using h1, h2, by simpa using h3, h4⟩
theorem not_loop (N : Nat) (hN : N ≤ 8796093022206) (top : Int) (ht : top ≤ 1073741823) : ∀ (t pre out : List S72) (fr : Int), (pre ++ t).length ≤ N → out.length + t.length ≤ N → 0 ≤ fr → fr ≤ top + 1 → ValidFrom top (fr - 2) (t.map L72) →
    ∃ m, Ev (fun k => sets_Not.l0 k top out fr (pre ++ t) (((pre ++ t).length : Nat) : Int) (pre.length : Int)) (out ++ m) ∧ ValidFrom top (fr - 2) (m.map L72) ∧ m.length ≤ t.length + 1 ∧ ∀ x, Mem (m.map L72) x ↔ (fr ≤ x ∧ x ≤ top) ∧ ¬ Mem (t.map L72) x
  | [], pre, out, fr, _, ho, h0, h1, _ => by
    have hlt : out.length < 8796093022208 := by simp at ho; omega
    by_cases d : fr ≤ top
    · refine ⟨[⟨fr, top⟩], evSucc ?_, ⟨?_, ?_, ?_, ?_, trivial⟩, by simp, fun x => ?_⟩
      · simp only [sets_Not.l0]
        rw [List.append_nil]
        simp only [if_neg (show ¬ ((pre.length : Nat) : Int) < ((pre.length : Nat) : Int) by omega), if_pos d, if_pos hlt]
        exact evNow _
      · show 0 ≤ fr; omega
      · show fr ≤ top; omega
      · show top ≤ top; omega
      · show fr - 2 < fr - 1; omega
      · rw [List.map_cons, mem_cons]
        show (fr ≤ x ∧ x ≤ top) ∨ _ ↔ _
        simp [Mem]
    · refine ⟨[], evSucc ?_, trivial, by simp, fun x => ⟨fun h => (Mem.nil h).elim, fun h => by omega⟩⟩
      simp only [sets_Not.l0]
      rw [List.append_nil, List.append_nil]
      simp only [if_neg (show ¬ ((pre.length : Nat) : Int) < ((pre.length : Nat) : Int) by omega), if_neg d]
      exact evNow _
  | r :: t, pre, out, fr, hl, ho, h0, h1, hv => by
    obtain ⟨v0, v1, v2, v3, v4⟩ := hv
    have hm : (L72 r).1 = r.f0 ∧ (L72 r).2 = r.f1 := ⟨rfl, rfl⟩
    simp only [hm.1, hm.2] at v0 v1 v2 v3 v4
    have hlc := len_cons pre r t
    have hw : Aside0 (wrap64 ((pre.length : Int) + 1) = (pre.length : Int) + 1) := Aside0.mk (w64 (by omega) (by simp at hl; omega))
    have c1 : (pre.length : Int) < ((pre ++ r :: t).length : Nat) := by rw [hlc]; omega
    have c2 : (0 : Int) ≤ pre.length := by omega
    have hlt : out.length < 8796093022208 := by simp at ho; omega
    have w1 : Aside0 (wrap64 (r.f0 - 1) = r.f0 - 1) := Aside0.mk (w64 (by omega) (by omega))
    have w2 : Aside0 (wrap64 (r.f1 + 1) = r.f1 + 1) := Aside0.mk (w64 (by omega) (by omega))
    have hv4 : ValidFrom top (r.f1 + 1 - 2) (t.map L72) := ValidFrom.mono (by omega) v4
    have hg : ∀ x, Mem (t.map L72) x → r.f1 + 1 < x := fun x h => ValidFrom.gt v4 h
    by_cases d : r.f0 > fr
    · obtain ⟨m, g1, g2, g3, g4⟩ := not_loop N hN top ht t (pre ++ [r]) (out ++ [⟨fr, r.f0 - 1⟩]) (r.f1 + 1) (by rw [app_snoc]; exact hl) (by simp at ho ⊢; omega) (by omega) (by omega) hv4
      rw [app_snoc, snoc_len] at g1
      refine ⟨⟨fr, r.f0 - 1⟩ :: m, evSucc ?_, ⟨?_, ?_, ?_, ?_, ?_⟩, by simp; omega, fun x => ?_⟩
      · simp only [sets_Not.l0, if_pos c1, if_pos c2, rd72, hw.out, w1.out, w2.out, if_pos d, if_pos hlt]
        simpa using g1
      · show 0 ≤ fr; omega
      · show fr ≤ r.f0 - 1; omega
      · show r.f0 - 1 ≤ top; omega
      · show fr - 2 < fr - 1; omega
      · refine ValidFrom.mono ?_ g2
        show r.f0 - 1 ≤ _; omega
      · rw [List.map_cons, mem_cons, g4 x, List.map_cons, mem_cons, hm.1, hm.2]
        show (fr ≤ x ∧ x ≤ r.f0 - 1) ∨ _ ↔ _
        constructor
        · rintro (h | ⟨h, h'⟩)
          · exact ⟨by omega, fun h2 => by rcases h2 with h2 | h2; · omega
                                          · have := hg x h2; omega⟩
          · exact ⟨by omega, fun h2 => by rcases h2 with h2 | h2; · omega
                                          · exact h' h2⟩
        · rintro ⟨h, h'⟩
          by_cases e : x ≤ r.f0 - 1
          · exact .inl (by omega)
          · refine .inr ⟨⟨?_, by omega⟩, fun h2 => h' (.inr h2)⟩
            have : ¬ (r.f0 ≤ x ∧ x ≤ r.f1) := fun h2 => h' (.inl h2)
            omega
    · obtain ⟨m, g1, g2, g3, g4⟩ := not_loop N hN top ht t (pre ++ [r]) out (r.f1 + 1) (by rw [app_snoc]; exact hl) (by simp at ho ⊢; omega) (by omega) (by omega) hv4
      rw [app_snoc, snoc_len] at g1
      refine ⟨m, evSucc ?_, ValidFrom.mono (by omega) g2, by simp; omega, fun x => ?_⟩
      · simp only [sets_Not.l0, if_pos c1, if_pos c2, rd72, hw.out, w2.out, if_neg d]
        exact g1
      · rw [g4 x, List.map_cons, mem_cons, hm.1, hm.2]
        constructor
        · rintro ⟨h, h'⟩
          exact ⟨by omega, fun h2 => by rcases h2 with h2 | h2; · omega
                                        · exact h' h2⟩
        · rintro ⟨h, h'⟩
          refine ⟨⟨?_, by omega⟩, fun h2 => h' (.inr h2)⟩
          have : ¬ (r.f0 ≤ x ∧ x ≤ r.f1) := fun h2 => h' (.inl h2)
          omega
theorem not_is (top : Int) (h0 : 0 ≤ top) (ht : top ≤ 1073741823) (l : List S72) (hl : l.length ≤ 8796093022206) (hv : ValidFrom top (-2) (l.map L72)) :
    ∃ m, Ev (fun k => sets_Not.f k l top) m ∧ m.length ≤ l.length + 1 ∧ ValidFrom top (-2) (m.map L72) ∧ ∀ x, Mem (m.map L72) x ↔ (0 ≤ x ∧ x ≤ top) ∧ ¬ Mem (l.map L72) x := by
  obtain ⟨m, g1, g2, g3, g4⟩ := not_loop l.length hl top ht l [] [] 0 (by simp) (by simp) (by omega) (by omega) hv
  exact ⟨m, by simpa [sets_Not.f] using g1, g3, g2, g4⟩
theorem scalars_Union_is (a b : List S56) (ha : a.length * 16 ≤ 140737488351232) (hb : b.length * 16 ≤ 140737488351232) : ∃ r, Ev (fun k => scalars_Union.f k a b) r ∧ scalars_IsSet r (fun x => Mem (setL 1073741823 (a.map L56)) x ∨ Mem (setL 1073741823 (b.map L56)) x) := by
  obtain ⟨s, h1, h2⟩ := scalars_set_is a ha
  obtain ⟨hv, hn⟩ := scalars_set_facts h2
  obtain ⟨t, g1, g2⟩ := scalars_set_is b hb
  obtain ⟨gv, gn⟩ := scalars_set_facts g2
  obtain ⟨m, w, k1, k2, k3, k4⟩ := norm_is 1073741823 (by omega) (s ++ t) (by simp; omega) (fun r hr => by
    rcases List.mem_append.1 hr with hr | hr
    · exact hv.each (L72 r) (List.mem_map.2 ⟨r, hr, rfl⟩)
    · exact gv.each (L72 r) (List.mem_map.2 ⟨r, hr, rfl⟩))
  obtain ⟨r, q1, q2⟩ := scalars_out (p := fun x => Mem (setL 1073741823 (a.map L56)) x ∨ Mem (setL 1073741823 (b.map L56)) x) k3 (fun x => by rw [k4 x, List.map_append, mem_append, h2, g2])
  refine ⟨r, Ev.bind h1 (Ev.bind g1 ?_), q2⟩
  simp only [if_pos (show s.length + t.length < 8796093022208 by omega)]
  exact Ev.bind k1 (Ev.bind q1 (evNow _))
theorem scalars_Meet_is (a b : List S56) (ha : a.length * 16 ≤ 140737488351232) (hb : b.length * 16 ≤ 140737488351232) : ∃ r, Ev (fun k => scalars_Meet.f k a b) r ∧ scalars_IsSet r (fun x => Mem (setL 1073741823 (a.map L56)) x ∧ Mem (setL 1073741823 (b.map L56)) x) := by
  obtain ⟨s, h1, h2⟩ := scalars_set_is a ha
  obtain ⟨hv, hn⟩ := scalars_set_facts h2
  obtain ⟨t, g1, g2⟩ := scalars_set_is b hb
  obtain ⟨gv, gn⟩ := scalars_set_facts g2
  obtain ⟨m, k1, k2, k3, k4⟩ := meet_is 1073741823 (by omega) s t (by omega) hv gv
  obtain ⟨r, q1, q2⟩ := scalars_out (p := fun x => Mem (setL 1073741823 (a.map L56)) x ∧ Mem (setL 1073741823 (b.map L56)) x) k3 (fun x => by rw [k4 x, h2, g2])
  exact ⟨r, Ev.bind h1 (Ev.bind g1 (Ev.bind k1 (Ev.bind q1 (evNow _)))), q2⟩
theorem scalars_Minus_is (a b : List S56) (ha : a.length * 16 ≤ 140737488351232) (hb : b.length * 16 ≤ 140737488351232) : ∃ r, Ev (fun k => scalars_Minus.f k a b) r ∧ scalars_IsSet r (fun x => Mem (setL 1073741823 (a.map L56)) x ∧ ¬ Mem (setL 1073741823 (b.map L56)) x) := by
  obtain ⟨s, h1, h2⟩ := scalars_set_is a ha
  obtain ⟨hv, hn⟩ := scalars_set_facts h2
  obtain ⟨t, g1, g2⟩ := scalars_set_is b hb
  obtain ⟨gv, gn⟩ := scalars_set_facts g2
  obtain ⟨u, u1, u2, u3, u4⟩ := not_is 1073741823 (by omega) (by omega) t (by omega) gv
  obtain ⟨m, k1, k2, k3, k4⟩ := meet_is 1073741823 (by omega) s u (by omega) hv u3
  obtain ⟨r, q1, q2⟩ := scalars_out (p := fun x => Mem (setL 1073741823 (a.map L56)) x ∧ ¬ Mem (setL 1073741823 (b.map L56)) x) k3 (fun x => by
    rw [k4 x, u4 x, h2, g2]
    exact ⟨fun h => ⟨h.1, h.2.2⟩, fun h => ⟨h.1, (setL_valid 1073741823 (a.map L56)).range h.1, h.2⟩⟩)
  exact ⟨r, Ev.bind h1 (Ev.bind g1 (Ev.bind u1 (Ev.bind k1 (Ev.bind q1 (evNow _))))), q2⟩
theorem scalars_Not_is (a : List S56) (ha : a.length * 16 ≤ 140737488351232) : ∃ r, Ev (fun k => scalars_Not.f k a) r ∧ scalars_IsSet r (fun x => (0 ≤ x ∧ x ≤ 1073741823) ∧ ¬ Mem (setL 1073741823 (a.map L56)) x) := by
  obtain ⟨s, h1, h2⟩ := scalars_set_is a ha
  obtain ⟨hv, hn⟩ := scalars_set_facts h2
  obtain ⟨u, u1, u2, u3, u4⟩ := not_is 1073741823 (by omega) (by omega) s (by omega) hv
  obtain ⟨r, q1, q2⟩ := scalars_out (p := fun x => (0 ≤ x ∧ x ≤ 1073741823) ∧ ¬ Mem (setL 1073741823 (a.map L56)) x) u3 (fun x => by rw [u4 x, h2])
  exact ⟨r, Ev.bind h1 (Ev.bind u1 (Ev.bind q1 (evNow _))), q2⟩
end Go.Proofs.Ytddffjhodiengaa.PQ
