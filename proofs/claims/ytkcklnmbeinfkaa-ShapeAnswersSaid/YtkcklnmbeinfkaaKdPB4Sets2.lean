/- Words and walks of this claim, of the text PB4Sets2. -/
import Derived.Test.YtkcklnmbeinfkaaKdBx0
import Derived.Test.YtkcklnmbeinfkaaKdBx3
import Derived.Test.YtkcklnmbeinfkaaKdBx4
import Derived.Test.YtkcklnmbeinfkaaKdBx6
import Derived.Test.YtkcklnmbeinfkaaKdBx36
import Derived.Test.YtkcklnmbeinfkaaKdPB4Sets
namespace Go.Proofs.Ytkcklnmbeinfkaa.PB4
open Go.RowKit Go.Proofs.YtkcklnmbeinfkaaW.PrintWords Go.Proofs.YtkcklnmbeinfkaaW.PrintLast Go.Proofs.YtkcklnmbeinfkaaW.PrintMore Go.Proofs.Ytkcklnmbeinfkaa.B Go.Proofs.LT
set_option linter.unusedVariables false
set_option linter.unusedSimpArgs false
theorem meet_loop (N : Nat) (hN : N ≤ 8796093022206) (top : Int) (ht : top ≤ 1073741823) : ∀ (n : Nat) (a b out : List S139) (la lb : Int), a.length + b.length = n → out.length + a.length + b.length ≤ N → ValidFrom top la (a.map L139) → ValidFrom top lb (b.map L139) →
    ∃ m, Ev (fun k => sets_Meet.l0 k a b out) (out ++ m) ∧ m.length ≤ a.length + b.length ∧ ValidFrom top (max la lb) (m.map L139) ∧ ∀ x, Mem (m.map L139) x ↔ Mem (a.map L139) x ∧ Mem (b.map L139) x
  | n, [], b, out, la, lb, _, _, _, _ => by
    refine ⟨[], evSucc (evSucc ?_), by simp, trivial, fun x => ⟨fun h => (Mem.nil h).elim, fun h => (Mem.nil h.1).elim⟩⟩
    simp only [sets_Meet.l0, List.length_nil]
    simp only [if_neg (show ¬ ((0 : Nat) : Int) > 0 by omega), sets_Meet.j1]
    simpa using evNow out
  | n, x :: a, [], out, la, lb, _, _, _, _ => by
    refine ⟨[], evSucc (evSucc ?_), by simp, trivial, fun x => ⟨fun h => (Mem.nil h).elim, fun h => (Mem.nil h.2).elim⟩⟩
    simp only [sets_Meet.l0, List.length_nil, List.length_cons]
    simp only [if_pos (show ((a.length + 1 : Nat) : Int) > 0 by omega), show decide (((0 : Nat) : Int) > 0) = false by decide, sets_Meet.j1]
    simpa using evNow out
  | n, x :: a, y :: b, out, la, lb, hn, hl, ha, hb => by
    obtain ⟨a0, a1, a2, a3, a4⟩ := ha
    obtain ⟨b0, b1, b2, b3, b4⟩ := hb
    have ex : (L139 x).1 = x.f0 ∧ (L139 x).2 = x.f1 := ⟨rfl, rfl⟩
    have ey : (L139 y).1 = y.f0 ∧ (L139 y).2 = y.f1 := ⟨rfl, rfl⟩
    have c1 : ((((x :: a).length : Nat) : Int) > 0) := by rw [List.length_cons]; omega
    have c2 : decide ((((y :: b).length : Nat) : Int) > 0) = true := by rw [List.length_cons]; exact decide_eq_true (by omega)
    have c3 : (0 : Int) < (((x :: a).length : Nat) : Int) := c1
    have c4 : (0 : Int) < (((y :: b).length : Nat) : Int) := by rw [List.length_cons]; omega
    have c5 : (1 : Int) ≤ (((x :: a).length : Nat) : Int) := by omega
    have c6 : (1 : Int) ≤ (((y :: b).length : Nat) : Int) := by omega
    have r1 : rd_T139 (x :: a) 0 = x := rfl
    have r2 : rd_T139 (y :: b) 0 = y := rfl
    have hlo : out.length < 8796093022208 := by simp at hl; omega
    simp only [ex.1, ex.2, ey.1, ey.2] at a0 a1 a2 a3 b0 b1 b2 b3
    have main : ∀ (out' : List S139) (n' : Nat), out'.length + a.length + b.length + 1 ≤ N →
        ∃ m, Ev (fun k => if x.f1 < y.f1 then (if (1 : Int) ≤ (((x :: a).length : Nat) : Int) then sets_Meet.l0 k ((x :: a).drop 1) (y :: b) out' else none) else (if (1 : Int) ≤ (((y :: b).length : Nat) : Int) then sets_Meet.l0 k (x :: a) ((y :: b).drop 1) out' else none)) (out' ++ m) ∧ m.length ≤ a.length + b.length + 1 ∧ ValidFrom top (if x.f1 < y.f1 then max x.f1 lb else max la y.f1) (m.map L139) ∧
          ∀ z, Mem (m.map L139) z ↔ (if x.f1 < y.f1 then Mem (a.map L139) z ∧ Mem ((y :: b).map L139) z else Mem ((x :: a).map L139) z ∧ Mem (b.map L139) z) := fun out' n' hl' => by
      by_cases d : x.f1 < y.f1
      · obtain ⟨m, h1, h2, h3, h4⟩ := meet_loop N hN top ht (a.length + (y :: b).length) a (y :: b) out' x.f1 lb rfl (by simp; omega) a4 ⟨b0, b1, b2, b3, b4⟩
        refine ⟨m, ?_, by simp at h2; omega, by rw [if_pos d]; exact h3, fun z => by rw [if_pos d]; exact h4 z⟩
        simp only [if_pos d, if_pos c5, List.drop_one, List.tail_cons]
        exact h1
      · obtain ⟨m, h1, h2, h3, h4⟩ := meet_loop N hN top ht ((x :: a).length + b.length) (x :: a) b out' la y.f1 rfl (by simp; omega) ⟨a0, a1, a2, a3, a4⟩ b4
        refine ⟨m, ?_, by simp at h2; omega, by rw [if_neg d]; exact h3, fun z => by rw [if_neg d]; exact h4 z⟩
        simp only [if_neg d, if_pos c6, List.drop_one, List.tail_cons]
        exact h1
    by_cases d0 : max x.f0 y.f0 ≤ min x.f1 y.f1
    · obtain ⟨m, h1, h2, h3, h4⟩ := main (out ++ [⟨max x.f0 y.f0, min x.f1 y.f1⟩]) 0 (by simp at hl ⊢; omega)
      refine ⟨⟨max x.f0 y.f0, min x.f1 y.f1⟩ :: m, evSucc (evSucc ?_), by simp; omega, ?_, fun z => ?_⟩
      · simp only [sets_Meet.l0, if_pos c1, c2, sets_Meet.j1, if_true, if_pos c3, if_pos c4, r1, r2, mx_eq, mn_eq, if_pos d0, if_pos hlo, Option.bind_some]
        simpa using h1
      · refine ⟨?_, ?_, ?_, ?_, ?_⟩
        · show 0 ≤ max x.f0 y.f0; omega
        · exact d0
        · show min x.f1 y.f1 ≤ top; omega
        · show max la lb < max x.f0 y.f0 - 1; omega
        · refine ValidFrom.mono ?_ h3
          show min x.f1 y.f1 ≤ _
          split <;> omega
      · rw [List.map_cons, mem_cons, h4 z]
        have e : (L139 ⟨max x.f0 y.f0, min x.f1 y.f1⟩).1 = max x.f0 y.f0 ∧ (L139 ⟨max x.f0 y.f0, min x.f1 y.f1⟩).2 = min x.f1 y.f1 := ⟨rfl, rfl⟩
        rw [e.1, e.2]
        have ga : ∀ z, Mem (a.map L139) z → x.f1 + 1 < z := fun z h => ValidFrom.gt a4 h
        have gb : ∀ z, Mem (b.map L139) z → y.f1 + 1 < z := fun z h => ValidFrom.gt b4 h
        simp only [List.map_cons, mem_cons, ex.1, ex.2, ey.1, ey.2]
        by_cases d : x.f1 < y.f1
        · simp only [if_pos d]
          constructor
          · rintro (h | ⟨h, h'⟩)
            · exact ⟨.inl (by omega), .inl (by omega)⟩
            · exact ⟨.inr h, h'⟩
          · rintro ⟨h | h, h'⟩
            · rcases h' with h' | h'
              · exact .inl (by omega)
              · have := gb z h'; omega
            · exact .inr ⟨h, h'⟩
        · simp only [if_neg d]
          constructor
          · rintro (h | ⟨h, h'⟩)
            · exact ⟨.inl (by omega), .inl (by omega)⟩
            · exact ⟨h, .inr h'⟩
          · rintro ⟨h, h' | h'⟩
            · rcases h with h | h
              · exact .inl (by omega)
              · have := ga z h; omega
            · exact .inr ⟨h, h'⟩
    · obtain ⟨m, h1, h2, h3, h4⟩ := main out 0 (by simp at hl; omega)
      refine ⟨m, evSucc (evSucc ?_), by simp; omega, ?_, fun z => ?_⟩
      · simp only [sets_Meet.l0, if_pos c1, c2, sets_Meet.j1, if_true, if_pos c3, if_pos c4, r1, r2, mx_eq, mn_eq, if_neg d0]
        exact h1
      · refine ValidFrom.mono ?_ h3
        split <;> omega
      · rw [h4 z]
        have ga : ∀ z, Mem (a.map L139) z → x.f1 + 1 < z := fun z h => ValidFrom.gt a4 h
        have gb : ∀ z, Mem (b.map L139) z → y.f1 + 1 < z := fun z h => ValidFrom.gt b4 h
        simp only [List.map_cons, mem_cons, ex.1, ex.2, ey.1, ey.2]
        by_cases d : x.f1 < y.f1
        · simp only [if_pos d]
          constructor
          · rintro ⟨h, h'⟩
            exact ⟨.inr h, h'⟩
          · rintro ⟨h | h, h'⟩
            · rcases h' with h' | h'
              · omega
              · have := gb z h'; omega
            · exact ⟨h, h'⟩
        · simp only [if_neg d]
          constructor
          · rintro ⟨h, h'⟩
            exact ⟨h, .inr h'⟩
          · rintro ⟨h, h' | h'⟩
            · rcases h with h | h
              · omega
              · have := ga z h; omega
            · exact ⟨h, h'⟩
termination_by n a b => a.length + b.length
theorem meet_is (top : Int) (ht : top ≤ 1073741823) (a b : List S139) (hl : a.length + b.length ≤ 8796093022206) (ha : ValidFrom top (-2) (a.map L139)) (hb : ValidFrom top (-2) (b.map L139)) :
    ∃ m, Ev (fun k => sets_Meet.f k a b) m ∧ m.length ≤ a.length + b.length ∧ ValidFrom top (-2) (m.map L139) ∧ ∀ x, Mem (m.map L139) x ↔ Mem (a.map L139) x ∧ Mem (b.map L139) x := by
  obtain ⟨m, h1, h2, h3, h4⟩ := meet_loop (a.length + b.length) hl top ht _ a b [] (-2) (-2) rfl (by simp) ha hb
  exact ⟨m, by simpa [sets_Meet.f] using h1, h2, by simpa using h3, h4⟩
theorem scalars_Union_is (a b : List S102) (ha : a.length * 16 ≤ 140737488351232) (hb : b.length * 16 ≤ 140737488351232) : ∃ r, Ev (fun k => scalars_Union.f k a b) r ∧ scalars_IsSet r (fun x => Mem (setL 1073741823 (a.map L102)) x ∨ Mem (setL 1073741823 (b.map L102)) x) := by
  obtain ⟨s, h1, h2⟩ := scalars_set_is a ha
  obtain ⟨hv, hn⟩ := scalars_set_facts h2
  obtain ⟨t, g1, g2⟩ := scalars_set_is b hb
  obtain ⟨gv, gn⟩ := scalars_set_facts g2
  obtain ⟨m, w, k1, k2, k3, k4⟩ := norm_is 1073741823 (by omega) (s ++ t) (by simp; omega) (fun r hr => by
    rcases List.mem_append.1 hr with hr | hr
    · exact hv.each (L139 r) (List.mem_map.2 ⟨r, hr, rfl⟩)
    · exact gv.each (L139 r) (List.mem_map.2 ⟨r, hr, rfl⟩))
  obtain ⟨r, q1, q2⟩ := scalars_out (p := fun x => Mem (setL 1073741823 (a.map L102)) x ∨ Mem (setL 1073741823 (b.map L102)) x) k3 (fun x => by rw [k4 x, List.map_append, mem_append, h2, g2])
  refine ⟨r, Ev.bind h1 (Ev.bind g1 ?_), q2⟩
  simp only [if_pos (show s.length + t.length < 8796093022208 by omega)]
  exact Ev.bind k1 (Ev.bind q1 (evNow _))
theorem scalars_Meet_is (a b : List S102) (ha : a.length * 16 ≤ 140737488351232) (hb : b.length * 16 ≤ 140737488351232) : ∃ r, Ev (fun k => scalars_Meet.f k a b) r ∧ scalars_IsSet r (fun x => Mem (setL 1073741823 (a.map L102)) x ∧ Mem (setL 1073741823 (b.map L102)) x) := by
  obtain ⟨s, h1, h2⟩ := scalars_set_is a ha
  obtain ⟨hv, hn⟩ := scalars_set_facts h2
  obtain ⟨t, g1, g2⟩ := scalars_set_is b hb
  obtain ⟨gv, gn⟩ := scalars_set_facts g2
  obtain ⟨m, k1, k2, k3, k4⟩ := meet_is 1073741823 (by omega) s t (by omega) hv gv
  obtain ⟨r, q1, q2⟩ := scalars_out (p := fun x => Mem (setL 1073741823 (a.map L102)) x ∧ Mem (setL 1073741823 (b.map L102)) x) k3 (fun x => by rw [k4 x, h2, g2])
  exact ⟨r, Ev.bind h1 (Ev.bind g1 (Ev.bind k1 (Ev.bind q1 (evNow _)))), q2⟩
end Go.Proofs.Ytkcklnmbeinfkaa.PB4
