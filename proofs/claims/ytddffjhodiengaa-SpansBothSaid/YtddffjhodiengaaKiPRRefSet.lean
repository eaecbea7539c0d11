/- Words and walks of this claim, of the text PRRefSet. -/
import Derived.Test.YtddffjhodiengaaKiRx0
import Derived.Test.YtddffjhodiengaaKiRx5
import Derived.Test.YtddffjhodiengaaKiRx6
import Derived.Test.YtddffjhodiengaaKiRx7
import Derived.Test.YtddffjhodiengaaKiRx9
import Derived.Test.YtddffjhodiengaaKiPRRef03
namespace Go.Proofs.Ytddffjhodiengaa.PR
open Go.RowKit Go.Proofs.YtddffjhodiengaaW.PrintWords Go.Proofs.YtddffjhodiengaaW.PrintLast Go.Proofs.YtddffjhodiengaaW.PrintMore Go.Proofs.Ytddffjhodiengaa.R Go.Proofs.LT
set_option linter.unusedVariables false
set_option linter.unusedSimpArgs false
theorem valid_snoc {top : Int} {r : Run} : ∀ {l : List Run} {last : Int}, ValidFrom top last (l ++ [r]) ↔ (ValidFrom top last l ∧ 0 ≤ r.1 ∧ r.1 ≤ r.2 ∧ r.2 ≤ top ∧ last < r.1 - 1 ∧ ∀ q ∈ l, q.2 < r.1 - 1)
  | [], last => by simp [ValidFrom]
  | q :: t, last => by
    have ih := valid_snoc (top := top) (r := r) (l := t) (last := q.2)
    rw [List.cons_append]
    show (0 ≤ q.1 ∧ q.1 ≤ q.2 ∧ q.2 ≤ top ∧ last < q.1 - 1 ∧ ValidFrom top q.2 (t ++ [r])) ↔ ((0 ≤ q.1 ∧ q.1 ≤ q.2 ∧ q.2 ≤ top ∧ last < q.1 - 1 ∧ ValidFrom top q.2 t) ∧ _)
    rw [ih]
    constructor
    · rintro ⟨h0, h1, h2, h3, h4, h5, h6, h7, h8, h9⟩
      refine ⟨⟨h0, h1, h2, h3, h4⟩, h5, h6, h7, by omega, fun x hx => ?_⟩
      rcases List.mem_cons.1 hx with rfl | hx
      · exact h8
      · exact h9 x hx
    · rintro ⟨⟨h0, h1, h2, h3, h4⟩, h5, h6, h7, h8, h9⟩
      exact ⟨h0, h1, h2, h3, h4, h5, h6, h7, h9 q List.mem_cons_self, fun x hx => h9 x (List.mem_cons_of_mem _ hx)⟩
theorem rd_last (l : List S49) (q : S49) : rd_T49 (l ++ [q]) ((l ++ [q]).length - 1 : Nat) = q := by simp [rd_T49]
theorem snoc_of {α : Type} : ∀ {l : List α}, 0 < l.length → ∃ i q, l = i ++ [q] := fun {l} h => ⟨l.dropLast, l.getLast (by intro e; rw [e] at h; exact absurd h (by simp)), (List.dropLast_concat_getLast _).symm⟩
theorem setP_spec (p : Nat → Bool) : ∀ n, n ≤ 256 → ValidFrom 255 (-2) ((setP p n).map L49) ∧ (∀ x : Int, Mem ((setP p n).map L49) x ↔ (0 ≤ x ∧ x < n ∧ p x.toNat = true))
  | 0, _ => ⟨trivial, fun x => ⟨fun h => (Mem.nil h).elim, fun h => by omega⟩⟩
  | n + 1, hn => by
    obtain ⟨hv, hm⟩ := setP_spec p n (by omega)
    by_cases hp : p n = true
    · by_cases c : 0 < n ∧ p (n - 1) = true
      · have hpos : 0 < (setP p n).length := by
          have := (hm ((n - 1 : Nat) : Int)).2 ⟨by omega, by omega, by rw [Int.toNat_natCast]; exact c.2⟩
          rcases Nat.eq_zero_or_pos (setP p n).length with h | h
          · rw [List.eq_nil_of_length_eq_zero h] at this; exact (Mem.nil this).elim
          · exact h
        obtain ⟨i, q, e⟩ := snoc_of hpos
        have e1 : setP p (n + 1) = i ++ [⟨q.f0, n⟩] := by
          rw [setP, if_pos hp, if_pos c, e, rd_last]
          simp
        rw [e, List.map_append] at hv hm
        rw [e1, List.map_append]
        have hs := valid_snoc.1 (show ValidFrom 255 (-2) (i.map L49 ++ [L49 q]) from hv)
        have eL : (L49 q).1 = q.f0 ∧ (L49 q).2 = q.f1 := ⟨rfl, rfl⟩
        rw [eL.1, eL.2] at hs
        obtain ⟨s0, s1, s2, s3, s4, s5⟩ := hs
        have one : ∀ {r : S49} {x : Int}, Mem ([r].map L49) x ↔ (r.f0 ≤ x ∧ x ≤ r.f1) := fun {r x} => by
          show Mem [L49 r] x ↔ _
          rw [mem_cons]
          exact ⟨fun h => by rcases h with h | h; exact h; exact (Mem.nil h).elim, fun h => .inl h⟩
        have hq : q.f1 = (n : Int) - 1 := by
          have h1 := (hm q.f1).1 (mem_append.2 (.inr (one.2 ⟨s2, by omega⟩)))
          have h2 := (hm ((n - 1 : Nat) : Int)).2 ⟨by omega, by omega, by rw [Int.toNat_natCast]; exact c.2⟩
          rcases mem_append.1 h2 with h2 | h2
          · obtain ⟨r, hr, h3, h4⟩ := h2
            have := s5 r hr; omega
          · have := one.1 h2; omega
        refine ⟨valid_snoc.2 ⟨s0, s1, ?_, ?_, s4, s5⟩, fun x => ?_⟩
        · show q.f0 ≤ (n : Int); omega
        · show (n : Int) ≤ 255; omega
        · rw [mem_append, one]
          have h := hm x
          rw [mem_append, one] at h
          by_cases cx : x = (n : Int)
          · subst cx
            refine ⟨fun _ => ⟨by omega, by omega, by rw [Int.toNat_natCast]; exact hp⟩, fun _ => .inr ⟨by show q.f0 ≤ (n : Int); omega, Int.le_refl _⟩⟩
          · constructor
            · rintro (g | g)
              · have := h.1 (.inl g); exact ⟨this.1, by omega, this.2.2⟩
              · have := h.1 (.inr ⟨g.1, by have := g.2; show x ≤ q.f1; rw [hq]; have : x ≤ (n : Int) := this; omega⟩); exact ⟨this.1, by omega, this.2.2⟩
            · rintro ⟨g1, g2, g3⟩
              rcases h.2 ⟨g1, by omega, g3⟩ with g | g
              · exact .inl g
              · exact .inr ⟨g.1, by show x ≤ (n : Int); omega⟩
      · have e1 : setP p (n + 1) = setP p n ++ [⟨n, n⟩] := by rw [setP, if_pos hp, if_neg c]
        rw [e1, List.map_append]
        have one : ∀ {x : Int}, Mem ([(⟨n, n⟩ : S49)].map L49) x ↔ x = n := fun {x} => by
          show Mem [((n : Int), (n : Int))] x ↔ _
          rw [mem_cons]
          exact ⟨fun h => by rcases h with h | h; exact Int.le_antisymm h.2 h.1; exact (Mem.nil h).elim, fun h => .inl ⟨by show (n : Int) ≤ x; omega, by show x ≤ (n : Int); omega⟩⟩
        refine ⟨valid_snoc.2 ⟨hv, by show (0 : Int) ≤ (n : Int); omega, Int.le_refl _, by show (n : Int) ≤ 255; omega, by show (-2 : Int) < (n : Int) - 1; omega, fun q hq => ?_⟩, fun x => ?_⟩
        · show q.2 < (n : Int) - 1
          have hr := hv.each q hq
          have h1 := (hm q.2).1 ⟨q, hq, hr.2.1, Int.le_refl _⟩
          rcases (by omega : q.2 < (n : Int) - 1 ∨ (n : Int) - 1 ≤ q.2) with h | h
          · exact h
          · refine (c ⟨by omega, ?_⟩).elim
            have e : q.2.toNat = n - 1 := by omega
            rw [← e]; exact h1.2.2
        · rw [mem_append, one, hm x]
          constructor
          · rintro (g | rfl)
            · exact ⟨g.1, by omega, g.2.2⟩
            · exact ⟨by omega, by omega, by rw [Int.toNat_natCast]; exact hp⟩
          · rintro ⟨g1, g2, g3⟩
            by_cases cx : x = n
            · exact .inr cx
            · exact .inl ⟨g1, by omega, g3⟩
    · have e1 : setP p (n + 1) = setP p n := by rw [setP, if_neg hp]
      rw [e1]
      refine ⟨hv, fun x => ?_⟩
      rw [hm x]
      constructor
      · rintro ⟨g1, g2, g3⟩; exact ⟨g1, by omega, g3⟩
      · rintro ⟨g1, g2, g3⟩
        refine ⟨g1, ?_, g3⟩
        rcases (by omega : x < (n : Int) ∨ (n : Int) ≤ x) with h | h
        · exact h
        · have e : x.toNat = n := by omega
          rw [e] at g3; exact (hp g3).elim
theorem setP_is (p : Nat → Bool) (q : Int → Prop) (h : ∀ x : Int, (0 ≤ x ∧ x < 256 ∧ p x.toNat = true) ↔ q x) : spans_IsSet (setP p 256) q := by
  obtain ⟨hv, hm⟩ := setP_spec p 256 (Nat.le_refl _)
  refine ⟨hv, ?_, fun x => by rw [hm x]; exact h x⟩
  have := valid_len' hv (by omega) (by omega)
  simpa using this
theorem memb_mem {l : List S49} {p : Nat → Bool} (h : ∀ i : Nat, p i = memB (setL 255 (l.map L49)) i) (x : Int) : (0 ≤ x ∧ p x.toNat = true) ↔ Mem (setL 255 (l.map L49)) x := by
  constructor
  · rintro ⟨h0, h1⟩
    rw [h, memB_iff, Int.toNat_of_nonneg h0] at h1; exact h1
  · intro hx
    have hr := (setL_valid 255 (l.map L49)).range hx
    exact ⟨hr.1, by rw [h, memB_iff, Int.toNat_of_nonneg hr.1]; exact hx⟩
theorem refUnion_is (l m : List S49) (hl : l.length * 16 ≤ 140737488351232) (hm : m.length * 16 ≤ 140737488351232) : ∃ r, Ev (fun k => leadtrailref03_Union.f k l m) r ∧ spans_IsSet r (fun x => Mem (setL 255 (l.map L49)) x ∨ Mem (setL 255 (m.map L49)) x) := by
  obtain ⟨p, p1, p2⟩ := memb_is l hl
  obtain ⟨q, q1, q2⟩ := memb_is m hm
  refine ⟨_, Ev.bind p1 (Ev.bind q1 (evNow _)), setP_is _ _ fun x => ?_⟩
  rw [← memb_mem p2, ← memb_mem q2, Bool.or_eq_true]
  constructor
  · rintro ⟨a, b, c | c⟩
    · exact .inl ⟨a, c⟩
    · exact .inr ⟨a, c⟩
  · intro h
    have hx : 0 ≤ x ∧ x < 256 := by
      rcases h with h | h
      · have := (setL_valid 255 (l.map L49)).range ((memb_mem p2 x).1 h); omega
      · have := (setL_valid 255 (m.map L49)).range ((memb_mem q2 x).1 h); omega
    exact ⟨hx.1, hx.2, h.imp (·.2) (·.2)⟩
theorem refMeet_is (l m : List S49) (hl : l.length * 16 ≤ 140737488351232) (hm : m.length * 16 ≤ 140737488351232) : ∃ r, Ev (fun k => leadtrailref03_Meet.f k l m) r ∧ spans_IsSet r (fun x => Mem (setL 255 (l.map L49)) x ∧ Mem (setL 255 (m.map L49)) x) := by
  obtain ⟨p, p1, p2⟩ := memb_is l hl
  obtain ⟨q, q1, q2⟩ := memb_is m hm
  refine ⟨_, Ev.bind p1 (Ev.bind q1 (evNow _)), setP_is _ _ fun x => ?_⟩
  rw [← memb_mem p2, ← memb_mem q2, Bool.and_eq_true]
  constructor
  · rintro ⟨a, b, c, d⟩; exact ⟨⟨a, c⟩, ⟨a, d⟩⟩
  · rintro ⟨⟨a, c⟩, ⟨_, d⟩⟩
    have := (setL_valid 255 (l.map L49)).range ((memb_mem p2 x).1 ⟨a, c⟩)
    exact ⟨a, by omega, c, d⟩
theorem refMinus_is (l m : List S49) (hl : l.length * 16 ≤ 140737488351232) (hm : m.length * 16 ≤ 140737488351232) : ∃ r, Ev (fun k => leadtrailref03_Minus.f k l m) r ∧ spans_IsSet r (fun x => Mem (setL 255 (l.map L49)) x ∧ ¬ Mem (setL 255 (m.map L49)) x) := by
  obtain ⟨p, p1, p2⟩ := memb_is l hl
  obtain ⟨q, q1, q2⟩ := memb_is m hm
  refine ⟨_, Ev.bind p1 (Ev.bind q1 (evNow _)), setP_is _ _ fun x => ?_⟩
  rw [← memb_mem p2, ← memb_mem q2, Bool.and_eq_true, Bool.not_eq_true']
  constructor
  · rintro ⟨a, b, c, d⟩; exact ⟨⟨a, c⟩, fun h => by rw [d] at h; exact absurd h.2 (by simp)⟩
  · rintro ⟨⟨a, c⟩, d⟩
    have := (setL_valid 255 (l.map L49)).range ((memb_mem p2 x).1 ⟨a, c⟩)
    refine ⟨a, by omega, c, ?_⟩
    cases hq : q x.toNat
    · rfl
    · exact (d ⟨a, hq⟩).elim
theorem refNot_is (l : List S49) (hl : l.length * 16 ≤ 140737488351232) : ∃ r, Ev (fun k => leadtrailref03_Not.f k l) r ∧ spans_IsSet r (fun x => (0 ≤ x ∧ x ≤ 255) ∧ ¬ Mem (setL 255 (l.map L49)) x) := by
  obtain ⟨r, h1, h2, h3, h4⟩ := refMinus_is [⟨0, 255⟩] l (by simp) hl
  refine ⟨r, Ev.bind h1 (evNow _), h2, h3, fun x => ?_⟩
  rw [h4]
  have e1 : setL 255 (([⟨0, 255⟩] : List S49).map L49) = [(0, 255)] := setL_of (show ValidFrom 255 (-2) [(0, 255)] from ⟨by omega, by omega, by omega, by omega, trivial⟩)
  have e3 : Mem [((0 : Int), (255 : Int))] x ↔ (0 ≤ x ∧ x ≤ 255) := by
    rw [mem_cons]
    exact ⟨fun h => by rcases h with h | h; exact h; exact (Mem.nil h).elim, fun h => .inl h⟩
  show (Mem (setL 255 (([⟨0, 255⟩] : List S49).map L49)) x ∧ _) ↔ _
  rw [e1, e3]
end Go.Proofs.Ytddffjhodiengaa.PR
