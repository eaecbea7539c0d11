/- Words and walks of this claim, of the text PQOwns. -/
import Derived.Test.YtddffjhodiengaaKmQx0
import Derived.Test.YtddffjhodiengaaKmQx3
import Derived.Test.YtddffjhodiengaaKmQx4
import Derived.Test.YtddffjhodiengaaKmQx6
import Derived.Test.YtddffjhodiengaaKmQx7
import Derived.Test.YtddffjhodiengaaKmPQSets
import Derived.Test.YtddffjhodiengaaKmPQSets2
import Derived.Test.YtddffjhodiengaaKmPQFixed
import Derived.Test.YtddffjhodiengaaKmPQSame
namespace Go.Proofs.Ytddffjhodiengaa.PQ
open Go.RowKit Go.Proofs.YtddffjhodiengaaW.PrintWords Go.Proofs.YtddffjhodiengaaW.PrintLast Go.Proofs.YtddffjhodiengaaW.PrintMore Go.Proofs.Ytddffjhodiengaa.Q Go.Proofs.LT
set_option linter.unusedVariables false
set_option linter.unusedSimpArgs false
def odds : List S56 := [(⟨(-7), (-8)⟩ : S56), (⟨(-7), (-8)⟩ : S56)]
theorem odds_is : ([(⟨(-7), (-8)⟩ : S56), (⟨(-7), (-8)⟩ : S56)] : List S56) = odds := rfl
theorem odds_len : odds.length = 2 := rfl
theorem rd_left (l t : List S56) (i : Nat) (h : i < l.length) : rd_T56 (l ++ t) (i : Int) = rd_T56 l (i : Int) := by
  simp only [rd_T56, Int.toNat_natCast, List.getD, List.getElem?_append_left h]
theorem rd_odd (l : List S56) (i : Nat) (h1 : l.length ≤ i) (h2 : i < l.length + 2) : rd_T56 (l ++ odds) (i : Int) = ⟨-7, -8⟩ := by
  simp only [rd_T56, Int.toNat_natCast, List.getD, List.getElem?_append_right h1]
  rcases (by omega : i - l.length = 0 ∨ i - l.length = 1) with h | h <;> rw [h] <;> rfl
theorem leadtraillaw04_ScalarsOwns_l1 (l s t u : List S56) (hl : l.length * 16 ≤ 140737488351232) (hU : Ev (fun k => scalars_Union.f k s t) u) (hu : u.length * 16 ≤ 140737488351232) : ∀ (n i : Nat), i + n = l.length + 2 → Ev (fun k => leadtraillaw04_ScalarsOwns.l1 k l s t (l ++ odds) u ((l.length + 2 : Nat) : Int) (i : Int) (-7) (-8)) true
  | 0, i, hi => by
    refine evSucc ?_
    simp only [leadtraillaw04_ScalarsOwns.l1, if_neg (show ¬ (i : Int) < ((l.length + 2 : Nat) : Int) by omega)]
    exact Ev.bind hU (Ev.bind (leadtrailref04_Same_self u hu) (evNow _))
  | n + 1, i, hi => by
    have ih := leadtraillaw04_ScalarsOwns_l1 l s t u hl hU hu n (i + 1) (by omega)
    have hw : Aside0 (wrap64 ((i : Int) + 1) = ((i + 1 : Nat) : Int)) := Aside0.mk (by rw [w64 (by omega) (by omega)]; simp)
    have c0 : (i : Int) < ((l.length + 2 : Nat) : Int) := by omega
    have c1 : (0 : Int) ≤ (i : Int) := by omega
    have c2 : (i : Int) < ((l ++ odds).length : Int) := by rw [List.length_append, odds_len]; omega
    refine evSucc ?_
    by_cases d : i < l.length
    · simp only [leadtraillaw04_ScalarsOwns.l1, if_pos c0, if_pos (show (i : Int) < (l.length : Int) by omega), if_pos c1, if_pos c2, rd_left l odds i d, beq_self_eq_true, Bool.not_true, Bool.or_self, Bool.false_eq_true, if_false, if_neg (show ¬ (i : Int) ≥ (l.length : Int) by omega), hw.out]
      exact ih
    · simp only [leadtraillaw04_ScalarsOwns.l1, if_pos c0, if_neg (show ¬ (i : Int) < (l.length : Int) by omega), if_pos (show (i : Int) ≥ (l.length : Int) by omega), if_pos c1, if_pos c2, rd_odd l i (by omega) (by omega), beq_self_eq_true, Bool.not_true, Bool.or_self, Bool.false_eq_true, if_false, hw.out]
      exact ih
theorem leadtraillaw04_ScalarsOwns_l0 (l m s t u : List S56) (hl : l.length * 16 ≤ 140737488351232) (hm : m.length * 16 ≤ 140737488351232) (hU : Ev (fun k => scalars_Union.f k s t) u) (hu : u.length * 16 ≤ 140737488351232) : ∀ (n i : Nat), i + n = l.length + 2 → Ev (fun k => leadtraillaw04_ScalarsOwns.l0 k l m s t (l ++ odds) (m ++ odds) u ((l.length + 2 : Nat) : Int) (i : Int) (-7) (-8)) true
  | 0, i, hi => by
    refine evSucc ?_
    simp only [leadtraillaw04_ScalarsOwns.l0, if_neg (show ¬ (i : Int) < ((l.length + 2 : Nat) : Int) by omega)]
    have := leadtraillaw04_ScalarsOwns_l1 m s t u hm hU hu (m.length + 2) 0 (by omega)
    rw [List.length_append, odds_len]
    exact this
  | n + 1, i, hi => by
    have ih := leadtraillaw04_ScalarsOwns_l0 l m s t u hl hm hU hu n (i + 1) (by omega)
    have hw : Aside0 (wrap64 ((i : Int) + 1) = ((i + 1 : Nat) : Int)) := Aside0.mk (by rw [w64 (by omega) (by omega)]; simp)
    have c0 : (i : Int) < ((l.length + 2 : Nat) : Int) := by omega
    have c1 : (0 : Int) ≤ (i : Int) := by omega
    have c2 : (i : Int) < ((l ++ odds).length : Int) := by rw [List.length_append, odds_len]; omega
    refine evSucc ?_
    by_cases d : i < l.length
    · simp only [leadtraillaw04_ScalarsOwns.l0, if_pos c0, if_pos (show (i : Int) < (l.length : Int) by omega), if_pos c1, if_pos c2, rd_left l odds i d, beq_self_eq_true, Bool.not_true, Bool.or_self, Bool.false_eq_true, if_false, if_neg (show ¬ (i : Int) ≥ (l.length : Int) by omega), hw.out]
      exact ih
    · simp only [leadtraillaw04_ScalarsOwns.l0, if_pos c0, if_neg (show ¬ (i : Int) < (l.length : Int) by omega), if_pos (show (i : Int) ≥ (l.length : Int) by omega), if_pos c1, if_pos c2, rd_odd l i (by omega) (by omega), beq_self_eq_true, Bool.not_true, Bool.or_self, Bool.false_eq_true, if_false, hw.out]
      exact ih
theorem leadtraillaw04_ScalarsOwns_ev (l m : List S56) (hl : l.length * 16 ≤ 140737488351232) (hm : m.length * 16 ≤ 140737488351232) : Ev (fun k => leadtraillaw04_ScalarsOwns.f k l m) true := by
  have big : ∀ {r : List S56} {p : Int → Prop}, scalars_IsSet r p → r.length ≤ 1073741824 := fun h => h.2.1
  obtain ⟨s, si, se, n1, n2⟩ : ∃ s i e, Ev (fun k => scalars_Norm.f k l) (s, i, e) ∧ s.length ≤ 1073741824 := by
    have h := scalars_Norm_is l hl
    cases hb : l.findIdx? scalars_badP with
    | some i => exact ⟨_, _, _, h.1 i hb, by simp⟩
    | none => obtain ⟨s, g1, g2⟩ := h.2 hb; exact ⟨_, _, _, g1, big g2⟩
  obtain ⟨u, u1, u2⟩ := scalars_Union_is l m hl hm
  obtain ⟨e, e1, e2⟩ := scalars_Meet_is l m hl hm
  obtain ⟨d, d1, d2⟩ := scalars_Minus_is l m hl hm
  obtain ⟨n, o1, o2⟩ := scalars_Not_is l hl
  obtain ⟨v, v1, v2⟩ := scalars_Union_is l [] hl (by simp)
  obtain ⟨f, f1, f2⟩ := scalars_Meet_is l l hl hl
  have ul : u.length * 16 ≤ 140737488351232 := by have := big u2; omega
  have a1 : l.length + odds.length < 8796093022208 := by rw [odds_len]; omega
  have a2 : m.length + odds.length < 8796093022208 := by rw [odds_len]; omega
  have b1 : (l.length : Int) ≤ ((l ++ odds).length : Int) := by rw [List.length_append]; omega
  have b2 : (m.length : Int) ≤ ((m ++ odds).length : Int) := by rw [List.length_append]; omega
  have t1 : (l ++ odds).take ((l.length : Int) : Int).toNat = l := by rw [Int.toNat_natCast]; exact List.take_left
  have t2 : (m ++ odds).take ((m.length : Int) : Int).toNat = m := by rw [Int.toNat_natCast]; exact List.take_left
  have own : leadtrailmem_OwnRanges.f [s, u, e, d, n, v, f] = some true := by
    have k1 := n2; have k2 := big u2; have k3 := big e2; have k4 := big d2; have k5 := big o2; have k6 := big v2; have k7 := big f2
    unfold leadtrailmem_OwnRanges.f
    rw [if_pos (by simp), if_pos (by simp; omega)]
  simp only [leadtraillaw04_ScalarsOwns.f]
  refine Ev.bind fixed04 ?_
  simp only [if_true, copied04 l hl, copied04 m hm, Option.bind_some, odds_is, if_pos a1, if_pos a2, if_pos (show (0 : Int) ≤ (l.length : Int) by omega), if_pos (show (0 : Int) ≤ (m.length : Int) by omega), if_pos b1, if_pos b2, t1, t2]
  refine Ev.bind n1 (Ev.bind u1 (Ev.bind e1 (Ev.bind d1 (Ev.bind o1 (Ev.bind v1 (Ev.bind f1 ?_))))))
  have c1 : (1 : Int) < ((([s, u, e, d, n, v, f] : List (List S56)).length : Nat) : Int) := by simp
  have c2 : rd_L4 [s, u, e, d, n, v, f] 1 = u := rfl
  simp only [if_pos c1, c2, copied04 u ul, Option.bind_some, own, if_true]
  have := leadtraillaw04_ScalarsOwns_l0 l m l m u hl hm u1 ul (l.length + 2) 0 (by omega)
  rw [show (((l ++ odds).length : Nat) : Int) = ((l.length + 2 : Nat) : Int) by rw [List.length_append, odds_len]]
  exact this
end Go.Proofs.Ytddffjhodiengaa.PQ
namespace Go.Proofs.Ytddffjhodiengaa.Pure
open Go.Proofs.Ytddffjhodiengaa.Q Go.Proofs.YtddffjhodiengaaW.PrintWords
theorem ScalarsOwns : ∀ (l0 : List S56) (l1 : List S56), (l0.length * 16 ≤ 140737488351232 ∧ ∀ x ∈ l0, ((Lit.int .i64 x.f0).wf = true ∧ (Lit.int .i64 x.f1).wf = true)) → (l1.length * 16 ≤ 140737488351232 ∧ ∀ x ∈ l1, ((Lit.int .i64 x.f0).wf = true ∧ (Lit.int .i64 x.f1).wf = true)) → ∃ k, leadtraillaw04_ScalarsOwns.f k l0 l1 = some true :=
  fun l0 l1 h h' => Ev.rounds (PQ.leadtraillaw04_ScalarsOwns_ev l0 l1 h.1 h'.1)
end Go.Proofs.Ytddffjhodiengaa.Pure
