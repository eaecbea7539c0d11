/- Words and walks of this claim, of the text PRBoth03. -/
import Derived.Test.YtddffjhodiengaaKiRx0
import Derived.Test.YtddffjhodiengaaKiRx9
import Derived.Test.YtddffjhodiengaaKiPRRefSet
import Derived.Test.YtddffjhodiengaaKiPRSets2
import Derived.Test.YtddffjhodiengaaKiPRSame
namespace Go.Proofs.Ytddffjhodiengaa.PR
open Go.RowKit Go.Proofs.YtddffjhodiengaaW.PrintWords Go.Proofs.YtddffjhodiengaaW.PrintLast Go.Proofs.YtddffjhodiengaaW.PrintMore Go.Proofs.Ytddffjhodiengaa.R Go.Proofs.LT
set_option linter.unusedVariables false
set_option linter.unusedSimpArgs false
theorem leadtraillaw03_SpansBoth_ev (l m : List S49) (hl : l.length * 16 ≤ 140737488351232) (hm : m.length * 16 ≤ 140737488351232) : Ev (fun k => leadtraillaw03_SpansBoth.f k l m) true := by
  simp only [leadtraillaw03_SpansBoth.f]
  refine Ev.bind fixed03 ?_
  simp only [if_true, copied03 l hl, copied03 m hm, Option.bind_some]
  have small : ∀ {r : List S49} {p : Int → Prop}, spans_IsSet r p → r.length * 16 ≤ 140737488351232 := fun h => by have := h.2.1; omega
  obtain ⟨u, u1, u2⟩ := spans_Union_is l m hl hm
  obtain ⟨u', u3, u4⟩ := refUnion_is l m hl hm
  obtain rfl : u = u' := spans_IsSet.uniq u2 u4 fun x => Iff.rfl
  obtain ⟨e, e1, e2⟩ := spans_Meet_is l m hl hm
  obtain ⟨e', e3, e4⟩ := refMeet_is l m hl hm
  obtain rfl : e = e' := spans_IsSet.uniq e2 e4 fun x => Iff.rfl
  obtain ⟨d, d1, d2⟩ := spans_Minus_is l m hl hm
  obtain ⟨d', d3, d4⟩ := refMinus_is l m hl hm
  obtain rfl : d = d' := spans_IsSet.uniq d2 d4 fun x => Iff.rfl
  obtain ⟨n, n1, n2⟩ := spans_Not_is l hl
  obtain ⟨n', n3, n4⟩ := refNot_is l hl
  obtain rfl : n = n' := spans_IsSet.uniq n2 n4 fun x => Iff.rfl
  refine Ev.bind u1 (Ev.bind u3 (Ev.bind (leadtrailref03_Same_self u (small u2)) ?_))
  simp only [if_true]
  refine Ev.bind e1 (Ev.bind e3 (Ev.bind (leadtrailref03_Same_self e (small e2)) ?_))
  simp only [if_true]
  refine Ev.bind d1 (Ev.bind d3 (Ev.bind (leadtrailref03_Same_self d (small d2)) ?_))
  simp only [if_true]
  exact Ev.bind n1 (Ev.bind n3 (Ev.bind (leadtrailref03_Same_self n (small n2)) (evNow _)))
end Go.Proofs.Ytddffjhodiengaa.PR
namespace Go.Proofs.Ytddffjhodiengaa.Pure
open Go.Proofs.Ytddffjhodiengaa.R Go.Proofs.YtddffjhodiengaaW.PrintWords
theorem SpansBoth : ∀ (l0 : List S49) (l1 : List S49), (l0.length * 16 ≤ 140737488351232 ∧ ∀ x ∈ l0, ((Lit.int .i64 x.f0).wf = true ∧ (Lit.int .i64 x.f1).wf = true)) → (l1.length * 16 ≤ 140737488351232 ∧ ∀ x ∈ l1, ((Lit.int .i64 x.f0).wf = true ∧ (Lit.int .i64 x.f1).wf = true)) → ∃ k, leadtraillaw03_SpansBoth.f k l0 l1 = some true :=
  fun l0 l1 h h' => Ev.rounds (PR.leadtraillaw03_SpansBoth_ev l0 l1 h.1 h'.1)
end Go.Proofs.Ytddffjhodiengaa.Pure
