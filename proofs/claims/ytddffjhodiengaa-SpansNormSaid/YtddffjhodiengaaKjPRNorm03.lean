/- Words and walks of this claim, of the text PRNorm03. -/
import Derived.Test.YtddffjhodiengaaKjRx0
import Derived.Test.YtddffjhodiengaaKjRx7
import Derived.Test.YtddffjhodiengaaKjPRRefSet
import Derived.Test.YtddffjhodiengaaKjPRSame
namespace Go.Proofs.Ytddffjhodiengaa.PR
open Go.RowKit Go.Proofs.YtddffjhodiengaaW.PrintWords Go.Proofs.YtddffjhodiengaaW.PrintLast Go.Proofs.YtddffjhodiengaaW.PrintMore Go.Proofs.Ytddffjhodiengaa.R Go.Proofs.LT
set_option linter.unusedVariables false
set_option linter.unusedSimpArgs false
theorem leadtraillaw03_SpansNorm_j0 {s : List S49} {p : Int → Prop} (hs : spans_IsSet s p) : Ev (fun k => leadtraillaw03_SpansNorm.j0 k s false) true := by
  have ls : s.length * 16 ≤ 140737488351232 := by have := hs.2.1; omega
  have hb : s.findIdx? spans_badP = none := List.findIdx?_eq_none_iff.2 fun r hr => by
    have := hs.1.each (L49 r) (List.mem_map.2 ⟨r, hr, rfl⟩)
    have e : (L49 r).1 = r.f0 ∧ (L49 r).2 = r.f1 := ⟨rfl, rfl⟩
    rw [e.1, e.2] at this
    simp only [spans_badP, Bool.or_eq_false_iff, decide_eq_false_iff_not]
    omega
  obtain ⟨r, h1, h2⟩ := (spans_Norm_is s ls).2 hb
  obtain rfl : r = s := spans_IsSet.uniq h2 hs hs.2.2
  refine evSucc ?_
  simp only [leadtraillaw03_SpansNorm.j0, Bool.false_eq_true, if_false, copied03 r ls, Option.bind_some]
  refine Ev.bind h1 ?_
  simp only [if_true]
  exact Ev.bind (leadtrailref03_Same_self r ls) (evNow _)
theorem leadtraillaw03_SpansNorm_ev (l : List S49) (hl : l.length * 16 ≤ 140737488351232) : Ev (fun k => leadtraillaw03_SpansNorm.f k l) true := by
  simp only [leadtraillaw03_SpansNorm.f]
  refine Ev.bind fixed03 ?_
  simp only [if_true, copied03 l hl, Option.bind_some]
  have h1 := spans_Norm_is l hl
  have h2 := refNorm03_is l hl
  cases hb : l.findIdx? spans_badP with
  | some i =>
    simp only [h2.1 i hb, Option.bind_some]
    refine Ev.bind (h1.1 i hb) (Ev.bind (leadtrailref03_Same_self [] (by simp)) ?_)
    simp only [if_true]
    have hv := spans_Valid_is [] (by simp)
    rw [List.map_nil, validB_nil] at hv
    refine Ev.bind hv ?_
    simp only [Bool.not_true]
    exact leadtraillaw03_SpansNorm_j0 (p := fun _ => False) ⟨trivial, by simp, fun x => ⟨fun h => Mem.nil h, fun h => h.elim⟩⟩
  | none =>
    obtain ⟨s, g1, g2⟩ := h1.2 hb
    obtain ⟨t, k1, k2⟩ := h2.2 hb
    obtain rfl : t = s := spans_IsSet.uniq k2 g2 fun _ => Iff.rfl
    have ls : t.length * 16 ≤ 140737488351232 := by have := g2.2.1; omega
    simp only [k1, Option.bind_some]
    refine Ev.bind g1 (Ev.bind (leadtrailref03_Same_self t ls) ?_)
    simp only [if_true]
    have hv := spans_Valid_is t ls
    rw [(validB_iff _ _ _).2 g2.1] at hv
    refine Ev.bind hv ?_
    simp only [Bool.not_true]
    exact leadtraillaw03_SpansNorm_j0 g2
end Go.Proofs.Ytddffjhodiengaa.PR
namespace Go.Proofs.Ytddffjhodiengaa.Pure
open Go.Proofs.Ytddffjhodiengaa.R Go.Proofs.YtddffjhodiengaaW.PrintWords
theorem SpansNorm : ∀ (l0 : List S49), (l0.length * 16 ≤ 140737488351232 ∧ ∀ x ∈ l0, ((Lit.int .i64 x.f0).wf = true ∧ (Lit.int .i64 x.f1).wf = true)) → ∃ k, leadtraillaw03_SpansNorm.f k l0 = some true :=
  fun l0 h => Ev.rounds (PR.leadtraillaw03_SpansNorm_ev l0 h.1)
end Go.Proofs.Ytddffjhodiengaa.Pure
