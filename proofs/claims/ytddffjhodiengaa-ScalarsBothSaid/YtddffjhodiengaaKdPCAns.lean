/- Words and walks of this claim, of the text PCAns. -/
import Derived.Test.YtddffjhodiengaaKdCx0
import Derived.Test.YtddffjhodiengaaKdCx9
import Derived.Test.YtddffjhodiengaaKdCx11
import Derived.Test.YtddffjhodiengaaKdCx13
import Derived.Test.YtddffjhodiengaaKdCx8
import Derived.Test.YtddffjhodiengaaKdPCSets
import Derived.Test.YtddffjhodiengaaKdPCSets2
import Derived.Test.YtddffjhodiengaaKdPCRefComb
import Derived.Test.YtddffjhodiengaaKdPCFixed
import Derived.Test.YtddffjhodiengaaKdPCSame
import Derived.Test.YtddffjhodiengaaKdCx5
namespace Go.Proofs.Ytddffjhodiengaa.PC
open Go.RowKit Go.Proofs.YtddffjhodiengaaW.PrintWords Go.Proofs.YtddffjhodiengaaW.PrintLast Go.Proofs.YtddffjhodiengaaW.PrintMore Go.Proofs.Ytddffjhodiengaa.C Go.Proofs.LT
set_option linter.unusedVariables false
set_option linter.unusedSimpArgs false
theorem leadtraillaw04_ScalarsBoth_ev (l m : List S56) (hl : l.length * 16 ≤ 140737488351232) (hm : m.length * 16 ≤ 140737488351232) : Ev (fun k => leadtraillaw04_ScalarsBoth.f k l m) true := by
  simp only [leadtraillaw04_ScalarsBoth.f]
  refine Ev.bind fixed04 ?_
  simp only [if_true, copied04 l hl, copied04 m hm, Option.bind_some]
  have wan : ∀ (bo fi se A B : Bool), (want bo fi se A B = true) = ((A = true ∧ B = true ∧ bo = true) ∨ (A = true ∧ B = false ∧ fi = true) ∨ (A = false ∧ B = true ∧ se = true)) := by decide
  have nm : ∀ {s : List Run} {x : Int}, (memB s x = false) = ¬ Mem s x := fun {s x} => by rw [← memB_iff]; simp
  have small : ∀ {r : List S56} {p : Int → Prop}, scalars_IsSet r p → r.length * 16 ≤ 140737488351232 := fun h => by have := h.2.1; omega
  obtain ⟨u, u1, u2⟩ := scalars_Union_is l m hl hm
  obtain ⟨u', u3, u4⟩ := comb_is l m hl hm true true true
  obtain rfl : u = u' := scalars_IsSet.uniq u2 u4 fun x => by
    rw [wan]; simp only [memB_iff, nm]
    by_cases h1 : Mem (setL 1073741823 (l.map L56)) x <;> by_cases h2 : Mem (setL 1073741823 (m.map L56)) x <;> simp [h1, h2]
  obtain ⟨e, e1, e2⟩ := scalars_Meet_is l m hl hm
  obtain ⟨e', e3, e4⟩ := comb_is l m hl hm true false false
  obtain rfl : e = e' := scalars_IsSet.uniq e2 e4 fun x => by
    rw [wan]; simp only [memB_iff, nm]
    by_cases h1 : Mem (setL 1073741823 (l.map L56)) x <;> by_cases h2 : Mem (setL 1073741823 (m.map L56)) x <;> simp [h1, h2]
  obtain ⟨d, d1, d2⟩ := scalars_Minus_is l m hl hm
  obtain ⟨d', d3, d4⟩ := comb_is l m hl hm false true false
  obtain rfl : d = d' := scalars_IsSet.uniq d2 d4 fun x => by
    rw [wan]; simp only [memB_iff, nm]
    by_cases h1 : Mem (setL 1073741823 (l.map L56)) x <;> by_cases h2 : Mem (setL 1073741823 (m.map L56)) x <;> simp [h1, h2]
  obtain ⟨n, n1, n2⟩ := scalars_Not_is l hl
  obtain ⟨n', n3, n4⟩ := comb_is [⟨0, 1073741823⟩] l (by simp) hl false true false
  obtain rfl : n = n' := scalars_IsSet.uniq n2 n4 fun x => by
    have e1 : setL 1073741823 (([⟨0, 1073741823⟩] : List S56).map L56) = [(0, 1073741823)] := setL_of (show ValidFrom 1073741823 (-2) [(0, 1073741823)] from ⟨by omega, by omega, by omega, by omega, trivial⟩)
    have e3 : Mem [((0 : Int), (1073741823 : Int))] x ↔ (0 ≤ x ∧ x ≤ 1073741823) := by
      rw [mem_cons]
      exact ⟨fun h => by rcases h with h | h; exact h; exact (Mem.nil h).elim, fun h => .inl h⟩
    rw [wan, e1]; simp only [memB_iff, nm, e3]
    by_cases h2 : Mem (setL 1073741823 (l.map L56)) x <;> simp [h2]
  refine Ev.bind u1 (Ev.bind (Ev.bind u3 (evNow _)) (Ev.bind (leadtrailref04_Same_self u (small u2)) ?_))
  simp only [if_true]
  refine Ev.bind e1 (Ev.bind (Ev.bind e3 (evNow _)) (Ev.bind (leadtrailref04_Same_self e (small e2)) ?_))
  simp only [if_true]
  refine Ev.bind d1 (Ev.bind (Ev.bind d3 (evNow _)) (Ev.bind (leadtrailref04_Same_self d (small d2)) ?_))
  simp only [if_true]
  refine Ev.bind n1 (Ev.bind (Ev.bind (Ev.bind n3 (evNow _)) (evNow _)) (Ev.bind (leadtrailref04_Same_self n (small n2)) (evNow _)))
end Go.Proofs.Ytddffjhodiengaa.PC
namespace Go.Proofs.Ytddffjhodiengaa.Pure
open Go.Proofs.Ytddffjhodiengaa.C Go.Proofs.YtddffjhodiengaaW.PrintWords
theorem ScalarsBoth : ∀ (l0 : List S56) (l1 : List S56), (l0.length * 16 ≤ 140737488351232 ∧ ∀ x ∈ l0, ((Lit.int .i64 x.f0).wf = true ∧ (Lit.int .i64 x.f1).wf = true)) → (l1.length * 16 ≤ 140737488351232 ∧ ∀ x ∈ l1, ((Lit.int .i64 x.f0).wf = true ∧ (Lit.int .i64 x.f1).wf = true)) → ∃ k, leadtraillaw04_ScalarsBoth.f k l0 l1 = some true :=
  fun l0 l1 h h' => Ev.rounds (PC.leadtraillaw04_ScalarsBoth_ev l0 l1 h.1 h'.1)
end Go.Proofs.Ytddffjhodiengaa.Pure
