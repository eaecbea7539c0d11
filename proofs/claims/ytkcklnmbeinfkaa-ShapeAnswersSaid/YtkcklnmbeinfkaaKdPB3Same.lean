/- Words and walks of this claim, of the text PB3Same. -/
import Derived.Test.YtkcklnmbeinfkaaKdBx0
import Derived.Test.YtkcklnmbeinfkaaKdBx15
import Derived.Test.YtkcklnmbeinfkaaKdPB3Sets
namespace Go.Proofs.Ytkcklnmbeinfkaa.PB3
open Go.RowKit Go.Proofs.YtkcklnmbeinfkaaW.PrintWords Go.Proofs.YtkcklnmbeinfkaaW.PrintLast Go.Proofs.YtkcklnmbeinfkaaW.PrintMore Go.Proofs.Ytkcklnmbeinfkaa.B Go.Proofs.LT
set_option linter.unusedVariables false
set_option linter.unusedSimpArgs false
theorem leadtrailref03_Same_loop (N : Nat) (hN : N ≤ 8796093022206) : ∀ (t pre : List S113), (pre ++ t).length ≤ N → Ev (fun k => leadtrailref03_Same.l0 k (pre ++ t) (pre ++ t) (pre.length : Int)) true
  | [], pre, _ => by
    refine evSucc ?_
    simp only [leadtrailref03_Same.l0]
    rw [List.append_nil]
    simp only [if_neg (show ¬ ((pre.length : Nat) : Int) < ((pre.length : Nat) : Int) by omega)]
    exact evNow _
  | r :: t, pre, hl => by
    have hlc := len_cons pre r t
    have ih := leadtrailref03_Same_loop N hN t (pre ++ [r]) (by rw [app_snoc]; exact hl)
    rw [app_snoc, snoc_len] at ih
    refine evSucc ?_
    have c1 : (pre.length : Int) < ((pre ++ r :: t).length : Nat) := by rw [hlc]; omega
    have c2 : (0 : Int) ≤ pre.length := by omega
    have hw : Aside0 (wrap64 ((pre.length : Int) + 1) = (pre.length : Int) + 1) := Aside0.mk (w64 (by omega) (by simp at hl; omega))
    simp only [leadtrailref03_Same.l0, if_pos c1, if_pos c2, rd113, hw.out, beq_self_eq_true, Bool.not_true, Bool.or_self, Bool.false_eq_true, if_false]
    exact ih
theorem leadtrailref03_Same_self (a : List S113) (hl : a.length * 16 ≤ 140737488351232) : Ev (fun k => leadtrailref03_Same.f k a a) true := by
  have h := leadtrailref03_Same_loop a.length (by omega) a [] (by simp)
  simp only [leadtrailref03_Same.f, if_true]
  simpa using h
end Go.Proofs.Ytkcklnmbeinfkaa.PB3
