/- Words and walks of this claim, of the text Codes. -/
import Derived.Test.YtkcklnmbeinfkaaKcShapes
namespace Go.Proofs.LT
set_option linter.unusedVariables false
def Com : Nat → List (List Run) → List (List Run) → List Int → Prop
  | 0, _, _, b => b = []
  | n + 1, s :: p, t :: q, x :: b => Mem s x ∧ Mem t x ∧ (∀ y, Mem s y → Mem t y → x ≤ y) ∧ Com n p q b
  | _ + 1, _, _, _ => False
def MeetN : Nat → List (List Run) → List (List Run) → Prop
  | 0, _, _ => True
  | n + 1, s :: p, t :: q => (∃ x, Mem s x ∧ Mem t x) ∧ MeetN n p q
  | _ + 1, _, _ => False
theorem Com.uniq : ∀ {n : Nat} {p q : List (List Run)} {b c : List Int}, Com n p q b → Com n p q c → b = c
  | 0, _, _, _, _, h, h' => by
    have h : _ = [] := h
    have h' : _ = [] := h'
    rw [h, h']
  | n + 1, s :: p, t :: q, x :: b, y :: c, h, h' => by
    obtain ⟨a1, a2, a3, a4⟩ := h
    obtain ⟨b1, b2, b3, b4⟩ := h'
    rw [Com.uniq a4 b4, show x = y by have := a3 y b1 b2; have := b3 x a1 a2; omega]
  | n + 1, [], _, _, _, h, _ => h.elim
  | n + 1, _ :: _, [], _, _, h, _ => h.elim
  | n + 1, _ :: _, _ :: _, [], _, h, _ => h.elim
  | n + 1, _ :: _, _ :: _, _ :: _, [], _, h => h.elim
theorem Com.len : ∀ {n : Nat} {p q : List (List Run)} {b : List Int}, Com n p q b → b.length = n
  | 0, _, _, _, h => by
    have h : _ = [] := h
    rw [h]; rfl
  | n + 1, s :: p, t :: q, x :: b, h => by
    have := Com.len h.2.2.2
    simp [this]
  | n + 1, [], _, _, h => h.elim
  | n + 1, _ :: _, [], _, h => h.elim
  | n + 1, _ :: _, _ :: _, [], h => h.elim
theorem Com.symm : ∀ {n : Nat} {p q : List (List Run)} {b : List Int}, Com n p q b → Com n q p b
  | 0, _, _, _, h => h
  | n + 1, s :: p, t :: q, x :: b, h => ⟨h.2.1, h.1, fun y a c => h.2.2.1 y c a, Com.symm h.2.2.2⟩
  | n + 1, [], _, _, h => h.elim
  | n + 1, _ :: _, [], _, h => h.elim
  | n + 1, _ :: _, _ :: _, [], h => h.elim
theorem MeetN.symm : ∀ {n : Nat} {p q : List (List Run)}, MeetN n p q → MeetN n q p
  | 0, _, _, _ => trivial
  | n + 1, s :: p, t :: q, h => ⟨by obtain ⟨x, a, b⟩ := h.1; exact ⟨x, b, a⟩, MeetN.symm h.2⟩
  | n + 1, [], _, h => h.elim
  | n + 1, _ :: _, [], h => h.elim
end Go.Proofs.LT
