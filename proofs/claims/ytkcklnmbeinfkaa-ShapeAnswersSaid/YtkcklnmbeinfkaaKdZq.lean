/- Shorter names of what comes often in the printed texts of this claim. -/
import Derived.Test.YtkcklnmbeinfkaaKdWWords
import Derived.Test.YtkcklnmbeinfkaaKdWLast
import Derived.KernelRfl
namespace Go.Proofs.Ytkcklnmbeinfkaa
open Go.RowKit Go.Proofs.YtkcklnmbeinfkaaW.PrintWords Go.Proofs.YtkcklnmbeinfkaaW.PrintLast
theorem zA {α : Type} {d : Kd α} {e : Nat} {w : World} {base : Nat} {ok : Nat → Prop} {v : Value} {xs : List α} (h : d.R e w base ok v xs) (o : Obj) : d.R e (w.alloc o) base ok v xs := Kd.R_alloc h o
theorem zB {α : Type} {d : Kd α} {e : Nat} {w : World} {base : Nat} {ok : Nat → Prop} {v : Value} {xs : List α} (h : d.R e w base ok v xs) (m : Nat) : d.R e (w.drewN m) base ok v xs := Kd.R_drewN h m
theorem zC {α : Type} {d : Kd α} {e : Nat} {w : World} {base : Nat} {ok : Nat → Prop} {v : Value} {xs : List α} (h : d.R e w base ok v xs) : d.R e w.drew base ok v xs := Kd.R_drew h
theorem zD {w W : World} (h : Below w.heap.size w W) (o : Obj) : Below w.heap.size w (W.alloc o) := below_alloc h o
theorem zE {B : Nat} {w W : World} (h : Below B w W) (n : Nat) : Below B w (W.drewN n) := pw_below_drewN h n
theorem zF {base : Nat} {w W : World} (h : Below base w W) : Below base w W.drew := below_drew1 h
theorem zM {p : Prop} (h : p := by (try simp only [List.map_toArray, List.map_cons, List.map_nil]); first | done | rfl | (simp only [List.length_drop, List.length_take]; rfl)) : p := h
theorem zR {p : Prop} (h : p := by first | rfl | (simp; done) | (simp [*]; done)) : p := h
theorem zT {p : Prop} [Decidable p] (h : decide p = true := by first | (with_reducible assumption) | assumption) : p := of_decide_eq_true h
theorem zQ {α : Sort _} {β : α → Sort _} {γ : (a : α) → β a → Sort _} {p : (a : α) → (b : β a) → γ a b → Prop} : (a : α) → (b : β a) → (c : γ a b) → p a b c → p a b c := fun _ _ _ h => h
def bzL : Nat → Nat → List Bool
  | 0, _ => []
  | n + 1, m => (m % 2 == 1) :: bzL n (m / 2)
def bz (n m : Nat) : Array Bool := ⟨bzL n m⟩
end Go.Proofs.Ytkcklnmbeinfkaa
