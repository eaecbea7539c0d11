/- Words and walks of this claim, of the text Bx13. -/
import Derived.Test.YtkcklnmbeinfkaaKlQW0
import Derived.Test.YtkcklnmbeinfkaaKlBx0
import Derived.Test.YtkcklnmbeinfkaaKlBx12
namespace Go.Proofs.Ytkcklnmbeinfkaa.B
open Go.RowKit Go.Proofs.YtkcklnmbeinfkaaW.PrintWords Go.Proofs.YtkcklnmbeinfkaaW.PrintLast Go.Proofs.YtkcklnmbeinfkaaW.PrintMore
attribute [local go_sem] max2_int min2_int max_two min_two max_three min_three max_four min_four
set_option linter.unusedVariables false
set_option linter.unusedSimpArgs false
theorem run_index_bits (w : World) (p : Nat → Bool) (m : Nat) (h : m < 256) : Sem.run Try.prog (Instr.index 110 (.agg (bitsV p)) (.int .i64 (m : Int))) w = .ok (.bool (p m)) w := by
 have h1 : (0 : Int) ≤ (m : Int) ∧ (m : Int) < ((256 : Nat) : Int) := by omega
 have he : sizeOf 4 = sizeOf 4 := rfl; simp [Instr.index, asIntOf, run_underlying hu110, h1]; rw [if_pos h]; have h4 : Try.prog.underlying 4 = some .bool := by kernel_rfl
 have hg := bitsV_get p m h; simp [part, isAgg, run_underlying h4, hg]
def hasB (b : Bool) (l : List S113) (x : Int) : Bool := hasP (membersB b l) x
set_option maxHeartbeats 8000000 in
set_option maxRecDepth 100000 in
theorem R3Has.calls (k : Nat) (A0 : Option Addr) (c0 : Nat) (l0 : List S113) (x : Int) (b : Bool) (w : World) (hr0 : Kd.C k113 w A0 l0.length l0) (hc0 : l0.length ≤ c0) (h : leadtrailref03_Valid.f k l0 = some b) (hok : b = true → ∀ r ∈ l0, okPiece r = true) (hsm : l0.length ≤ 8796093022207) :
 Calls Try.prog 73 #[.slice A0 l0.length c0, .int .i64 x] w fun e w' => e = .returned (.bool (hasB b l0 x)) ∧ Below w.heap.size w w' := by
 have hMem := R3Members.calls k A0 c0 l0 b w hr0 hc0 h hok hsm; clear hr0 hc0 h hok; change Calls Try.prog 82 _ w (fun e w' => e = .returned (.agg (bitsV (membersB b l0))) ∧ _) at hMem
 unfold hasB hasP; generalize membersB b l0 = p at hMem ⊢; by_cases c : 0 ≤ x
 ·by_cases d : x ≤ 255
  ·rw [if_pos c, if_pos d]; obtain ⟨m, rfl⟩ := Int.eq_ofNat_of_zero_le c; have cb : decide (0 ≤ (m : Int)) = true := decide_eq_true c; have db : decide ((m : Int) ≤ 255) = true := decide_eq_true d; have p2 : (0 ≤ (m : Int)) = True := eq_true (by omega); have q2 : ((m : Int) < 256) = True := eq_true (by omega); have hm : m < 256 := by omega
   clear c d; go_enter Try.func73, Try.ntmps73
   go_wp2_with (go_at_call 82; refine hMem.mono ?_; rintro e w1 ⟨rfl, hb⟩; clear hMem; have HB2 := zk hb; clear hb)
   rw [run_index_bits _ _ _ (by omega)]; go_wp2
   go_ret
   exact ⟨by simp, HB2.out⟩
  ·rw [if_pos c, if_neg d]; have cb : decide (0 ≤ x) = true := decide_eq_true c; have db : decide (x ≤ 255) = false := decide_eq_false d; clear c d; go_enter Try.func73, Try.ntmps73
   go_wp2
   go_ret
   exact ⟨by simp, by repeat (first | exact Below.refl _ _ | apply pw_below_drewN)⟩
 ·rw [if_neg c]; have cb : decide (0 ≤ x) = false := decide_eq_false c; clear c; go_enter Try.func73, Try.ntmps73
  go_wp2
  go_ret
  exact ⟨by simp, by repeat (first | exact Below.refl _ _ | apply pw_below_drewN)⟩
def leadtrailref03_Has.f (k : Nat) (l0 : List (S113)) (a1 : Int) : Option (Bool) := (leadtrailref03_memb k l0).bind fun p => some (hasP p a1)
theorem leadtrailref03_Has.calls (k : Nat) (A0 : Option Addr) (c0 : Nat) (l0 : List (S113)) (a1 : Int) (r : Bool) (w : World) (hr0 : Kd.C k113 w A0 l0.length l0) (hc0 : l0.length ≤ c0) (h : leadtrailref03_Has.f k l0 a1 = some r) :
 Calls Try.prog 73 #[.slice A0 l0.length c0, .int .i64 a1] w fun e w' => e = .returned (.bool r) ∧ Below w.heap.size w w' := by
 obtain ⟨p, h1, h2⟩ := Option.bind_eq_some_iff.mp h; obtain ⟨b, hv, rfl, hok, hsm⟩ := memb_some h1; have hh := R3Has.calls k A0 c0 l0 a1 b w hr0 hc0 hv hok hsm; obtain rfl := Option.some.inj h2; exact hh
end Go.Proofs.Ytkcklnmbeinfkaa.B
