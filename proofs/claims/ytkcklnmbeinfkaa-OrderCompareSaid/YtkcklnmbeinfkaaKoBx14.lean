/- Words and walks of this claim, of the text Bx14. -/
import Derived.Test.YtkcklnmbeinfkaaKoQW0
import Derived.Test.YtkcklnmbeinfkaaKoBx0
import Derived.Test.YtkcklnmbeinfkaaKoBx12
import Derived.Test.YtkcklnmbeinfkaaKoBx13
namespace Go.Proofs.Ytkcklnmbeinfkaa.B
open Go.RowKit Go.Proofs.YtkcklnmbeinfkaaW.PrintWords Go.Proofs.YtkcklnmbeinfkaaW.PrintLast Go.Proofs.YtkcklnmbeinfkaaW.PrintMore
attribute [local go_sem] max2_int min2_int max_two min_two max_three min_three max_four min_four
set_option linter.unusedVariables false
set_option linter.unusedSimpArgs false
def selB (p : Nat → Bool) (k : Int) : Nat → Nat → Int × Bool
 | 0, _ => (0, false)
 | f + 1, x => if p x = true ∧ (cntB p x : Int) = k then ((x : Int), true) else selB p k f (x + 1)
set_option maxHeartbeats 8000000 in
set_option maxRecDepth 100000 in
theorem R3Select.calls (k : Nat) (A0 : Option Addr) (c0 : Nat) (l0 : List S113) (x : Int) (b : Bool) (w : World) (hr0 : Kd.C k113 w A0 l0.length l0) (hc0 : l0.length ≤ c0) (h : leadtrailref03_Valid.f k l0 = some b) (hok : b = true → ∀ r ∈ l0, okPiece r = true) (hsm : l0.length ≤ 8796093022207) :
 Calls Try.prog 102 #[.slice A0 l0.length c0, .int .i64 x] w fun e w' => e = .returned (.tuple #[.int .i64 (selB (membersB b l0) x 256 0).1, .bool (selB (membersB b l0) x 256 0).2]) ∧ Below w.heap.size w w' := by
 have hMem := R3Members.calls k A0 c0 l0 b w hr0 hc0 h hok hsm; clear hr0 hc0 h hok; change Calls Try.prog 82 _ w (fun e w' => e = .returned (.agg (bitsV (membersB b l0))) ∧ _) at hMem
 generalize membersB b l0 = p at hMem ⊢; generalize hR : selB p x 256 0 = R; go_enter Try.func102, Try.ntmps102
 go_wp2_with (go_at_call 82; refine hMem.mono ?_; rintro e w2 ⟨rfl, hb⟩; clear hMem; have HB3 := zk hb; clear hb)
 rw [run_store_new w2 p]; have D := zk (blk_new w2 (.cells (bitsV p) 110)); have HB4 := zk (below_alloc HB3.out (.cells (bitsV p) 110)); have RR := zk hR; clear HB3 hR; generalize w2.heap.size = g at D ⊢; generalize w2.alloc (.cells (bitsV p) 110) = w3 at D HB4 ⊢; go_wp2
 go_loopg [7, 8] 257 (fun kq v7 v8 w' => ∃ n : Nat, v7 = .int .i64 (cntB p n : Nat) ∧ v8 = .int .i64 (n : Int) ∧ Aside0 (n + kq = 257) ∧ Aside0 (n ≤ 256) ∧ Aside0 (selB p x (256 - n) n = R) ∧ Aside0 (w'.heap[g]? = some (.cells (bitsV p) 110 (0, 0))) ∧ Aside0 (Below w.heap.size w w'))
 case atStart => exact ⟨0, rfl, rfl, ⟨by omega⟩, ⟨by omega⟩, RR, D, HB4⟩
 case round =>
  clear RR; obtain ⟨n, rfl, rfl, HN, HN2, RR, C, HB'⟩ := hrel; have hcl := cntB_le p n
  cases gk with
  | zero => exact absurd HN.out (by have := HN2.out; omega)
  | succ k1 =>
  by_cases c : n ≤ 255
  ·have cb : decide ((n : Int) ≤ 255) = true := decide_eq_true (by omega); have p2 : (0 ≤ (n : Int)) = True := eq_true (by omega); have q2 : ((n : Int) < 256) = True := eq_true (by omega); have c_ := zk c; have hcl_ := zk hcl; have hc := blk_cell C.out n; rw [bitsV_get _ _ (by omega)] at hc; have eq1 : 256 - n = (255 - n) + 1 := by omega
   have eq2 : 255 - n = 256 - (n + 1) := by omega
   have hS := zk (show selB p x (256 - n) n = if p n = true ∧ (cntB p n : Int) = x then ((n : Int), true) else selB p x (256 - (n + 1)) (n + 1) by rw [eq1, selB, eq2]); clear c hcl eq1 eq2; cases hpn : p n with
   | true =>
    rw [hpn] at hc; by_cases e : (cntB p n : Int) = x
    ·have hRn := zk (RR.out.symm.trans (hS.out.trans (if_pos ⟨hpn, e⟩))); clear hS RR; subst e; go_wp2
     go_ret2
     rw [hRn.out]; exact ⟨rfl, HB'.out⟩
    ·have eb0 : decide ((cntB p n : Int) = x) = false := decide_eq_false e; have eb1 : ((cntB p n : Int) == x) = false := by simpa using e
     have hRn := zk ((show selB p x (256 - (n + 1)) (n + 1) = R from (hS.out.trans (if_neg fun h => e h.2)).symm.trans RR.out)); go_wp2
     have hcl := hcl_.out; have hN := HN.out; have c := c_.out; go_roundg k1
     case measure => omega
     case rel => exact ⟨n + 1, by simp only [cntB, hpn, if_true]; rw [w64' (by omega) (by omega)]; simp, by rw [w64' (by omega) (by omega)]; simp, ⟨by omega⟩, ⟨by omega⟩, hRn, C, HB'⟩
   | false =>
    rw [hpn] at hc; have hRn := zk ((show selB p x (256 - (n + 1)) (n + 1) = R from (hS.out.trans (if_neg fun h => by rw [hpn] at h; cases h.1)).symm.trans RR.out)); go_wp2
    have hcl := hcl_.out; have hN := HN.out; have c := c_.out; go_roundg k1
    case measure => omega
    case rel => exact ⟨n + 1, by simp only [cntB, hpn, Bool.false_eq_true, if_false, Nat.add_zero], by rw [w64' (by omega) (by omega)]; simp, ⟨by omega⟩, ⟨by omega⟩, hRn, C, HB'⟩
  ·have cb : decide ((n : Int) ≤ 255) = false := decide_eq_false (by omega); have hn := zk (show n = 256 by have := HN.out; have := HN2.out; omega); clear c hcl; go_wp2
   go_ret2
   have hn := hn.out; subst hn; have := RR.out; simp only [Nat.sub_self, selB] at this; rw [← this]; exact ⟨rfl, HB'.out⟩
def leadtrailref03_Select.f (k : Nat) (l0 : List (S113)) (a1 : Int) : Option (Int × Bool) := (leadtrailref03_memb k l0).bind fun p => some (selB p a1 256 0)
theorem leadtrailref03_Select.calls (k : Nat) (A0 : Option Addr) (c0 : Nat) (l0 : List (S113)) (a1 : Int) (r1 : Int) (r2 : Bool) (w : World) (hr0 : Kd.C k113 w A0 l0.length l0) (hc0 : l0.length ≤ c0) (h : leadtrailref03_Select.f k l0 a1 = some (r1, r2)) :
 Calls Try.prog 102 #[.slice A0 l0.length c0, .int .i64 a1] w fun e w' => e = .returned (.tuple #[.int .i64 r1, .bool r2]) ∧ Below w.heap.size w w' := by
 obtain ⟨p, h1, h2⟩ := Option.bind_eq_some_iff.mp h; obtain ⟨b, hv, rfl, hok, hsm⟩ := memb_some h1; have hh := R3Select.calls k A0 c0 l0 a1 b w hr0 hc0 hv hok hsm; have e := Option.some.inj h2; rw [e] at hh; exact hh
end Go.Proofs.Ytkcklnmbeinfkaa.B
