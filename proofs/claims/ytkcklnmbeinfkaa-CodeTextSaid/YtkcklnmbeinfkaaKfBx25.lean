/- Words and walks of this claim, of the text Bx25. -/
import Derived.Test.YtkcklnmbeinfkaaKfQW0
import Derived.Test.YtkcklnmbeinfkaaKfBx0
import Derived.Test.YtkcklnmbeinfkaaKfBx13
import Derived.Test.YtkcklnmbeinfkaaKfBx24
namespace Go.Proofs.Ytkcklnmbeinfkaa.B
open Go.RowKit Go.Proofs.YtkcklnmbeinfkaaW.PrintWords Go.Proofs.YtkcklnmbeinfkaaW.PrintLast Go.Proofs.YtkcklnmbeinfkaaW.PrintMore
attribute [local go_sem] max2_int min2_int max_two min_two max_three min_three max_four min_four
set_option linter.unusedVariables false
set_option linter.unusedSimpArgs false
def leadtrailref08_Valid.l0 : Nat → Int → List (S50) → Option (Bool)
 | 0, _, _ => none
 | k + 1, x3, x569000 => if x3 < (x569000.length : Int) then (if 0 ≤ x3 then ((leadtrailref08_ValidShape.f k ((rd_T50 x569000 x3).f0) ((rd_T50 x569000 x3).f1)).bind fun t570 => (if t570 = true then ((leadtrailref08_meet.f k x569000 x3).bind fun t571 => (if t571 = true then (some false) else (leadtrailref08_Valid.l0 k (wrap64 (x3 + 1)) x569000))) else (some false))) else (none)) else (some true)
def leadtrailref08_Valid.f (k : Nat) (l0_0 : List (S50)) : Option (Bool) := if (l0_0.length : Int) > 32 then (some false) else (leadtrailref08_Valid.l0 k 0 l0_0)
set_option maxHeartbeats 8000000 in
set_option maxRecDepth 100000 in
theorem leadtrailref08_Valid.calls (k : Nat) (A0_0 : Option Addr) (c0_0 : Nat) (l0_0 : List (S50)) (r : Bool) (w : World) (hr0_0 : Kd.C k50 w A0_0 l0_0.length l0_0) (hc0_0 : l0_0.length ≤ c0_0) (h : leadtrailref08_Valid.f k l0_0 = some r) :
  Calls Try.prog 79 #[.agg #[.slice A0_0 l0_0.length c0_0]] w fun e w' => e = .returned (.bool r) ∧ Below w.heap.size w w' := by
 have hu24 := Try.underlying24
 have hu50 := Try.underlying50
 have HR0_0 := zk hr0_0
 have HC0_0 := zk hc0_0
 clear hr0_0 hc0_0
 have HB := zk (Below.refl w.heap.size w)
 have H : (if (l0_0.length : Int) > 32 then (some false) else (leadtrailref08_Valid.l0 k 0 l0_0)) = some r := h
 clear h
 by_cases c2 : (l0_0.length : Int) > 32
 ·rw [if_pos c2] at H
  have c2b0 : decide (32 < (l0_0.length : Int)) = true := decide_eq_true c2
  have c2b1 : decide (32 < l0_0.length) = true := decide_eq_true (by omega)
  clear c2
  obtain rfl := Option.some.inj H
  go_enter Try.func79, Try.ntmps79
  go_wp2_with (first | ((with_reducible refine gate_dst (N := 1) rfl ?_); refine box_event ?hg (N := 1) ?hd (cs := #[.slice A0_0 l0_0.length c0_0]) (t := 24) ?hr ?_; (case hd => rfl); (case hg => rfl); (case hr => first | (go_simp; done) | (go_simp; rfl)); intro gb568 hg w3 hbox hb; have n0_ := zk (below_step (zU HB.out) hb); have n1_ := zk (hbox); have n2_ := zk ((by rw [hg]; exact (below_size (zU HB.out)) : w.heap.size ≤ gb568)); have n3_ := zk ((by rw [hg]; exact (below_size (zU HB.out)) : w.heap.size ≤ gb568)); clear HB; have HB := n0_; have BK568 := n1_; have GW568 := n2_; have GE568 := n3_; clear n0_ n1_ n2_ n3_; clear hb hbox hg; have hcz4_0 : w3.cell? ⟨gb568, 0, none⟩ = some (.slice A0_0 l0_0.length c0_0) := (blk_cell BK568.out 0).trans rfl; have hfz4_0 := blk_frozen BK568.out 0))
  go_ret
  exact ⟨by first | rfl | (simp [errW_none, errW_some] <;> rfl) | (simp [*, errW_none, errW_some] <;> rfl), zU HB.out⟩
 ·rw [if_neg c2] at H
  have c2b0 : decide (32 < (l0_0.length : Int)) = false := decide_eq_false c2
  have c2b1 : decide (32 < l0_0.length) = false := decide_eq_false (by omega)
  clear c2
  have H' := zk H
  clear H
  go_enter Try.func79, Try.ntmps79
  go_wp2_with (first | ((with_reducible refine gate_dst (N := 1) rfl ?_); refine box_event ?hg (N := 1) ?hd (cs := #[.slice A0_0 l0_0.length c0_0]) (t := 24) ?hr ?_; (case hd => rfl); (case hg => rfl); (case hr => first | (go_simp; done) | (go_simp; rfl)); intro gb568 hg w5 hbox hb; have n0_ := zk (below_step (zU HB.out) hb); have n1_ := zk (hbox); have n2_ := zk ((by rw [hg]; exact (below_size (zU HB.out)) : w.heap.size ≤ gb568)); have n3_ := zk ((by rw [hg]; exact (below_size (zU HB.out)) : w.heap.size ≤ gb568)); clear HB; have HB := n0_; have BK568 := n1_; have GW568 := n2_; have GE568 := n3_; clear n0_ n1_ n2_ n3_; clear hb hbox hg; have hcz6_0 : w5.cell? ⟨gb568, 0, none⟩ = some (.slice A0_0 l0_0.length c0_0) := (blk_cell BK568.out 0).trans rfl; have hfz6_0 := blk_frozen BK568.out 0))
  go_loopg [3] k (fun kq v3 w' => ∃ (x3_1 : Int), v3 = .int .i64 x3_1 ∧ Aside0 (leadtrailref08_Valid.l0 kq x3_1 l0_0 = some r) ∧ Aside0 (kq ≤ k) ∧ Aside0 (w'.heap[gb568]? = some (.cells #[(.slice A0_0 l0_0.length c0_0)] 24 (0, 0))) ∧ Aside0 (Below w.heap.size w w'))
  case atStart => exact ⟨(0), zR, H', ⟨Nat.le_refl _⟩, ⟨by exact zb BK568.out⟩, ⟨zU HB.out⟩⟩
  case round =>
   clear H'
   try clear c2
   try clear c2b0
   try clear c2b1
   try clear p2
   try clear hcz4_0
   try clear hcz6_0
   try clear hfz4_0
   try clear hfz6_0
   obtain ⟨x3_1, rfl, HA, HK1, BK568, HB⟩ := hrel
   cases gk with
   | zero => exact absurd HA.out (by simp [leadtrailref08_Valid.l0])
   | succ k1 =>
    have H := HA.out
    clear HA
    simp only [leadtrailref08_Valid.l0] at H
    by_cases c7 : x3_1 < (l0_0.length : Int)
    ·rw [if_pos c7] at H
     have c7b0 : decide (x3_1 < (l0_0.length : Int)) = true := decide_eq_true c7
     clear c7
     by_cases c8 : 0 ≤ x3_1
     ·rw [if_pos c8] at H
      have c8b0 : decide (0 ≤ x3_1) = true := decide_eq_true c8
      clear c8
      replace H := Option.bind_eq_some_iff.mp H
      obtain ⟨t570, A90, H⟩ := H
      replace H : (if t570 = true then ((leadtrailref08_meet.f k1 l0_0 x3_1).bind fun t571 => (if t571 = true then (some false) else (leadtrailref08_Valid.l0 k1 (wrap64 (x3_1 + 1)) l0_0))) else (some false)) = some r := H
      have A9 := zk A90
      clear A90
      by_cases c10 : t570 = true
      ·subst c10
       have H1 : ((leadtrailref08_meet.f k1 l0_0 x3_1).bind fun t571 => (if t571 = true then (some false) else (leadtrailref08_Valid.l0 k1 (wrap64 (x3_1 + 1)) l0_0))) = some r := by rw [if_pos rfl] at H; exact H
       clear H
       have H := H1
       clear H1
       replace H := Option.bind_eq_some_iff.mp H
       obtain ⟨t571, A110, H⟩ := H
       replace H : (if t571 = true then (some false) else (leadtrailref08_Valid.l0 k1 (wrap64 (x3_1 + 1)) l0_0)) = some r := H
       have A11 := zk A110
       clear A110
       by_cases c12 : t571 = true
       ·subst c12
        have H1 : (some false) = some r := by rw [if_pos rfl] at H; exact H
        clear H
        have H := H1
        clear H1
        obtain rfl := Option.some.inj H
        have hcz13_0 : wr.cell? ⟨gb568, 0, none⟩ = some (.slice A0_0 l0_0.length c0_0) := (blk_cell BK568.out 0).trans rfl
        have hfz13_0 := blk_frozen BK568.out 0
        have p569 : 0 ≤ (x3_1 : Int) := zT
        have q569 : x3_1 < (l0_0.length : Int) := zT
        obtain ⟨ad569, A569_0, c569_0, e569, hx569_0, hx569_1, hl569_0, hi569_0⟩ := at_T50 HR0_0.out x3_1 p569 q569
        cases e569
        replace hx569_0 := (HB.out.cell (World.block_lt_of_cell? w _ hx569_0)).trans hx569_0
        replace hx569_1 := (HB.out.cell (World.block_lt_of_cell? w _ hx569_1)).trans hx569_1
        have HR569_0 := zk hi569_0
        have HC569_0 := zk hl569_0
        clear hi569_0 hl569_0
        replace p569 := eq_true p569
        replace q569 := eq_true q569
        go_wp2_with (first | ((with_reducible refine gate_callee (f := 52) rfl ?_); refine goesL_ (some 20) rfl rfl Try.func52 (by kernel_rfl) rfl #[.agg #[.slice A569_0 ((rd_T50 l0_0 x3_1).f0).length c569_0, .int .i64 ((rd_T50 l0_0 x3_1).f1)]] rfl zM ?_; (with_reducible refine (leadtrailref08_ValidShape.calls k1 _ _ ((rd_T50 l0_0 x3_1).f0) ((rd_T50 l0_0 x3_1).f1) true _ ?side1 ?side2 A9.out).mono ?_); (case side1 => exact zc (Kd.C_below HR569_0.out HB.out)); (case side2 => exact HC569_0.out); rintro e w14 ⟨rfl, hb⟩; refine ⟨_, rfl, ?_⟩; have n0_ := zk (zbb BK568.out hb); have n1_ := zk (below_step (zU HB.out) hb); clear BK568; clear HB; have BK568 := n0_; have HB := n1_; clear n0_ n1_; (try clear hb); (try clear hb2); (try clear hk); (try clear hi); have hcz15_0 : w14.cell? ⟨gb568, 0, none⟩ = some (.slice (some ad569) l0_0.length c0_0) := (blk_cell BK568.out 0).trans rfl; have hfz15_0 := blk_frozen BK568.out 0) | (go_at_call 122; (with_reducible refine (leadtrailref08_meet.calls k1 _ _ l0_0 x3_1 true _ ?side1 ?side2 A11.out).mono ?_); (case side1 => exact zc (Kd.C_below HR0_0.out HB.out)); (case side2 => exact HC0_0.out); rintro e w16 ⟨rfl, hb⟩; have n0_ := zk (zbb BK568.out hb); have n1_ := zk (below_step (zU HB.out) hb); clear BK568; clear HB; have BK568 := n0_; have HB := n1_; clear n0_ n1_; (try clear hb); (try clear hb2); (try clear hk); (try clear hi)))
        go_ret
        exact ⟨by first | rfl | (simp [errW_none, errW_some] <;> rfl) | (simp [*, errW_none, errW_some] <;> rfl), zU HB.out⟩
       ·replace c12 := Bool.eq_false_iff.mpr c12
        subst c12
        have H1 : (leadtrailref08_Valid.l0 k1 (wrap64 (x3_1 + 1)) l0_0) = some r := by rw [if_neg (show ¬ (false = true) by decide)] at H; exact H
        clear H
        have H := H1
        clear H1
        have H' := zk H
        clear H
        have hcz17_0 : wr.cell? ⟨gb568, 0, none⟩ = some (.slice A0_0 l0_0.length c0_0) := (blk_cell BK568.out 0).trans rfl
        have hfz17_0 := blk_frozen BK568.out 0
        have p569 : 0 ≤ (x3_1 : Int) := zT
        have q569 : x3_1 < (l0_0.length : Int) := zT
        obtain ⟨ad569, A569_0, c569_0, e569, hx569_0, hx569_1, hl569_0, hi569_0⟩ := at_T50 HR0_0.out x3_1 p569 q569
        cases e569
        replace hx569_0 := (HB.out.cell (World.block_lt_of_cell? w _ hx569_0)).trans hx569_0
        replace hx569_1 := (HB.out.cell (World.block_lt_of_cell? w _ hx569_1)).trans hx569_1
        have HR569_0 := zk hi569_0
        have HC569_0 := zk hl569_0
        clear hi569_0 hl569_0
        replace p569 := eq_true p569
        replace q569 := eq_true q569
        go_wp2_with (first | ((with_reducible refine gate_callee (f := 52) rfl ?_); refine goesL_ (some 20) rfl rfl Try.func52 (by kernel_rfl) rfl #[.agg #[.slice A569_0 ((rd_T50 l0_0 x3_1).f0).length c569_0, .int .i64 ((rd_T50 l0_0 x3_1).f1)]] rfl zM ?_; (with_reducible refine (leadtrailref08_ValidShape.calls k1 _ _ ((rd_T50 l0_0 x3_1).f0) ((rd_T50 l0_0 x3_1).f1) true _ ?side1 ?side2 A9.out).mono ?_); (case side1 => exact zc (Kd.C_below HR569_0.out HB.out)); (case side2 => exact HC569_0.out); rintro e w18 ⟨rfl, hb⟩; refine ⟨_, rfl, ?_⟩; have n0_ := zk (zbb BK568.out hb); have n1_ := zk (below_step (zU HB.out) hb); clear BK568; clear HB; have BK568 := n0_; have HB := n1_; clear n0_ n1_; (try clear hb); (try clear hb2); (try clear hk); (try clear hi); have hcz19_0 : w18.cell? ⟨gb568, 0, none⟩ = some (.slice (some ad569) l0_0.length c0_0) := (blk_cell BK568.out 0).trans rfl; have hfz19_0 := blk_frozen BK568.out 0) | (go_at_call 122; (with_reducible refine (leadtrailref08_meet.calls k1 _ _ l0_0 x3_1 false _ ?side1 ?side2 A11.out).mono ?_); (case side1 => exact zc (Kd.C_below HR0_0.out HB.out)); (case side2 => exact HC0_0.out); rintro e w20 ⟨rfl, hb⟩; have n0_ := zk (zbb BK568.out hb); have n1_ := zk (below_step (zU HB.out) hb); clear BK568; clear HB; have BK568 := n0_; have HB := n1_; clear n0_ n1_; (try clear hb); (try clear hb2); (try clear hk); (try clear hi)))
        go_roundg k1
        case measure => have := HK1.out; omega
        case rel => exact ⟨(wrap64 (x3_1 + 1)), zR, H', ⟨by have := HK1.out; omega⟩, ⟨by exact zb BK568.out⟩, ⟨zU HB.out⟩⟩
      ·replace c10 := Bool.eq_false_iff.mpr c10
       subst c10
       have H1 : (some false) = some r := by rw [if_neg (show ¬ (false = true) by decide)] at H; exact H
       clear H
       have H := H1
       clear H1
       obtain rfl := Option.some.inj H
       have hcz21_0 : wr.cell? ⟨gb568, 0, none⟩ = some (.slice A0_0 l0_0.length c0_0) := (blk_cell BK568.out 0).trans rfl
       have hfz21_0 := blk_frozen BK568.out 0
       have p569 : 0 ≤ (x3_1 : Int) := zT
       have q569 : x3_1 < (l0_0.length : Int) := zT
       obtain ⟨ad569, A569_0, c569_0, e569, hx569_0, hx569_1, hl569_0, hi569_0⟩ := at_T50 HR0_0.out x3_1 p569 q569
       cases e569
       replace hx569_0 := (HB.out.cell (World.block_lt_of_cell? w _ hx569_0)).trans hx569_0
       replace hx569_1 := (HB.out.cell (World.block_lt_of_cell? w _ hx569_1)).trans hx569_1
       have HR569_0 := zk hi569_0
       have HC569_0 := zk hl569_0
       clear hi569_0 hl569_0
       replace p569 := eq_true p569
       replace q569 := eq_true q569
       go_wp2_with (first | ((with_reducible refine gate_callee (f := 52) rfl ?_); refine goesL_ (some 20) rfl rfl Try.func52 (by kernel_rfl) rfl #[.agg #[.slice A569_0 ((rd_T50 l0_0 x3_1).f0).length c569_0, .int .i64 ((rd_T50 l0_0 x3_1).f1)]] rfl zM ?_; (with_reducible refine (leadtrailref08_ValidShape.calls k1 _ _ ((rd_T50 l0_0 x3_1).f0) ((rd_T50 l0_0 x3_1).f1) false _ ?side1 ?side2 A9.out).mono ?_); (case side1 => exact zc (Kd.C_below HR569_0.out HB.out)); (case side2 => exact HC569_0.out); rintro e w22 ⟨rfl, hb⟩; refine ⟨_, rfl, ?_⟩; have n0_ := zk (zbb BK568.out hb); have n1_ := zk (below_step (zU HB.out) hb); clear BK568; clear HB; have BK568 := n0_; have HB := n1_; clear n0_ n1_; (try clear hb); (try clear hb2); (try clear hk); (try clear hi)))
       go_ret
       exact ⟨by first | rfl | (simp [errW_none, errW_some] <;> rfl) | (simp [*, errW_none, errW_some] <;> rfl), zU HB.out⟩
     ·rw [if_neg c8] at H
      exact absurd H (by simp)
    ·rw [if_neg c7] at H
     have c7b0 : decide (x3_1 < (l0_0.length : Int)) = false := decide_eq_false c7
     clear c7
     obtain rfl := Option.some.inj H
     have hcz23_0 : wr.cell? ⟨gb568, 0, none⟩ = some (.slice A0_0 l0_0.length c0_0) := (blk_cell BK568.out 0).trans rfl
     have hfz23_0 := blk_frozen BK568.out 0
     go_wp2
     go_ret
     exact ⟨by first | rfl | (simp [errW_none, errW_some] <;> rfl) | (simp [*, errW_none, errW_some] <;> rfl), zU HB.out⟩
end Go.Proofs.Ytkcklnmbeinfkaa.B
