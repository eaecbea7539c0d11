/- Words and walks of this claim, of the text Bx43. -/
import Derived.Test.YtkcklnmbeinfkaaKqQW0
import Derived.Test.YtkcklnmbeinfkaaKqBx0
import Derived.Test.YtkcklnmbeinfkaaKqBx12
namespace Go.Proofs.Ytkcklnmbeinfkaa.B
open Go.RowKit Go.Proofs.YtkcklnmbeinfkaaW.PrintWords Go.Proofs.YtkcklnmbeinfkaaW.PrintLast Go.Proofs.YtkcklnmbeinfkaaW.PrintMore
attribute [local go_sem] max2_int min2_int max_two min_two max_three min_three max_four min_four
set_option linter.unusedVariables false
set_option linter.unusedSimpArgs false
mutual
def leadtrailref15_Rows.l0 : Nat → List (S109) → List (S50) → Option ((List (S109)))
 | 0, _, _ => none
 | k + 1, x3, x1170000 => if (x3.length : Int) < (x1170000.length : Int) then (leadtrailref15_Rows.l1 k x3 (-1) 0 x1170000) else (some x3)
def leadtrailref15_Rows.l1 : Nat → List (S109) → Int → Int → List (S50) → Option ((List (S109)))
 | 0, _, _, _, _ => none
 | k + 1, x3, x4, x5, x1170000 => if x5 < (x1170000.length : Int) then (if 0 ≤ x5 then (if (x3.length : Int) = 0 then (if x4 < 0 then (leadtrailref15_Rows.l1 k x3 x5 (wrap64 (x5 + 1)) x1170000) else (if 0 ≤ x4 then (if x4 < (x1170000.length : Int) then (if ((rd_T50 x1170000 x5).f1) < ((rd_T50 x1170000 x4).f1) then (leadtrailref15_Rows.l1 k x3 x5 (wrap64 (x5 + 1)) x1170000) else (leadtrailref15_Rows.l1 k x3 x4 (wrap64 (x5 + 1)) x1170000)) else (none)) else (none))) else (if 0 ≤ (wrap64 ((x3.length : Int) - 1)) then (if (wrap64 ((x3.length : Int) - 1)) < (x3.length : Int) then (if ((rd_T50 x1170000 x5).f1) > ((rd_T109 x3 (wrap64 ((x3.length : Int) - 1))).f0) then (if x4 < 0 then (leadtrailref15_Rows.l1 k x3 x5 (wrap64 (x5 + 1)) x1170000) else (if 0 ≤ x4 then (if x4 < (x1170000.length : Int) then (if ((rd_T50 x1170000 x5).f1) < ((rd_T50 x1170000 x4).f1) then (leadtrailref15_Rows.l1 k x3 x5 (wrap64 (x5 + 1)) x1170000) else (leadtrailref15_Rows.l1 k x3 x4 (wrap64 (x5 + 1)) x1170000)) else (none)) else (none))) else (leadtrailref15_Rows.l1 k x3 x4 (wrap64 (x5 + 1)) x1170000)) else (none)) else (none))) else (none)) else (if 0 ≤ x4 then (if x4 < (x1170000.length : Int) then ((leadtrailref08_Count.f k ((rd_T50 x1170000 x4).f0) ((rd_T50 x1170000 x4).f1)).bind fun t1176 => (if x3.length < 5864062014805 then (leadtrailref15_Rows.l0 k (x3 ++ [(⟨(rd_T50 x1170000 x4).f1, wrap64 ((wrap64 (((rd_T50 x1170000 x4).f1) + t1176)) - 1), x4⟩ : S109)]) x1170000) else (none))) else (none)) else (none))
end
def leadtrailref15_Rows.f (k : Nat) (l0_0 : List (S50)) : Option ((List (S109))) := leadtrailref15_Rows.l0 k ([] : List (S109)) l0_0
def leadtrailref15_Rows.T11 : Bool × List (List Nat × List Nat) := (true, [([], []), ([], []), ([1], [1]), ([], []), ([3], [3]), ([], []), ([5], [5]), ([4, 6], [4, 6]), ([7], [7]), ([], []), ([2, 8, 9], [2, 8, 9]), ([10], [10]), ([0, 11, 6], [0, 11]), ([12, 12, 0, 1, 2, 3, 4, 5, 6, 7, 8, 9, 10, 11, 12], [0, 12])])
def leadtrailref15_Rows.B11 : List Nat := [0, 0, 2, 0, 8, 0, 32, 120, 248, 0, 1022, 2046, 4095, 8191]
theorem leadtrailref15_Rows.tab11 : rtab .any (opsOf Try.f80 11) = leadtrailref15_Rows.T11 := by kernel_rfl
theorem leadtrailref15_Rows.bits11 : waitsOk leadtrailref15_Rows.T11.2 leadtrailref15_Rows.B11 = true := by kernel_rfl
set_option maxHeartbeats 8000000 in
set_option maxRecDepth 100000 in
theorem leadtrailref15_Rows.calls (k : Nat) (A0_0 : Option Addr) (c0_0 : Nat) (l0_0 : List (S50)) (r : List (S109)) (w : World) (hr0_0 : Kd.C k50 w A0_0 l0_0.length l0_0) (hc0_0 : l0_0.length ≤ c0_0) (h : leadtrailref15_Rows.f k l0_0 = some r) :
 Calls Try.prog 80 #[.agg #[.slice A0_0 l0_0.length c0_0]] w fun e w' => ∃ v0_ : Value, e = .returned (v0_) ∧ Kd.R k109 109 w' w.heap.size (fun _ => True) v0_ r ∧ Below w.heap.size w w' := by
 have hu24 := Try.underlying24; have hu50 := Try.underlying50; have hu109 := Try.underlying109; have HR0_0 := zk hr0_0; have HC0_0 := zk hc0_0; clear hr0_0 hc0_0; have HB := zk (Below.refl w.heap.size w); have H : (leadtrailref15_Rows.l0 k ([] : List (S109)) l0_0) = some r := h; clear h; have H' := zk H; clear H; go_enter Try.func80, Try.ntmps80
 go_wp2_with (first | ((with_reducible refine gate_dst (N := 1) rfl ?_); (try (refine gate_guard (by rfl) ?_; dsimp only)); refine box_event ?hg (N := 1) ?hd (cs := #[.slice A0_0 l0_0.length c0_0]) (t := 24) ?hr ?_; (case hd => rfl); (case hg => rfl); (case hr => first | (go_simp; done) | (go_simp; rfl)); intro gb1169 hg w2 hbox hb; have BK1169 := zk (hbox); have GE1169 := zk ((zg hg HB.out : w.heap.size ≤ gb1169)); replace HB := zk (below_step (zU HB.out) hb);  clear hb hbox hg))
 go_loopg [3] k (fun kq v3 w' => ∃ (x3_1 : List (S109)), Aside0 (leadtrailref15_Rows.l0 kq x3_1 l0_0 = some r) ∧ Aside0 (kq ≤ k) ∧ Aside0 (Kd.R k109 109 w' w.heap.size (fun _ => True) v3 x3_1) ∧ Aside0 (w'.heap[gb1169]? = some (.cells #[(.slice A0_0 l0_0.length c0_0)] 24 (0, 0))) ∧ Aside0 (Below w.heap.size w w'))
 case atStart => exact ⟨(([] : List (S109))), H', ⟨Nat.le_refl _⟩, ⟨by first | exact Kd.R_nil _ _ _ _ _ | exact Kd.N_nil _ _ _ _ _ | exact Kd.V_nil _ _ _ _ _ | exact Kd.Q_nil _ _ _ _ _ | exact Kd.S_nil _ _ _ _ _⟩, ⟨zb BK1169.out⟩, ⟨zU HB.out⟩⟩
 case round =>
  clear H'; (try clear p2); obtain ⟨x3_1, HA, HK1, HO_3, BK1169, HB⟩ := hrel
  cases gk with
  | zero => exact absurd HA.out (by simp [leadtrailref15_Rows.l0])
  | succ k1 =>
   have H := HA.out; clear HA; simp only [leadtrailref15_Rows.l0] at H; by_cases c3 : (x3_1.length : Int) < (l0_0.length : Int)
   ·rw [if_pos c3] at H; have c3b0 : decide ((x3_1.length : Int) < (l0_0.length : Int)) = true := decide_eq_true c3; have c3b1 : decide (x3_1.length < l0_0.length) = true := decide_eq_true (Int.ofNat_lt.mp c3); clear c3; have H' := zk H; clear H; obtain ⟨Ao4, co4, eo4⟩ := Kd.R_slice HO_3.out; subst eo4; have hcz5_0 : wr.cell? ⟨gb1169, 0, none⟩ = some (.slice A0_0 l0_0.length c0_0) := zh BK1169.out 0; have hfz5_0 := blk_frozen BK1169.out 0; go_wp2
    go_loopg [4, 5] k1 (fun kq v4 v5 w' => ∃ (x4_2 : Int) (x5_2 : Int), v4 = .int .i64 x4_2 ∧ v5 = .int .i64 x5_2 ∧ Aside0 (leadtrailref15_Rows.l1 kq x3_1 x4_2 x5_2 l0_0 = some r) ∧ Aside0 (kq ≤ k1) ∧ Aside0 (Kd.R k109 109 w' w.heap.size (fun _ => True) (.slice Ao4 x3_1.length co4) x3_1) ∧ Aside0 (w'.heap[gb1169]? = some (.cells #[(.slice A0_0 l0_0.length c0_0)] 24 (0, 0))) ∧ Aside0 (Below w.heap.size w w'))
    case atStart => exact ⟨((-1)), (0), zR, zR, H', ⟨Nat.le_refl _⟩, ⟨by (with_reducible repeat (first | apply zA | apply zB | apply zC)); exact HO_3.out⟩, ⟨zb BK1169.out⟩, ⟨zU HB.out⟩⟩
    case round =>
     clear H'; (try clear p2); (try clear c3); (try clear c3b0); (try clear c3b1); (try clear hcz5_0); (try clear hfz5_0); (try clear p2); obtain ⟨x4_2, x5_2, rfl, rfl, HA, HK2, HO_3, BK1169, HB⟩ := hrel
     cases gk with
     | zero => exact absurd HA.out (by simp [leadtrailref15_Rows.l1])
     | succ k2 =>
      have H := HA.out; clear HA; simp only [leadtrailref15_Rows.l1] at H; by_cases c6 : x5_2 < (l0_0.length : Int)
      ·rw [if_pos c6] at H; have c6b0 : decide (x5_2 < (l0_0.length : Int)) = true := decide_eq_true c6; clear c6; by_cases c7 : 0 ≤ x5_2
       ·rw [if_pos c7] at H; have c7b0 : decide (0 ≤ x5_2) = true := decide_eq_true c7; clear c7; by_cases c8 : (x3_1.length : Int) = 0
        ·rw [if_pos c8] at H; have c8b0 : ((x3_1.length : Int) == 0) = true := beq_iff_eq.mpr c8; have c8b1 : ((x3_1.length : Int) != 0) = false := bne_eq_false_iff_eq.mpr c8; clear c8; by_cases c9 : x4_2 < 0
         ·rw [if_pos c9] at H; have c9b0 : decide (x4_2 < 0) = true := decide_eq_true c9; clear c9; have H' := zk H; clear H; have hcz10_0 : wr.cell? ⟨gb1169, 0, none⟩ = some (.slice A0_0 l0_0.length c0_0) := zh BK1169.out 0; have hfz10_0 := blk_frozen BK1169.out 0; have p1170 : 0 ≤ (x5_2 : Int) := zT; have q1170 : x5_2 < (l0_0.length : Int) := zT; obtain ⟨ad1170, A1170_0, c1170_0, e1170, hx1170_0, hx1170_1, hl1170_0, hi1170_0⟩ := at_T50 HR0_0.out x5_2 p1170 q1170; cases e1170; replace hx1170_0 := zcl HB.out hx1170_0; replace hx1170_1 := zcl HB.out hx1170_1; have HR1170_0 := zk hi1170_0; have HC1170_0 := zk hl1170_0; clear hi1170_0 hl1170_0; replace p1170 := eq_true p1170; replace q1170 := eq_true q1170; go_wp2
          go_roundg k2
          case measure => have := HK1.out; have := HK2.out; omega
          case rel => exact ⟨(x5_2), (wrap64 (x5_2 + 1)), zR, zR, H', ⟨by have := HK1.out; have := HK2.out; omega⟩, ⟨by (with_reducible repeat (first | apply zA | apply zB | apply zC)); exact HO_3.out⟩, ⟨zb BK1169.out⟩, ⟨zU HB.out⟩⟩
         ·rw [if_neg c9] at H; have c9b0 : decide (x4_2 < 0) = false := decide_eq_false c9; clear c9; by_cases c11 : 0 ≤ x4_2
          ·rw [if_pos c11] at H; have c11b0 : decide (0 ≤ x4_2) = true := decide_eq_true c11; clear c11; by_cases c12 : x4_2 < (l0_0.length : Int)
           ·rw [if_pos c12] at H; have c12b0 : decide (x4_2 < (l0_0.length : Int)) = true := decide_eq_true c12; clear c12; by_cases c13 : ((rd_T50 l0_0 x5_2).f1) < ((rd_T50 l0_0 x4_2).f1)
            ·rw [if_pos c13] at H; have c13b0 : decide (((rd_T50 l0_0 x5_2).f1) < ((rd_T50 l0_0 x4_2).f1)) = true := decide_eq_true c13; clear c13; have H' := zk H; clear H; have hcz14_0 : wr.cell? ⟨gb1169, 0, none⟩ = some (.slice A0_0 l0_0.length c0_0) := zh BK1169.out 0; have hfz14_0 := blk_frozen BK1169.out 0; have p1170 : 0 ≤ (x5_2 : Int) := zT; have q1170 : x5_2 < (l0_0.length : Int) := zT; obtain ⟨ad1170, A1170_0, c1170_0, e1170, hx1170_0, hx1170_1, hl1170_0, hi1170_0⟩ := at_T50 HR0_0.out x5_2 p1170 q1170; cases e1170; replace hx1170_0 := zcl HB.out hx1170_0; replace hx1170_1 := zcl HB.out hx1170_1; have HR1170_0 := zk hi1170_0; have HC1170_0 := zk hl1170_0; clear hi1170_0 hl1170_0; replace p1170 := eq_true p1170; replace q1170 := eq_true q1170; have p1171 : 0 ≤ (x4_2 : Int) := zT; have q1171 : x4_2 < (l0_0.length : Int) := zT; obtain ⟨ad1171, A1171_0, c1171_0, e1171, hx1171_0, hx1171_1, hl1171_0, hi1171_0⟩ := at_T50 HR0_0.out x4_2 p1171 q1171; obtain rfl : ad1170 = ad1171 := (by injection e1171); replace hx1171_0 := zcl HB.out hx1171_0; replace hx1171_1 := zcl HB.out hx1171_1; have HR1171_0 := zk hi1171_0; have HC1171_0 := zk hl1171_0; clear hi1171_0 hl1171_0; replace p1171 := eq_true p1171; replace q1171 := eq_true q1171; go_wp2
             go_roundg k2
             case measure => have := HK1.out; have := HK2.out; omega
             case rel => exact ⟨(x5_2), (wrap64 (x5_2 + 1)), zR, zR, H', ⟨by have := HK1.out; have := HK2.out; omega⟩, ⟨by (with_reducible repeat (first | apply zA | apply zB | apply zC)); exact HO_3.out⟩, ⟨zb BK1169.out⟩, ⟨zU HB.out⟩⟩
            ·rw [if_neg c13] at H; have c13b0 : decide (((rd_T50 l0_0 x5_2).f1) < ((rd_T50 l0_0 x4_2).f1)) = false := decide_eq_false c13; clear c13; have H' := zk H; clear H; have hcz15_0 : wr.cell? ⟨gb1169, 0, none⟩ = some (.slice A0_0 l0_0.length c0_0) := zh BK1169.out 0; have hfz15_0 := blk_frozen BK1169.out 0; have p1170 : 0 ≤ (x5_2 : Int) := zT; have q1170 : x5_2 < (l0_0.length : Int) := zT; obtain ⟨ad1170, A1170_0, c1170_0, e1170, hx1170_0, hx1170_1, hl1170_0, hi1170_0⟩ := at_T50 HR0_0.out x5_2 p1170 q1170; cases e1170; replace hx1170_0 := zcl HB.out hx1170_0; replace hx1170_1 := zcl HB.out hx1170_1; have HR1170_0 := zk hi1170_0; have HC1170_0 := zk hl1170_0; clear hi1170_0 hl1170_0; replace p1170 := eq_true p1170; replace q1170 := eq_true q1170; have p1171 : 0 ≤ (x4_2 : Int) := zT; have q1171 : x4_2 < (l0_0.length : Int) := zT; obtain ⟨ad1171, A1171_0, c1171_0, e1171, hx1171_0, hx1171_1, hl1171_0, hi1171_0⟩ := at_T50 HR0_0.out x4_2 p1171 q1171; obtain rfl : ad1170 = ad1171 := (by injection e1171); replace hx1171_0 := zcl HB.out hx1171_0; replace hx1171_1 := zcl HB.out hx1171_1; have HR1171_0 := zk hi1171_0; have HC1171_0 := zk hl1171_0; clear hi1171_0 hl1171_0; replace p1171 := eq_true p1171; replace q1171 := eq_true q1171; go_wp2
             go_roundg k2
             case measure => have := HK1.out; have := HK2.out; omega
             case rel => exact ⟨(x4_2), (wrap64 (x5_2 + 1)), zR, zR, H', ⟨by have := HK1.out; have := HK2.out; omega⟩, ⟨by (with_reducible repeat (first | apply zA | apply zB | apply zC)); exact HO_3.out⟩, ⟨zb BK1169.out⟩, ⟨zU HB.out⟩⟩
           ·rw [if_neg c12] at H; exact absurd H (by simp)
          ·rw [if_neg c11] at H; exact absurd H (by simp)
        ·rw [if_neg c8] at H; have c8b0 : ((x3_1.length : Int) == 0) = false := beq_eq_false_iff_ne.mpr c8; have c8b1 : ((x3_1.length : Int) != 0) = true := bne_iff_ne.mpr c8; have c8b2 : ¬ (x3_1 = []) := fun h_ => c8 (by rw [h_]; rfl)
         obtain ⟨ji16, hji16⟩ : ∃ j_ : Int, (wrap64 ((x3_1.length : Int) - 1)) = j_ := ⟨_, rfl⟩
         replace H : (if 0 ≤ (ji16) then (if (ji16) < (x3_1.length : Int) then (if ((rd_T50 l0_0 x5_2).f1) > ((rd_T109 x3_1 (ji16)).f0) then (if x4_2 < 0 then (leadtrailref15_Rows.l1 k2 x3_1 x5_2 (wrap64 (x5_2 + 1)) l0_0) else (if 0 ≤ x4_2 then (if x4_2 < (l0_0.length : Int) then (if ((rd_T50 l0_0 x5_2).f1) < ((rd_T50 l0_0 x4_2).f1) then (leadtrailref15_Rows.l1 k2 x3_1 x5_2 (wrap64 (x5_2 + 1)) l0_0) else (leadtrailref15_Rows.l1 k2 x3_1 x4_2 (wrap64 (x5_2 + 1)) l0_0)) else (none)) else (none))) else (leadtrailref15_Rows.l1 k2 x3_1 x4_2 (wrap64 (x5_2 + 1)) l0_0)) else (none)) else (none)) = some r := by first | (rw [hji16] at H; exact H) | (simp only [hji16] at H ⊢; exact H)
         have hji16w : (IntKind.i64.wrap ((x3_1.length : Int) - 1)) = ji16 := (i64_w _).trans hji16; by_cases c17 : 0 ≤ (ji16)
         ·rw [if_pos c17] at H; have c17b0 : decide (0 ≤ (ji16)) = true := decide_eq_true c17; clear c17; by_cases c18 : (ji16) < (x3_1.length : Int)
          ·rw [if_pos c18] at H; have c18b0 : decide ((ji16) < (x3_1.length : Int)) = true := decide_eq_true c18; clear c18; by_cases c19 : ((rd_T50 l0_0 x5_2).f1) > ((rd_T109 x3_1 (ji16)).f0)
           ·rw [if_pos c19] at H; have c19b0 : decide (((rd_T109 x3_1 (ji16)).f0) < ((rd_T50 l0_0 x5_2).f1)) = true := decide_eq_true c19; clear c19; by_cases c20 : x4_2 < 0
            ·rw [if_pos c20] at H; have c20b0 : decide (x4_2 < 0) = true := decide_eq_true c20; clear c20; have H' := zk H; clear H; have hcz21_0 : wr.cell? ⟨gb1169, 0, none⟩ = some (.slice A0_0 l0_0.length c0_0) := zh BK1169.out 0; have hfz21_0 := blk_frozen BK1169.out 0; have p1170 : 0 ≤ (x5_2 : Int) := zT; have q1170 : x5_2 < (l0_0.length : Int) := zT; obtain ⟨ad1170, A1170_0, c1170_0, e1170, hx1170_0, hx1170_1, hl1170_0, hi1170_0⟩ := at_T50 HR0_0.out x5_2 p1170 q1170; cases e1170; replace hx1170_0 := zcl HB.out hx1170_0; replace hx1170_1 := zcl HB.out hx1170_1; have HR1170_0 := zk hi1170_0; have HC1170_0 := zk hl1170_0; clear hi1170_0 hl1170_0; replace p1170 := eq_true p1170; replace q1170 := eq_true q1170; have p1172 : 0 ≤ ((ji16) : Int) := zT; have q1172 : (ji16) < (x3_1.length : Int) := zT; obtain ⟨ad1172, e1172, hx1172_0, hx1172_1, hx1172_2⟩ := at_T109 (Kd.R_reads' HO_3.out).2.2 (ji16) p1172 q1172; cases e1172; replace p1172 := eq_true p1172; replace q1172 := eq_true q1172; go_wp2
             go_roundg k2
             case measure => have := HK1.out; have := HK2.out; omega
             case rel => exact ⟨(x5_2), (wrap64 (x5_2 + 1)), zR, zR, H', ⟨by have := HK1.out; have := HK2.out; omega⟩, ⟨by (with_reducible repeat (first | apply zA | apply zB | apply zC)); exact HO_3.out⟩, ⟨zb BK1169.out⟩, ⟨zU HB.out⟩⟩
            ·rw [if_neg c20] at H; have c20b0 : decide (x4_2 < 0) = false := decide_eq_false c20; clear c20; by_cases c22 : 0 ≤ x4_2
             ·rw [if_pos c22] at H; have c22b0 : decide (0 ≤ x4_2) = true := decide_eq_true c22; clear c22; by_cases c23 : x4_2 < (l0_0.length : Int)
              ·rw [if_pos c23] at H; have c23b0 : decide (x4_2 < (l0_0.length : Int)) = true := decide_eq_true c23; clear c23; by_cases c24 : ((rd_T50 l0_0 x5_2).f1) < ((rd_T50 l0_0 x4_2).f1)
               ·rw [if_pos c24] at H; have c24b0 : decide (((rd_T50 l0_0 x5_2).f1) < ((rd_T50 l0_0 x4_2).f1)) = true := decide_eq_true c24; clear c24; have H' := zk H; clear H; have hcz25_0 : wr.cell? ⟨gb1169, 0, none⟩ = some (.slice A0_0 l0_0.length c0_0) := zh BK1169.out 0; have hfz25_0 := blk_frozen BK1169.out 0; have p1170 : 0 ≤ (x5_2 : Int) := zT; have q1170 : x5_2 < (l0_0.length : Int) := zT; obtain ⟨ad1170, A1170_0, c1170_0, e1170, hx1170_0, hx1170_1, hl1170_0, hi1170_0⟩ := at_T50 HR0_0.out x5_2 p1170 q1170; cases e1170; replace hx1170_0 := zcl HB.out hx1170_0; replace hx1170_1 := zcl HB.out hx1170_1; have HR1170_0 := zk hi1170_0; have HC1170_0 := zk hl1170_0; clear hi1170_0 hl1170_0; replace p1170 := eq_true p1170; replace q1170 := eq_true q1170; have p1172 : 0 ≤ ((ji16) : Int) := zT; have q1172 : (ji16) < (x3_1.length : Int) := zT; obtain ⟨ad1172, e1172, hx1172_0, hx1172_1, hx1172_2⟩ := at_T109 (Kd.R_reads' HO_3.out).2.2 (ji16) p1172 q1172; cases e1172; replace p1172 := eq_true p1172; replace q1172 := eq_true q1172; have p1173 : 0 ≤ (x4_2 : Int) := zT; have q1173 : x4_2 < (l0_0.length : Int) := zT; obtain ⟨ad1173, A1173_0, c1173_0, e1173, hx1173_0, hx1173_1, hl1173_0, hi1173_0⟩ := at_T50 HR0_0.out x4_2 p1173 q1173; obtain rfl : ad1170 = ad1173 := (by injection e1173); replace hx1173_0 := zcl HB.out hx1173_0; replace hx1173_1 := zcl HB.out hx1173_1; have HR1173_0 := zk hi1173_0; have HC1173_0 := zk hl1173_0; clear hi1173_0 hl1173_0; replace p1173 := eq_true p1173; replace q1173 := eq_true q1173; go_wp2
                go_roundg k2
                case measure => have := HK1.out; have := HK2.out; omega
                case rel => exact ⟨(x5_2), (wrap64 (x5_2 + 1)), zR, zR, H', ⟨by have := HK1.out; have := HK2.out; omega⟩, ⟨by (with_reducible repeat (first | apply zA | apply zB | apply zC)); exact HO_3.out⟩, ⟨zb BK1169.out⟩, ⟨zU HB.out⟩⟩
               ·rw [if_neg c24] at H; have c24b0 : decide (((rd_T50 l0_0 x5_2).f1) < ((rd_T50 l0_0 x4_2).f1)) = false := decide_eq_false c24; clear c24; have H' := zk H; clear H; have hcz26_0 : wr.cell? ⟨gb1169, 0, none⟩ = some (.slice A0_0 l0_0.length c0_0) := zh BK1169.out 0; have hfz26_0 := blk_frozen BK1169.out 0; have p1170 : 0 ≤ (x5_2 : Int) := zT; have q1170 : x5_2 < (l0_0.length : Int) := zT; obtain ⟨ad1170, A1170_0, c1170_0, e1170, hx1170_0, hx1170_1, hl1170_0, hi1170_0⟩ := at_T50 HR0_0.out x5_2 p1170 q1170; cases e1170; replace hx1170_0 := zcl HB.out hx1170_0; replace hx1170_1 := zcl HB.out hx1170_1; have HR1170_0 := zk hi1170_0; have HC1170_0 := zk hl1170_0; clear hi1170_0 hl1170_0; replace p1170 := eq_true p1170; replace q1170 := eq_true q1170; have p1172 : 0 ≤ ((ji16) : Int) := zT; have q1172 : (ji16) < (x3_1.length : Int) := zT; obtain ⟨ad1172, e1172, hx1172_0, hx1172_1, hx1172_2⟩ := at_T109 (Kd.R_reads' HO_3.out).2.2 (ji16) p1172 q1172; cases e1172; replace p1172 := eq_true p1172; replace q1172 := eq_true q1172; have p1173 : 0 ≤ (x4_2 : Int) := zT; have q1173 : x4_2 < (l0_0.length : Int) := zT; obtain ⟨ad1173, A1173_0, c1173_0, e1173, hx1173_0, hx1173_1, hl1173_0, hi1173_0⟩ := at_T50 HR0_0.out x4_2 p1173 q1173; obtain rfl : ad1170 = ad1173 := (by injection e1173); replace hx1173_0 := zcl HB.out hx1173_0; replace hx1173_1 := zcl HB.out hx1173_1; have HR1173_0 := zk hi1173_0; have HC1173_0 := zk hl1173_0; clear hi1173_0 hl1173_0; replace p1173 := eq_true p1173; replace q1173 := eq_true q1173; go_wp2
                go_roundg k2
                case measure => have := HK1.out; have := HK2.out; omega
                case rel => exact ⟨(x4_2), (wrap64 (x5_2 + 1)), zR, zR, H', ⟨by have := HK1.out; have := HK2.out; omega⟩, ⟨by (with_reducible repeat (first | apply zA | apply zB | apply zC)); exact HO_3.out⟩, ⟨zb BK1169.out⟩, ⟨zU HB.out⟩⟩
              ·rw [if_neg c23] at H; exact absurd H (by simp)
             ·rw [if_neg c22] at H; exact absurd H (by simp)
           ·rw [if_neg c19] at H; have c19b0 : decide (((rd_T109 x3_1 (ji16)).f0) < ((rd_T50 l0_0 x5_2).f1)) = false := decide_eq_false c19; clear c19; have H' := zk H; clear H; have hcz27_0 : wr.cell? ⟨gb1169, 0, none⟩ = some (.slice A0_0 l0_0.length c0_0) := zh BK1169.out 0; have hfz27_0 := blk_frozen BK1169.out 0; have p1170 : 0 ≤ (x5_2 : Int) := zT; have q1170 : x5_2 < (l0_0.length : Int) := zT; obtain ⟨ad1170, A1170_0, c1170_0, e1170, hx1170_0, hx1170_1, hl1170_0, hi1170_0⟩ := at_T50 HR0_0.out x5_2 p1170 q1170; cases e1170; replace hx1170_0 := zcl HB.out hx1170_0; replace hx1170_1 := zcl HB.out hx1170_1; have HR1170_0 := zk hi1170_0; have HC1170_0 := zk hl1170_0; clear hi1170_0 hl1170_0; replace p1170 := eq_true p1170; replace q1170 := eq_true q1170; have p1172 : 0 ≤ ((ji16) : Int) := zT; have q1172 : (ji16) < (x3_1.length : Int) := zT; obtain ⟨ad1172, e1172, hx1172_0, hx1172_1, hx1172_2⟩ := at_T109 (Kd.R_reads' HO_3.out).2.2 (ji16) p1172 q1172; cases e1172; replace p1172 := eq_true p1172; replace q1172 := eq_true q1172; go_wp2
            go_roundg k2
            case measure => have := HK1.out; have := HK2.out; omega
            case rel => exact ⟨(x4_2), (wrap64 (x5_2 + 1)), zR, zR, H', ⟨by have := HK1.out; have := HK2.out; omega⟩, ⟨by (with_reducible repeat (first | apply zA | apply zB | apply zC)); exact HO_3.out⟩, ⟨zb BK1169.out⟩, ⟨zU HB.out⟩⟩
          ·rw [if_neg c18] at H; exact absurd H (by simp)
         ·rw [if_neg c17] at H; exact absurd H (by simp)
       ·rw [if_neg c7] at H; exact absurd H (by simp)
      ·rw [if_neg c6] at H; have c6b0 : decide (x5_2 < (l0_0.length : Int)) = false := decide_eq_false c6; clear c6; by_cases c28 : 0 ≤ x4_2
       ·rw [if_pos c28] at H; have c28b0 : decide (0 ≤ x4_2) = true := decide_eq_true c28; clear c28; by_cases c29 : x4_2 < (l0_0.length : Int)
        ·rw [if_pos c29] at H; have c29b0 : decide (x4_2 < (l0_0.length : Int)) = true := decide_eq_true c29; clear c29; replace H := Option.bind_eq_some_iff.mp H; obtain ⟨t1176, A300, H⟩ := H; replace H : (if x3_1.length < 5864062014805 then (leadtrailref15_Rows.l0 k2 (x3_1 ++ [(⟨(rd_T50 l0_0 x4_2).f1, wrap64 ((wrap64 (((rd_T50 l0_0 x4_2).f1) + t1176)) - 1), x4_2⟩ : S109)]) l0_0) else (none)) = some r := H; have A30 := zk A300; clear A300; by_cases c31 : x3_1.length < 5864062014805
         ·rw [if_pos c31] at H; have LMc31 := zk c31; clear c31; obtain ⟨y1177, hy1177⟩ : ∃ y_ : List (S109), y_ = (x3_1 ++ [(⟨(rd_T50 l0_0 x4_2).f1, wrap64 ((wrap64 (((rd_T50 l0_0 x4_2).f1) + t1176)) - 1), x4_2⟩ : S109)]) := ⟨_, rfl⟩
          replace H : (leadtrailref15_Rows.l0 k2 y1177 l0_0) = some r := by first | (rw [hy1177]; with_reducible exact H) | (have H2_ := (Option.bind_some _ _).symm.trans H; rw [hy1177]; with_reducible exact H2_) | (have H2_ := (Option.bind_some _ _).symm.trans H; with_reducible exact H2_) | with_reducible exact H | (rw [hy1177]; exact H) | exact H
          have Ny1177 := zk hy1177; clear hy1177; have H' := zk H; clear H; have hcz32_0 : wr.cell? ⟨gb1169, 0, none⟩ = some (.slice A0_0 l0_0.length c0_0) := zh BK1169.out 0; have hfz32_0 := blk_frozen BK1169.out 0; have p1174 : 0 ≤ (x4_2 : Int) := zT; have q1174 : x4_2 < (l0_0.length : Int) := zT; obtain ⟨ad1174, A1174_0, c1174_0, e1174, hx1174_0, hx1174_1, hl1174_0, hi1174_0⟩ := at_T50 HR0_0.out x4_2 p1174 q1174; cases e1174; replace hx1174_0 := zcl HB.out hx1174_0; replace hx1174_1 := zcl HB.out hx1174_1; have HR1174_0 := zk hi1174_0; have HC1174_0 := zk hl1174_0; clear hi1174_0 hl1174_0; replace p1174 := eq_true p1174; replace q1174 := eq_true q1174; try go_wp2_with (first | ((with_reducible refine gate_dst (N := 7) rfl ?_); (try (refine gate_guard (by rfl) ?_; dsimp only)); refine box_event ?hg (N := 7) ?hd (cs := #[.slice none 0 0, .int .i64 0]) (t := 50) ?hr ?_; (case hd => rfl); (case hg => rfl); (case hr => first | (go_simp; done) | (go_simp; rfl)); intro gb1175 hg w33 hbox hb; replace HO_3 := zk (Kd.R_below (zr HO_3.out) hb); have BK1175 := zk (hbox); have GE1175 := zk ((zg hg HB.out : w.heap.size ≤ gb1175)); replace HB := zk (below_step (zU HB.out) hb); have NB1169_1175 := zk ((zlt hg BK1169.out : gb1169 ≠ gb1175)); have NB1175_1169 := zk ((zgt hg BK1169.out : gb1175 ≠ gb1169)); replace BK1169 := zk (zbb BK1169.out hb);  clear hb hbox hg; have hnb34 := NB1175_1169.out; have hnc34 := NB1169_1175.out; have hcz35_0 : w33.cell? ⟨gb1175, 0, none⟩ = some (.slice none 0 0) := zh BK1175.out 0; have hcz35_1 : w33.cell? ⟨gb1175, 1, none⟩ = some (.int .i64 0) := zh BK1175.out 1; have hfz35_0 := blk_frozen BK1175.out 0; have hfz35_1 := blk_frozen BK1175.out 1))
          have n0_ : Aside0 (Kd.R k109 109 ((w33.setCell ⟨gb1175, 0, none⟩ (.slice A1174_0 ((rd_T50 l0_0 x4_2).f0).length c1174_0)).setCell ⟨gb1175, 1, none⟩ (.int .i64 ((rd_T50 l0_0 x4_2).f1))) w.heap.size (fun _ => True) (.slice Ao4 x3_1.length co4) x3_1) := ⟨by (with_reducible repeat (first | apply zA | apply zB | apply zC)); exact Kd.R_mono (Kd.R_far (p := ⟨gb1175, 1, none⟩) (Kd.R_far (p := ⟨gb1175, 0, none⟩) (Kd.R_types HO_3.out BK1175.out (by decide)) (fun _ hk => hk.2) (.slice A1174_0 ((rd_T50 l0_0 x4_2).f0).length c1174_0)) (fun _ hk => hk.2) (.int .i64 ((rd_T50 l0_0 x4_2).f1))) (fun _ hk => trivial)⟩; have n1_ : Aside0 (((w33.setCell ⟨gb1175, 0, none⟩ (.slice A1174_0 ((rd_T50 l0_0 x4_2).f0).length c1174_0)).setCell ⟨gb1175, 1, none⟩ (.int .i64 ((rd_T50 l0_0 x4_2).f1))).heap[gb1169]? = some (.cells #[.slice (some ad1174) l0_0.length c0_0] 24 (0, 0))) := ⟨zb BK1169.out⟩; have n2_ : Aside0 (((w33.setCell ⟨gb1175, 0, none⟩ (.slice A1174_0 ((rd_T50 l0_0 x4_2).f0).length c1174_0)).setCell ⟨gb1175, 1, none⟩ (.int .i64 ((rd_T50 l0_0 x4_2).f1))).heap[gb1175]? = some (.cells #[.slice A1174_0 ((rd_T50 l0_0 x4_2).f0).length c1174_0, .int .i64 ((rd_T50 l0_0 x4_2).f1)] 50 (0, 0))) := ⟨by (with_reducible repeat (first | refine blk_drewN ?_ _ | refine blk_drew ?_ | refine blk_alloc ?_ _)); refine blk_put (cs := #[.slice A1174_0 ((rd_T50 l0_0 x4_2).f0).length c1174_0, .int .i64 0]) ?_ 1 _ rfl; (with_reducible repeat (first | refine blk_drewN ?_ _ | refine blk_drew ?_ | refine blk_alloc ?_ _)); refine blk_put (cs := #[.slice none 0 0, .int .i64 0]) ?_ 0 _ rfl; exact zb BK1175.out⟩; have n3_ : Aside0 (Below w.heap.size w ((w33.setCell ⟨gb1175, 0, none⟩ (.slice A1174_0 ((rd_T50 l0_0 x4_2).f0).length c1174_0)).setCell ⟨gb1175, 1, none⟩ (.int .i64 ((rd_T50 l0_0 x4_2).f1)))) := ⟨zU HB.out⟩; (try clear HO_3); (try clear BK1169); (try clear BK1175); (try clear HB); generalize ((w33.setCell ⟨gb1175, 0, none⟩ (.slice A1174_0 ((rd_T50 l0_0 x4_2).f0).length c1174_0)).setCell ⟨gb1175, 1, none⟩ (.int .i64 ((rd_T50 l0_0 x4_2).f1))) = w36 at n0_ n1_ n2_ n3_ ⊢; have HO_3 := n0_; have BK1169 := n1_; have BK1175 := n2_; have HB := n3_; clear n0_ n1_ n2_ n3_; have n0_ := zk (Kd.R_drew HO_3.out); have n1_ := zk (blk_drew BK1169.out); have n2_ := zk (blk_drew BK1175.out); have n3_ := zk (below_drew1 HB.out); clear HO_3; clear BK1169; clear BK1175; clear HB; have HO_3 := n0_; have BK1169 := n1_; have BK1175 := n2_; have HB := n3_; clear n0_ n1_ n2_ n3_; refine start_ (n := 14) (S := fun w' => w'.cell? ⟨gb1175, 0, none⟩ = some (.slice A1174_0 ((rd_T50 l0_0 x4_2).f0).length c1174_0) ∧ w'.cell? ⟨gb1175, 1, none⟩ = some (.int .i64 ((rd_T50 l0_0 x4_2).f1))) (ds := []) #[false, false, false, false, false, false, false, false, false, false, false, false, false, false] zz rfl rfl ⟨(blk_cell BK1175.out 0).trans rfl, (blk_cell BK1175.out 1).trans rfl⟩ (fun hHeld => ?_); refine with_tabW leadtrailref15_Rows.tab11 leadtrailref15_Rows.bits11 (fun HT_ HW_ => ?_); generalize w36.drew = w37 at HO_3 BK1169 BK1175 HB hHeld ⊢; refine zp 0 (some 61) (v := ?_) (a' := ?_) (bz 14 1) rfl rfl HT_.out zz zQ ?_ ?_ ?_; rotate_left
          ·intro w'; go_simp; with_reducible rfl
          rotate_left
          ·simp only [Act.put, zv, i64_w, i32_w]; rfl
          refine zp 1 (some 62) (v := ?_) (a' := ?_) (bz 14 3) rfl rfl HT_.out zz zQ ?_ ?_ ?_; rotate_left
          ·intro w'; go_simp; with_reducible rfl
          rotate_left
          ·simp only [Act.put, zv, i64_w, i32_w]; rfl
          refine zp 3 (some 64) (v := ?_) (a' := ?_) (bz 14 11) rfl rfl HT_.out zz zQ ?_ ?_ ?_; rotate_left
          ·intro w'; go_simp; with_reducible rfl
          rotate_left
          ·simp only [Act.put, zv, i64_w, i32_w]; rfl
          refine zp 9 (some 70) (v := ?_) (a' := ?_) (bz 14 523) rfl rfl HT_.out zz zQ ?_ ?_ ?_; rotate_left
          ·intro w'; go_simp; with_reducible rfl
          rotate_left
          ·simp only [Act.put, zv, i64_w, i32_w]; rfl
          refine take_ (i := 2) (N := some 63) (v := ?_) (a' := ?_) (bz 14 527) rfl rfl (take_ofW HT_.out HW_.out zz) zQ (Or.inl ⟨by rfl, ?_⟩) hHeld ?_ ?_; rotate_left
          ·rintro w' ⟨s0, s1⟩; go_simp; with_reducible rfl
          rotate_left
          ·simp only [Act.put, zv, i64_w, i32_w]; rfl
          refine take_ (i := 4) (N := some 65) (v := ?_) (a' := ?_) (bz 14 543) rfl rfl (take_ofW HT_.out HW_.out zz) zQ (Or.inl ⟨by rfl, ?_⟩) hHeld ?_ ?_; rotate_left
          ·rintro w' ⟨s0, s1⟩; go_simp; with_reducible rfl
          rotate_left
          ·simp only [Act.put, zv, i64_w, i32_w]; rfl
          refine take_ (i := 5) (N := some 66) (v := ?_) (a' := ?_) (bz 14 575) rfl rfl (take_ofW HT_.out HW_.out zz) zQ (Or.inl ⟨by rfl, ?_⟩) hHeld ?_ ?_; rotate_left
          ·rintro w' ⟨s0, s1⟩; go_simp; with_reducible rfl
          rotate_left
          ·simp only [Act.put, zv, i64_w, i32_w]; rfl
          refine one_ (i := 6) (N := some 67) (bz 14 639) rfl rfl (one_of HT_.out zz) (by decide) (fun K hK => ?_); refine goes_ Try.func81 zz rfl #[.agg #[.slice A1174_0 ((rd_T50 l0_0 x4_2).f0).length c1174_0, .int .i64 ((rd_T50 l0_0 x4_2).f1)]] (by rfl) rfl rfl zM ?_; with_reducible refine (leadtrailref08_Count.calls k2 _ _ ((rd_T50 l0_0 x4_2).f0) ((rd_T50 l0_0 x4_2).f1) t1176 _ ?side1 ?side2 A30.out).mono ?_; (case side1 => exact zc (Kd.C_below HR1174_0.out HB.out))
          (case side2 => exact HC1174_0.out)
          rintro e w38 ⟨rfl, hb⟩; refine ⟨_, rfl, ?_⟩; have n0_ := zk (Kd.R_below (zr HO_3.out) hb); have n1_ := zk (zbb BK1169.out hb); have n2_ := zk (zbb BK1175.out hb); have n3_ := zk (below_step (zU HB.out) hb); clear HO_3; clear BK1169; clear BK1175; clear HB; have HO_3 := n0_; have BK1169 := n1_; have BK1175 := n2_; have HB := n3_; clear n0_ n1_ n2_ n3_; (try clear hb); (try clear hb2); (try clear hk); (try clear hi); refine hK.out _ _ ⟨(blk_cell BK1175.out 0).trans rfl, (blk_cell BK1175.out 1).trans rfl⟩ (fun hHeld => ?_); clear hK K; refine norm_ (a' := ?_) ?_ ?_; rotate_left
          ·show Act.put _ (some 67) _ = _; simp only [Act.put, zv, i64_w, i32_w]; rfl
          refine zp 7 (some 68) (v := ?_) (a' := ?_) (bz 14 767) rfl rfl HT_.out zz zQ ?_ ?_ ?_; rotate_left
          ·intro w'; go_simp; with_reducible rfl
          rotate_left
          ·simp only [Act.put, zv, i64_w, i32_w]; rfl
          refine zp 8 (some 69) (v := ?_) (a' := ?_) (bz 14 1023) rfl rfl HT_.out zz zQ ?_ ?_ ?_; rotate_left
          ·intro w'; go_simp; with_reducible rfl
          rotate_left
          ·simp only [Act.put, zv, i64_w, i32_w]; rfl
          refine zp 10 (some 71) (v := ?_) (a' := ?_) (bz 14 2047) rfl rfl HT_.out zz zQ ?_ ?_ ?_; rotate_left
          ·intro w'; go_simp; with_reducible rfl
          rotate_left
          ·simp only [Act.put, zv, i64_w, i32_w]; rfl
          refine one_ (i := 11) (N := some 72) (bz 14 4095) rfl rfl (one_of HT_.out zz) (by decide) (fun K hK => ?_); refine value_ (w1 := ?_) (v := ?_) (by rfl) rfl ?_ ?_; rotate_left 2
          ·go_simp; constructor
           ·rfl
           ·rfl
          refine hK.out _ _ ⟨(blk_cell (blk_alloc BK1175.out _) 0).trans rfl, (blk_cell (blk_alloc BK1175.out _) 1).trans rfl⟩ (fun hHeld => ?_); clear hK K; refine norm_ (a' := ?_) ?_ ?_; rotate_left
          ·show Act.put _ (some 72) _ = _; simp only [Act.put, zv, i64_w, i32_w]; rfl
          refine one_ (i := 12) (N := some 73) (bz 14 8191) rfl rfl (one_of HT_.out zz) (by decide) (fun K hK => ?_); refine Kd.R_append_step k109 (w0 := w) w.heap.size (by rfl) (.tmp 61) (.tmp 72) 106 109 (.agg #[(.int .i64 0), (.int .i64 0), (.int .i64 0)]) 24 rfl Try.underlying106 info109 rfl (by decide) (by omega) (.slice Ao4 x3_1.length co4) x3_1 (⟨(rd_T50 l0_0 x4_2).f1, wrap64 ((wrap64 (((rd_T50 l0_0 x4_2).f1) + t1176)) - 1), x4_2⟩ : S109) [.int .i64 ((rd_T50 l0_0 x4_2).f1), .int .i64 (wrap64 ((wrap64 (((rd_T50 l0_0 x4_2).f1) + t1176)) - 1)), .int .i64 x4_2] (fun _ => True) (fun _ => False) rfl rfl ?aP (fun _ hk => hk.elim) ?aF ?aO ?aB ?aS ?aL ?_; (case aP => exact k109_mkM _ _ _ (⟨(rd_T50 l0_0 x4_2).f1, wrap64 ((wrap64 (((rd_T50 l0_0 x4_2).f1) + t1176)) - 1), x4_2⟩ : S109))
          (case aB => exact (zU HB.out))
          (case aF => exact (fun _ _ => trivial))
          (case aO => exact (zr HO_3.out))
          (case aS => exact (below_size (zU HB.out)))
          (case aL => have := LMc31.out; omega)
          intro v1178 w39 ho hb hg hat; rw [← Ny1177.out] at ho; have n0_ := zk (blk_grown (g := gb1169) (o := .cells #[.slice (some ad1174) l0_0.length c0_0] 24 (0, 0)) (zb BK1169.out) hg (Kd.R_ne HO_3.out BK1169.out (by decide))); have n1_ := zk (blk_grown (g := gb1175) (o := .cells #[.slice A1174_0 ((rd_T50 l0_0 x4_2).f0).length c1174_0, .int .i64 ((rd_T50 l0_0 x4_2).f1)] 50 (0, 0)) (zb BK1175.out) hg (Kd.R_ne HO_3.out BK1175.out (by decide))); have n2_ := zk (hb); have n3_ := zk (ho); clear BK1169; clear BK1175; clear HB; clear HO_3; have BK1169 := n0_; have BK1175 := n1_; have HB := n2_; have HO1179 := n3_; clear n0_ n1_ n2_ n3_; clear ho hb hg hat; refine hK.out _ _ ⟨(blk_cell BK1175.out 0).trans rfl, (blk_cell BK1175.out 1).trans rfl⟩ (fun hHeld => ?_); clear hK K; refine norm_ (a' := ?_) ?_ ?_; rotate_left
          ·show Act.put _ (some 73) _ = _; simp only [Act.put, zv, i64_w, i32_w]; rfl
          refine zp 13 (some 3) (v := ?_) (a' := ?_) (bz 14 16383) rfl rfl HT_.out zz zQ ?_ ?_ ?_; rotate_left
          ·intro w'; go_simp; with_reducible rfl
          rotate_left
          ·simp only [Act.put, zv, i64_w, i32_w]; rfl
          refine done_ (done_of HT_.out zz) ?_; try go_wp2
          go_roundg k2
          case measure => have := HK1.out; have := HK2.out; omega
          case rel => exact ⟨(y1177), H', ⟨by have := HK1.out; have := HK2.out; omega⟩, ⟨by (with_reducible repeat (first | apply zA | apply zB | apply zC)); exact HO1179.out⟩, ⟨zb BK1169.out⟩, ⟨zU HB.out⟩⟩
         ·rw [if_neg c31] at H; exact absurd H (by simp)
        ·rw [if_neg c29] at H; exact absurd H (by simp)
       ·rw [if_neg c28] at H; exact absurd H (by simp)
   ·rw [if_neg c3] at H; have c3b0 : decide ((x3_1.length : Int) < (l0_0.length : Int)) = false := decide_eq_false c3; have c3b1 : decide (x3_1.length < l0_0.length) = false := decide_eq_false (fun h => c3 (Int.ofNat_lt.mpr h)); clear c3; obtain rfl := Option.some.inj H; obtain ⟨Ao40, co40, eo40⟩ := Kd.R_slice HO_3.out; subst eo40; have hcz41_0 : wr.cell? ⟨gb1169, 0, none⟩ = some (.slice A0_0 l0_0.length c0_0) := zh BK1169.out 0; have hfz41_0 := blk_frozen BK1169.out 0; go_wp2
    go_ret
    exact ⟨_, ze, by (with_reducible repeat (first | apply zA | apply zB | apply zC)); exact HO_3.out, zU HB.out⟩
end Go.Proofs.Ytkcklnmbeinfkaa.B
