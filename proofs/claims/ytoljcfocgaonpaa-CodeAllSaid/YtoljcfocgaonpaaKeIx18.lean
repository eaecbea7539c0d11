/- Words and walks of this claim, of the text Ix18. -/
import Derived.Test.YtoljcfocgaonpaaKeQW0
import Derived.Test.YtoljcfocgaonpaaKeIx0
import Derived.Test.YtoljcfocgaonpaaKeIx7
import Derived.Test.YtoljcfocgaonpaaKeIx8
namespace Go.Proofs.Ytoljcfocgaonpaa.I
open Go.RowKit Go.Proofs.YtoljcfocgaonpaaW.PrintWords Go.Proofs.YtoljcfocgaonpaaW.PrintLast Go.Proofs.YtoljcfocgaonpaaW.PrintMore
attribute [local go_sem] max2_int min2_int max_two min_two max_three min_three max_four min_four
set_option linter.unusedVariables false
set_option linter.unusedSimpArgs false
def leadtrailref08_Count.l0 : Nat → Int → Int → List (List (S34)) → Int → Option (Int)
 | 0, _, _, _, _ => none
 | k + 1, x3, x4, x539000, x539001 => if x4 < (x539000.length : Int) then (if 0 ≤ x4 then ((leadtrailref03_Size.f k (rd_L4 x539000 x4)).bind fun t540 => (if (wrap64 (x3 * t540)) > 1073741824 then (leadtrailref08_Count.l0 k 1073741825 (wrap64 (x4 + 1)) x539000 x539001) else (leadtrailref08_Count.l0 k (wrap64 (x3 * t540)) (wrap64 (x4 + 1)) x539000 x539001))) else (none)) else (some x3)
def leadtrailref08_Count.f (k : Nat) (l0_0 : List (List (S34))) (a0_1 : Int) : Option (Int) := leadtrailref08_Count.l0 k 1 0 l0_0 a0_1
set_option maxHeartbeats 8000000 in
set_option maxRecDepth 100000 in
theorem leadtrailref08_Count.calls (k : Nat) (A0_0 : Option Addr) (c0_0 : Nat) (l0_0 : List (List (S34))) (a0_1 : Int) (r : Int) (w : World) (hr0_0 : Kd.C (Kd.slice 34 k34) w A0_0 l0_0.length l0_0) (hc0_0 : l0_0.length ≤ c0_0) (h : leadtrailref08_Count.f k l0_0 a0_1 = some r) :
 Calls Try.prog 83 #[.agg #[.slice A0_0 l0_0.length c0_0, .int .i64 a0_1]] w fun e w' => e = .returned (.int .i64 r) ∧ Below w.heap.size w w' := by
 have hu47 := Try.underlying47; have HR0_0 := zk hr0_0; have HC0_0 := zk hc0_0; clear hr0_0 hc0_0; have HB := zk (Below.refl w.heap.size w); have H : (leadtrailref08_Count.l0 k 1 0 l0_0 a0_1) = some r := h; clear h; have H' := zk H; clear H; go_enter Try.func83, Try.ntmps83
 go_wp2_with (first | ((with_reducible refine gate_dst (N := 1) rfl ?_); refine box_event ?hg (N := 1) ?hd (cs := #[.slice A0_0 l0_0.length c0_0, .int .i64 a0_1]) (t := 47) ?hr ?_; (case hd => rfl); (case hg => rfl); (case hr => first | (go_simp; done) | (go_simp; rfl)); intro gb538 hg w2 hbox hb; have BK538 := zk (hbox); have GE538 := zk ((zg hg HB.out : w.heap.size ≤ gb538)); replace HB := zk (below_step (zU HB.out) hb);  clear hb hbox hg))
 go_loopg [3, 4] k (fun kq v3 v4 w' => ∃ (x3_1 : Int) (x4_1 : Int), v3 = .int .i64 x3_1 ∧ v4 = .int .i64 x4_1 ∧ Aside0 (leadtrailref08_Count.l0 kq x3_1 x4_1 l0_0 a0_1 = some r) ∧ Aside0 (kq ≤ k) ∧ Aside0 (w'.heap[gb538]? = some (.cells #[(.slice A0_0 l0_0.length c0_0), .int .i64 a0_1] 47 (0, 0))) ∧ Aside0 (Below w.heap.size w w'))
 case atStart => exact ⟨(1), (0), zR, zR, H', ⟨Nat.le_refl _⟩, ⟨zb BK538.out⟩, ⟨zU HB.out⟩⟩
 case round =>
  clear H'; (try clear p2); obtain ⟨x3_1, x4_1, rfl, rfl, HA, HK1, BK538, HB⟩ := hrel
  cases gk with
  | zero => exact absurd HA.out (by simp [leadtrailref08_Count.l0])
  | succ k1 =>
   have H := HA.out; clear HA; simp only [leadtrailref08_Count.l0] at H; by_cases c3 : x4_1 < (l0_0.length : Int)
   ·rw [if_pos c3] at H; have c3b0 : decide (x4_1 < (l0_0.length : Int)) = true := decide_eq_true c3; clear c3; by_cases c4 : 0 ≤ x4_1
    ·rw [if_pos c4] at H; have c4b0 : decide (0 ≤ x4_1) = true := decide_eq_true c4; clear c4; replace H := Option.bind_eq_some_iff.mp H; obtain ⟨t540, A50, H⟩ := H; replace H : (if (wrap64 (x3_1 * t540)) > 1073741824 then (leadtrailref08_Count.l0 k1 1073741825 (wrap64 (x4_1 + 1)) l0_0 a0_1) else (leadtrailref08_Count.l0 k1 (wrap64 (x3_1 * t540)) (wrap64 (x4_1 + 1)) l0_0 a0_1)) = some r := H; have A5 := zk A50; clear A50; by_cases c6 : (wrap64 (x3_1 * t540)) > 1073741824
     ·rw [if_pos c6] at H; have c6b0 : decide (1073741824 < (wrap64 (x3_1 * t540))) = true := decide_eq_true c6; clear c6; have H' := zk H; clear H; have hcz7_0 : wr.cell? ⟨gb538, 0, none⟩ = some (.slice A0_0 l0_0.length c0_0) := zh BK538.out 0; have hcz7_1 : wr.cell? ⟨gb538, 1, none⟩ = some (.int .i64 a0_1) := zh BK538.out 1; have hfz7_0 := blk_frozen BK538.out 0; have hfz7_1 := blk_frozen BK538.out 1; have p539 : 0 ≤ (x4_1 : Int) := zT; have q539 : x4_1 < (l0_0.length : Int) := zT; obtain ⟨ad539, A539_0, c539_0, e539, hx539_0, hl539_0, hi539_0⟩ := at_L4 HR0_0.out x4_1 p539 q539; cases e539; replace hx539_0 := zcl HB.out hx539_0; have HR539_0 := zk hi539_0; have HC539_0 := zk hl539_0; clear hi539_0 hl539_0; replace p539 := eq_true p539; replace q539 := eq_true q539; go_wp2_with (first | ((with_reducible refine gate_callee (f := 19) rfl ?_); refine goesL_ (some 18) rfl rfl Try.func19 zz rfl #[.slice A539_0 (rd_L4 l0_0 x4_1).length c539_0] rfl zM ?_; (with_reducible refine (leadtrailref03_Size.calls k1 _ _ (rd_L4 l0_0 x4_1) t540 _ ?side1 ?side2 A5.out).mono ?_); (case side1 => exact zc (Kd.C_below HR539_0.out HB.out)); (case side2 => exact HC539_0.out); rintro e w8 ⟨rfl, hb⟩; refine ⟨_, rfl, ?_⟩; replace BK538 := zk (zbb BK538.out hb); replace HB := zk (below_step (zU HB.out) hb);  (try clear hb); (try clear hb2); (try clear hk); (try clear hi)))
      go_roundg k1
      case measure => have := HK1.out; omega
      case rel => exact ⟨(1073741825), (wrap64 (x4_1 + 1)), zR, zR, H', ⟨by have := HK1.out; omega⟩, ⟨zb BK538.out⟩, ⟨zU HB.out⟩⟩
     ·rw [if_neg c6] at H; have c6b0 : decide (1073741824 < (wrap64 (x3_1 * t540))) = false := decide_eq_false c6; clear c6; have H' := zk H; clear H; have hcz9_0 : wr.cell? ⟨gb538, 0, none⟩ = some (.slice A0_0 l0_0.length c0_0) := zh BK538.out 0; have hcz9_1 : wr.cell? ⟨gb538, 1, none⟩ = some (.int .i64 a0_1) := zh BK538.out 1; have hfz9_0 := blk_frozen BK538.out 0; have hfz9_1 := blk_frozen BK538.out 1; have p539 : 0 ≤ (x4_1 : Int) := zT; have q539 : x4_1 < (l0_0.length : Int) := zT; obtain ⟨ad539, A539_0, c539_0, e539, hx539_0, hl539_0, hi539_0⟩ := at_L4 HR0_0.out x4_1 p539 q539; cases e539; replace hx539_0 := zcl HB.out hx539_0; have HR539_0 := zk hi539_0; have HC539_0 := zk hl539_0; clear hi539_0 hl539_0; replace p539 := eq_true p539; replace q539 := eq_true q539; go_wp2_with (first | ((with_reducible refine gate_callee (f := 19) rfl ?_); refine goesL_ (some 18) rfl rfl Try.func19 zz rfl #[.slice A539_0 (rd_L4 l0_0 x4_1).length c539_0] rfl zM ?_; (with_reducible refine (leadtrailref03_Size.calls k1 _ _ (rd_L4 l0_0 x4_1) t540 _ ?side1 ?side2 A5.out).mono ?_); (case side1 => exact zc (Kd.C_below HR539_0.out HB.out)); (case side2 => exact HC539_0.out); rintro e w10 ⟨rfl, hb⟩; refine ⟨_, rfl, ?_⟩; replace BK538 := zk (zbb BK538.out hb); replace HB := zk (below_step (zU HB.out) hb);  (try clear hb); (try clear hb2); (try clear hk); (try clear hi)))
      go_roundg k1
      case measure => have := HK1.out; omega
      case rel => exact ⟨(wrap64 (x3_1 * t540)), (wrap64 (x4_1 + 1)), zR, zR, H', ⟨by have := HK1.out; omega⟩, ⟨zb BK538.out⟩, ⟨zU HB.out⟩⟩
    ·rw [if_neg c4] at H; exact absurd H (by simp)
   ·rw [if_neg c3] at H; have c3b0 : decide (x4_1 < (l0_0.length : Int)) = false := decide_eq_false c3; clear c3; obtain rfl := Option.some.inj H; have hcz11_0 : wr.cell? ⟨gb538, 0, none⟩ = some (.slice A0_0 l0_0.length c0_0) := zh BK538.out 0; have hcz11_1 : wr.cell? ⟨gb538, 1, none⟩ = some (.int .i64 a0_1) := zh BK538.out 1; have hfz11_0 := blk_frozen BK538.out 0; have hfz11_1 := blk_frozen BK538.out 1; go_wp2
    go_ret
    exact ⟨ze, zU HB.out⟩
mutual
def leadtrailref08_ValidShape.j0 : Nat → Bool → List (List (S34)) → Int → Option (Bool)
 | 0, _, _, _ => none
 | k + 1, x23, x542000, x542001 => if x23 = true then (some false) else (leadtrailref08_ValidShape.l0 k 0 x542000 x542001)
def leadtrailref08_ValidShape.l0 : Nat → Int → List (List (S34)) → Int → Option (Bool)
 | 0, _, _, _ => none
 | k + 1, x3, x542000, x542001 => if x3 < (x542000.length : Int) then (if 0 ≤ x3 then (if ((rd_L4 x542000 x3).length : Int) = 0 then (some false) else ((leadtrailref03_Valid.f k (rd_L4 x542000 x3)).bind fun t545 => (if t545 = true then (leadtrailref08_ValidShape.l0 k (wrap64 (x3 + 1)) x542000 x542001) else (some false)))) else (none)) else ((leadtrailref08_Count.f k x542000 x542001).bind fun t542 => (some (decide ((wrap64 ((wrap64 (x542001 + t542)) - 1)) ≤ 1073741823))))
end
def leadtrailref08_ValidShape.f (k : Nat) (l0_0 : List (List (S34))) (a0_1 : Int) : Option (Bool) := if (l0_0.length : Int) < 1 then (leadtrailref08_ValidShape.j0 k true l0_0 a0_1) else (if (l0_0.length : Int) > 8 then (leadtrailref08_ValidShape.j0 k true l0_0 a0_1) else (if a0_1 < 0 then (leadtrailref08_ValidShape.j0 k true l0_0 a0_1) else (leadtrailref08_ValidShape.j0 k (decide (a0_1 > 1073741823)) l0_0 a0_1)))
def leadtrailref08_ValidShape.T8 : Bool × List (List Nat × List Nat) := (true, [([], []), ([0], [0]), ([], []), ([2], [2]), ([1, 3], [1, 3]), ([4], [4]), ([5], [5]), ([6, 3, 0, 1, 2, 3, 4, 5, 6], [6])])
def leadtrailref08_ValidShape.B8 : List Nat := [0, 1, 0, 4, 15, 31, 63, 127]
theorem leadtrailref08_ValidShape.tab8 : rtab .any (opsOf Try.f82 8) = leadtrailref08_ValidShape.T8 := by kernel_rfl
theorem leadtrailref08_ValidShape.bits8 : waitsOk leadtrailref08_ValidShape.T8.2 leadtrailref08_ValidShape.B8 = true := by kernel_rfl
set_option maxHeartbeats 8000000 in
set_option maxRecDepth 100000 in
theorem leadtrailref08_ValidShape.calls (k : Nat) (A0_0 : Option Addr) (c0_0 : Nat) (l0_0 : List (List (S34))) (a0_1 : Int) (r : Bool) (w : World) (hr0_0 : Kd.C (Kd.slice 34 k34) w A0_0 l0_0.length l0_0) (hc0_0 : l0_0.length ≤ c0_0) (h : leadtrailref08_ValidShape.f k l0_0 a0_1 = some r) :
 Calls Try.prog 82 #[.agg #[.slice A0_0 l0_0.length c0_0, .int .i64 a0_1]] w fun e w' => e = .returned (.bool r) ∧ Below w.heap.size w w' := by
 have hu47 := Try.underlying47; have HR0_0 := zk hr0_0; have HC0_0 := zk hc0_0; clear hr0_0 hc0_0; have HB := zk (Below.refl w.heap.size w); have H : (if (l0_0.length : Int) < 1 then (leadtrailref08_ValidShape.j0 k true l0_0 a0_1) else (if (l0_0.length : Int) > 8 then (leadtrailref08_ValidShape.j0 k true l0_0 a0_1) else (if a0_1 < 0 then (leadtrailref08_ValidShape.j0 k true l0_0 a0_1) else (leadtrailref08_ValidShape.j0 k (decide (a0_1 > 1073741823)) l0_0 a0_1)))) = some r := h; clear h; have HC2 := zk H; clear H; go_enter Try.func82, Try.ntmps82
 go_upto_region 1 with (first | ((with_reducible refine gate_dst (N := 1) rfl ?_); (try (refine gate_guard (by rfl) ?_; dsimp only)); refine box_event ?hg (N := 1) ?hd (cs := #[.slice A0_0 l0_0.length c0_0, .int .i64 a0_1]) (t := 47) ?hr ?_; (case hd => rfl); (case hg => rfl); (case hr => first | (go_simp; done) | (go_simp; rfl)); intro gb541 hg w3 hbox hb; have BK541 := zk (hbox); have GE541 := zk ((zg hg HB.out : w.heap.size ≤ gb541)); replace HB := zk (below_step (zU HB.out) hb);  clear hb hbox hg))
 (try simp only [Act.put, List.setIfInBounds_toArray, List.set_cons_zero, List.set_cons_succ])
 go_cut [23] (fun v23 wc => ∃ (kq : Nat) (x23_1 : Bool), v23 = .bool x23_1 ∧ Aside0 (leadtrailref08_ValidShape.j0 kq x23_1 l0_0 a0_1 = some r) ∧ Aside0 (kq ≤ k) ∧ Aside0 (wc.heap[gb541]? = some (.cells #[(.slice A0_0 l0_0.length c0_0), .int .i64 a0_1] 47 (0, 0))) ∧ Aside0 (Below w.heap.size w wc))
 case first =>
  have H := HC2.out; clear HC2; by_cases c4 : (l0_0.length : Int) < 1
  ·rw [if_pos c4] at H; have c4b0 : decide ((l0_0.length : Int) < 1) = true := decide_eq_true c4; have c4b1 : decide (l0_0.length < 1) = true := decide_eq_true (by omega); clear c4
   (first | rw [c4b0] | (simp only [i64_w, i32_w]; rw [c4b0]) | skip)
   have H' := zk H; clear H; have hcz5_0 : w3.cell? ⟨gb541, 0, none⟩ = some (.slice A0_0 l0_0.length c0_0) := zh BK541.out 0; have hcz5_1 : w3.cell? ⟨gb541, 1, none⟩ = some (.int .i64 a0_1) := zh BK541.out 1; have hfz5_0 := blk_frozen BK541.out 0; have hfz5_1 := blk_frozen BK541.out 1; go_wp2
   go_meet
   case rel => exact ⟨_, (true), zR, H', ⟨by first | omega | exact Nat.le_refl _⟩, ⟨zb BK541.out⟩, ⟨zU HB.out⟩⟩
  ·rw [if_neg c4] at H; have c4b0 : decide ((l0_0.length : Int) < 1) = false := decide_eq_false c4; have c4b1 : decide (l0_0.length < 1) = false := decide_eq_false (by omega); clear c4
   (first | rw [c4b0] | (simp only [i64_w, i32_w]; rw [c4b0]) | skip)
   by_cases c6 : (l0_0.length : Int) > 8
   ·rw [if_pos c6] at H; have c6b0 : decide (8 < (l0_0.length : Int)) = true := decide_eq_true c6; have c6b1 : decide (8 < l0_0.length) = true := decide_eq_true (by omega); clear c6; have H' := zk H; clear H; have hcz7_0 : w3.cell? ⟨gb541, 0, none⟩ = some (.slice A0_0 l0_0.length c0_0) := zh BK541.out 0; have hcz7_1 : w3.cell? ⟨gb541, 1, none⟩ = some (.int .i64 a0_1) := zh BK541.out 1; have hfz7_0 := blk_frozen BK541.out 0; have hfz7_1 := blk_frozen BK541.out 1; go_wp2
    go_meet
    case rel => exact ⟨_, (true), zR, H', ⟨by first | omega | exact Nat.le_refl _⟩, ⟨zb BK541.out⟩, ⟨zU HB.out⟩⟩
   ·rw [if_neg c6] at H; have c6b0 : decide (8 < (l0_0.length : Int)) = false := decide_eq_false c6; have c6b1 : decide (8 < l0_0.length) = false := decide_eq_false (by omega); clear c6; by_cases c8 : a0_1 < 0
    ·rw [if_pos c8] at H; have c8b0 : decide (a0_1 < 0) = true := decide_eq_true c8; clear c8; have H' := zk H; clear H; have hcz9_0 : w3.cell? ⟨gb541, 0, none⟩ = some (.slice A0_0 l0_0.length c0_0) := zh BK541.out 0; have hcz9_1 : w3.cell? ⟨gb541, 1, none⟩ = some (.int .i64 a0_1) := zh BK541.out 1; have hfz9_0 := blk_frozen BK541.out 0; have hfz9_1 := blk_frozen BK541.out 1; go_wp2
     go_meet
     case rel => exact ⟨_, (true), zR, H', ⟨by first | omega | exact Nat.le_refl _⟩, ⟨zb BK541.out⟩, ⟨zU HB.out⟩⟩
    ·rw [if_neg c8] at H; have c8b0 : decide (a0_1 < 0) = false := decide_eq_false c8; clear c8; have H' := zk H; clear H; have hcz10_0 : w3.cell? ⟨gb541, 0, none⟩ = some (.slice A0_0 l0_0.length c0_0) := zh BK541.out 0; have hcz10_1 : w3.cell? ⟨gb541, 1, none⟩ = some (.int .i64 a0_1) := zh BK541.out 1; have hfz10_0 := blk_frozen BK541.out 0; have hfz10_1 := blk_frozen BK541.out 1; go_wp2
     go_meet
     case rel => exact ⟨_, (decide (a0_1 > 1073741823)), zR, H', ⟨by first | omega | exact Nat.le_refl _⟩, ⟨zb BK541.out⟩, ⟨zU HB.out⟩⟩
 case rest =>
  clear HC2; (try clear p2); (try clear c4); (try clear c4b0); (try clear c4b1); (try clear c6); (try clear c6b0); (try clear c6b1); (try clear c8); (try clear c8b0); (try clear hcz10_0); (try clear hcz10_1); (try clear hcz5_0); (try clear hcz5_1); (try clear hcz7_0); (try clear hcz7_1); (try clear hcz9_0); (try clear hcz9_1); (try clear hfz10_0); (try clear hfz10_1); (try clear hfz5_0); (try clear hfz5_1); (try clear hfz7_0); (try clear hfz7_1); (try clear hfz9_0); (try clear hfz9_1); obtain ⟨kq, x23_1, rfl, HA, HJ1, BK541, HB⟩ := hcut; cases kq with
  | zero => exact absurd HA.out (by simp [leadtrailref08_ValidShape.j0])
  | succ kj1 =>
   have H := HA.out; clear HA; simp only [leadtrailref08_ValidShape.j0] at H; by_cases c11 : x23_1 = true
   ·subst c11; have H1 : (some false) = some r := by rw [if_pos rfl] at H; exact H
    clear H; have H := H1; clear H1; obtain rfl := Option.some.inj H; go_wp2
    go_ret
    exact ⟨ze, zU HB.out⟩
   ·replace c11 := Bool.eq_false_iff.mpr c11; subst c11; have H1 : (leadtrailref08_ValidShape.l0 kj1 0 l0_0 a0_1) = some r := by rw [if_neg (show ¬ (false = true) by decide)] at H; exact H
    clear H; have H := H1; clear H1; have H' := zk H; clear H; go_wp2
    go_loopg [3] kj1 (fun kq v3 w' => ∃ (x3_2 : Int), v3 = .int .i64 x3_2 ∧ Aside0 (leadtrailref08_ValidShape.l0 kq x3_2 l0_0 a0_1 = some r) ∧ Aside0 (kq ≤ kj1) ∧ Aside0 (w'.heap[gb541]? = some (.cells #[(.slice A0_0 l0_0.length c0_0), .int .i64 a0_1] 47 (0, 0))) ∧ Aside0 (Below w.heap.size w w'))
    case atStart => exact ⟨(0), zR, H', ⟨Nat.le_refl _⟩, ⟨zb BK541.out⟩, ⟨zU HB.out⟩⟩
    case round =>
     clear H'; (try clear c1); (try clear p2); (try clear c4); (try clear c4b0); (try clear c4b1); (try clear c6); (try clear c6b0); (try clear c6b1); (try clear c8); (try clear c8b0); (try clear c11); (try clear hcz10_0); (try clear hcz10_1); (try clear hcz5_0); (try clear hcz5_1); (try clear hcz7_0); (try clear hcz7_1); (try clear hcz9_0); (try clear hcz9_1); (try clear hfz10_0); (try clear hfz10_1); (try clear hfz5_0); (try clear hfz5_1); (try clear hfz7_0); (try clear hfz7_1); (try clear hfz9_0); (try clear hfz9_1); (try clear p2); obtain ⟨x3_2, rfl, HA, HK2, BK541, HB⟩ := hrel
     cases gk with
     | zero => exact absurd HA.out (by simp [leadtrailref08_ValidShape.l0])
     | succ k2 =>
      have H := HA.out; clear HA; simp only [leadtrailref08_ValidShape.l0] at H; by_cases c12 : x3_2 < (l0_0.length : Int)
      ·rw [if_pos c12] at H; have c12b0 : decide (x3_2 < (l0_0.length : Int)) = true := decide_eq_true c12; clear c12; by_cases c13 : 0 ≤ x3_2
       ·rw [if_pos c13] at H; have c13b0 : decide (0 ≤ x3_2) = true := decide_eq_true c13; clear c13; by_cases c14 : ((rd_L4 l0_0 x3_2).length : Int) = 0
        ·rw [if_pos c14] at H; have c14b0 : (((rd_L4 l0_0 x3_2).length : Int) == 0) = true := beq_iff_eq.mpr c14; have c14b1 : (((rd_L4 l0_0 x3_2).length : Int) != 0) = false := bne_eq_false_iff_eq.mpr c14; clear c14; obtain rfl := Option.some.inj H; have hcz15_0 : wr.cell? ⟨gb541, 0, none⟩ = some (.slice A0_0 l0_0.length c0_0) := zh BK541.out 0; have hcz15_1 : wr.cell? ⟨gb541, 1, none⟩ = some (.int .i64 a0_1) := zh BK541.out 1; have hfz15_0 := blk_frozen BK541.out 0; have hfz15_1 := blk_frozen BK541.out 1; have p543 : 0 ≤ (x3_2 : Int) := zT; have q543 : x3_2 < (l0_0.length : Int) := zT; obtain ⟨ad543, A543_0, c543_0, e543, hx543_0, hl543_0, hi543_0⟩ := at_L4 HR0_0.out x3_2 p543 q543; cases e543; replace hx543_0 := zcl HB.out hx543_0; have HR543_0 := zk hi543_0; have HC543_0 := zk hl543_0; clear hi543_0 hl543_0; replace p543 := eq_true p543; replace q543 := eq_true q543; go_wp2
         go_ret
         exact ⟨ze, zU HB.out⟩
        ·rw [if_neg c14] at H; have c14b0 : (((rd_L4 l0_0 x3_2).length : Int) == 0) = false := beq_eq_false_iff_ne.mpr c14; have c14b1 : (((rd_L4 l0_0 x3_2).length : Int) != 0) = true := bne_iff_ne.mpr c14; have c14b2 : ¬ ((rd_L4 l0_0 x3_2) = []) := fun h_ => c14 (by rw [h_]; rfl)
         replace H := Option.bind_eq_some_iff.mp H; obtain ⟨t545, A160, H⟩ := H; replace H : (if t545 = true then (leadtrailref08_ValidShape.l0 k2 (wrap64 (x3_2 + 1)) l0_0 a0_1) else (some false)) = some r := H; have A16 := zk A160; clear A160; by_cases c17 : t545 = true
         ·subst c17; have H1 : (leadtrailref08_ValidShape.l0 k2 (wrap64 (x3_2 + 1)) l0_0 a0_1) = some r := by rw [if_pos rfl] at H; exact H
          clear H; have H := H1; clear H1; have H' := zk H; clear H; have hcz18_0 : wr.cell? ⟨gb541, 0, none⟩ = some (.slice A0_0 l0_0.length c0_0) := zh BK541.out 0; have hcz18_1 : wr.cell? ⟨gb541, 1, none⟩ = some (.int .i64 a0_1) := zh BK541.out 1; have hfz18_0 := blk_frozen BK541.out 0; have hfz18_1 := blk_frozen BK541.out 1; have p543 : 0 ≤ (x3_2 : Int) := zT; have q543 : x3_2 < (l0_0.length : Int) := zT; obtain ⟨ad543, A543_0, c543_0, e543, hx543_0, hl543_0, hi543_0⟩ := at_L4 HR0_0.out x3_2 p543 q543; cases e543; replace hx543_0 := zcl HB.out hx543_0; have HR543_0 := zk hi543_0; have HC543_0 := zk hl543_0; clear hi543_0 hl543_0; replace p543 := eq_true p543; replace q543 := eq_true q543; have p544 : 0 ≤ (x3_2 : Int) := zT; have q544 : x3_2 < (l0_0.length : Int) := zT; obtain ⟨ad544, A544_0, c544_0, e544, hx544_0, hl544_0, hi544_0⟩ := at_L4 HR0_0.out x3_2 p544 q544; obtain rfl : ad543 = ad544 := (by injection e544); replace hx544_0 := zcl HB.out hx544_0; have HR544_0 := zk hi544_0; have HC544_0 := zk hl544_0; clear hi544_0 hl544_0; replace p544 := eq_true p544; replace q544 := eq_true q544; have ea_ := Option.some.inj (hx543_0.symm.trans hx544_0); injection ea_ with ea_ en_ ec_
          subst ea_; subst ec_; clear en_; go_wp2_with (first | (go_at_call 111; (with_reducible refine (leadtrailref03_Valid.calls k2 _ _ (rd_L4 l0_0 x3_2) true _ ?side1 ?side2 A16.out).mono ?_); (case side1 => exact zc (Kd.C_below HR544_0.out HB.out)); (case side2 => exact HC544_0.out); rintro e w' ⟨rfl, ⟨nd, rfl⟩⟩))
          go_roundg k2
          case measure => have := HJ1.out; have := HK2.out; omega
          case rel => exact ⟨(wrap64 (x3_2 + 1)), zR, H', ⟨by have := HJ1.out; have := HK2.out; omega⟩, ⟨zb BK541.out⟩, ⟨zU HB.out⟩⟩
         ·replace c17 := Bool.eq_false_iff.mpr c17; subst c17; have H1 : (some false) = some r := by rw [if_neg (show ¬ (false = true) by decide)] at H; exact H
          clear H; have H := H1; clear H1; obtain rfl := Option.some.inj H; have hcz19_0 : wr.cell? ⟨gb541, 0, none⟩ = some (.slice A0_0 l0_0.length c0_0) := zh BK541.out 0; have hcz19_1 : wr.cell? ⟨gb541, 1, none⟩ = some (.int .i64 a0_1) := zh BK541.out 1; have hfz19_0 := blk_frozen BK541.out 0; have hfz19_1 := blk_frozen BK541.out 1; have p543 : 0 ≤ (x3_2 : Int) := zT; have q543 : x3_2 < (l0_0.length : Int) := zT; obtain ⟨ad543, A543_0, c543_0, e543, hx543_0, hl543_0, hi543_0⟩ := at_L4 HR0_0.out x3_2 p543 q543; cases e543; replace hx543_0 := zcl HB.out hx543_0; have HR543_0 := zk hi543_0; have HC543_0 := zk hl543_0; clear hi543_0 hl543_0; replace p543 := eq_true p543; replace q543 := eq_true q543; have p544 : 0 ≤ (x3_2 : Int) := zT; have q544 : x3_2 < (l0_0.length : Int) := zT; obtain ⟨ad544, A544_0, c544_0, e544, hx544_0, hl544_0, hi544_0⟩ := at_L4 HR0_0.out x3_2 p544 q544; obtain rfl : ad543 = ad544 := (by injection e544); replace hx544_0 := zcl HB.out hx544_0; have HR544_0 := zk hi544_0; have HC544_0 := zk hl544_0; clear hi544_0 hl544_0; replace p544 := eq_true p544; replace q544 := eq_true q544; have ea_ := Option.some.inj (hx543_0.symm.trans hx544_0); injection ea_ with ea_ en_ ec_
          subst ea_; subst ec_; clear en_; go_wp2_with (first | (go_at_call 111; (with_reducible refine (leadtrailref03_Valid.calls k2 _ _ (rd_L4 l0_0 x3_2) false _ ?side1 ?side2 A16.out).mono ?_); (case side1 => exact zc (Kd.C_below HR544_0.out HB.out)); (case side2 => exact HC544_0.out); rintro e w' ⟨rfl, ⟨nd, rfl⟩⟩))
          go_ret
          exact ⟨ze, zU HB.out⟩
       ·rw [if_neg c13] at H; exact absurd H (by simp)
      ·rw [if_neg c12] at H; have c12b0 : decide (x3_2 < (l0_0.length : Int)) = false := decide_eq_false c12; clear c12; replace H := Option.bind_eq_some_iff.mp H; obtain ⟨t542, A200, H⟩ := H; replace H : (some (decide ((wrap64 ((wrap64 (a0_1 + t542)) - 1)) ≤ 1073741823))) = some r := H; have A20 := zk A200; clear A200; obtain rfl := Option.some.inj H; have hcz21_0 : wr.cell? ⟨gb541, 0, none⟩ = some (.slice A0_0 l0_0.length c0_0) := zh BK541.out 0; have hcz21_1 : wr.cell? ⟨gb541, 1, none⟩ = some (.int .i64 a0_1) := zh BK541.out 1; have hfz21_0 := blk_frozen BK541.out 0; have hfz21_1 := blk_frozen BK541.out 1; try go_wp2
       have n0_ := zk (blk_drew BK541.out); have n1_ := zk (below_drew1 HB.out); clear BK541; clear HB; have BK541 := n0_; have HB := n1_; clear n0_ n1_; refine start_ (n := 8) (S := fun w' => w'.cell? ⟨gb541, 0, none⟩ = some (.slice A0_0 l0_0.length c0_0) ∧ w'.cell? ⟨gb541, 1, none⟩ = some (.int .i64 a0_1)) (ds := []) #[false, false, false, false, false, false, false, false] zz rfl rfl ⟨(blk_cell BK541.out 0).trans rfl, (blk_cell BK541.out 1).trans rfl⟩ (fun hHeld => ?_); refine with_tabW leadtrailref08_ValidShape.tab8 leadtrailref08_ValidShape.bits8 (fun HT_ HW_ => ?_); generalize wr.drew = w22 at BK541 HB hHeld ⊢; refine zp 0 (some 47) (v := ?_) (a' := ?_) (bz 8 1) rfl rfl HT_.out zz zQ ?_ ?_ ?_; rotate_left
       ·intro w'; go_simp; with_reducible rfl
       rotate_left
       ·simp only [Act.put, zv, i64_w, i32_w]; rfl
       refine take_ (i := 1) (N := some 48) (v := ?_) (a' := ?_) (bz 8 3) rfl rfl (take_ofW HT_.out HW_.out zz) zQ (Or.inl ⟨by rfl, ?_⟩) hHeld ?_ ?_; rotate_left
       ·rintro w' ⟨s0, s1⟩; go_simp; with_reducible rfl
       rotate_left
       ·simp only [Act.put, zv, i64_w, i32_w]; rfl
       refine take_ (i := 2) (N := some 49) (v := ?_) (a' := ?_) (bz 8 7) rfl rfl (take_ofW HT_.out HW_.out zz) zQ (Or.inl ⟨by rfl, ?_⟩) hHeld ?_ ?_; rotate_left
       ·rintro w' ⟨s0, s1⟩; go_simp; with_reducible rfl
       rotate_left
       ·simp only [Act.put, zv, i64_w, i32_w]; rfl
       refine one_ (i := 3) (N := some 50) (bz 8 15) rfl rfl (one_of HT_.out zz) (by decide) (fun K hK => ?_); refine goes_ Try.func83 zz rfl #[.agg #[.slice A0_0 l0_0.length c0_0, .int .i64 a0_1]] (by rfl) rfl rfl zM ?_; with_reducible refine (leadtrailref08_Count.calls k2 _ _ l0_0 a0_1 t542 _ ?side1 ?side2 A20.out).mono ?_; (case side1 => exact zc (Kd.C_below HR0_0.out HB.out))
       (case side2 => exact HC0_0.out)
       rintro e w23 ⟨rfl, hb⟩; refine ⟨_, rfl, ?_⟩; have n0_ := zk (zbb BK541.out hb); have n1_ := zk (below_step (zU HB.out) hb); clear BK541; clear HB; have BK541 := n0_; have HB := n1_; clear n0_ n1_; (try clear hb); (try clear hb2); (try clear hk); (try clear hi); refine hK.out _ _ ⟨(blk_cell BK541.out 0).trans rfl, (blk_cell BK541.out 1).trans rfl⟩ (fun hHeld => ?_); clear hK K; refine norm_ (a' := ?_) ?_ ?_; rotate_left
       ·show Act.put _ (some 50) _ = _; simp only [Act.put, zv, i64_w, i32_w]; rfl
       refine zp 4 (some 51) (v := ?_) (a' := ?_) (bz 8 31) rfl rfl HT_.out zz zQ ?_ ?_ ?_; rotate_left
       ·intro w'; go_simp; with_reducible rfl
       rotate_left
       ·simp only [Act.put, zv, i64_w, i32_w]; rfl
       refine zp 5 (some 52) (v := ?_) (a' := ?_) (bz 8 63) rfl rfl HT_.out zz zQ ?_ ?_ ?_; rotate_left
       ·intro w'; go_simp; with_reducible rfl
       rotate_left
       ·simp only [Act.put, zv, i64_w, i32_w]; rfl
       refine zp 6 (some 53) (v := ?_) (a' := ?_) (bz 8 127) rfl rfl HT_.out zz zQ ?_ ?_ ?_; rotate_left
       ·intro w'; go_simp; with_reducible rfl
       rotate_left
       ·simp only [Act.put, zv, i64_w, i32_w]; rfl
       refine zp 7 (some 2) (v := ?_) (a' := ?_) (bz 8 255) rfl rfl HT_.out zz zQ ?_ ?_ ?_; rotate_left
       ·intro w'; go_simp; with_reducible rfl
       rotate_left
       ·simp only [Act.put, zv, i64_w, i32_w]; rfl
       refine done_ (done_of HT_.out zz) ?_; try go_wp2
       go_ret
       exact ⟨ze, zU HB.out⟩
def leadtrailref09_Count.f (k : Nat) (l0_0 : List (List (S34))) (a0_1 : Int) : Option (Int) := (leadtrailref08_ValidShape.f k l0_0 a0_1).bind fun t547 => (if t547 = true then ((leadtrailref08_Count.f k l0_0 a0_1).bind fun t548 => (some t548)) else (some 0))
set_option maxHeartbeats 8000000 in
set_option maxRecDepth 100000 in
theorem leadtrailref09_Count.calls (k : Nat) (A0_0 : Option Addr) (c0_0 : Nat) (l0_0 : List (List (S34))) (a0_1 : Int) (r : Int) (w : World) (hr0_0 : Kd.C (Kd.slice 34 k34) w A0_0 l0_0.length l0_0) (hc0_0 : l0_0.length ≤ c0_0) (h : leadtrailref09_Count.f k l0_0 a0_1 = some r) :
 Calls Try.prog 37 #[.agg #[.slice A0_0 l0_0.length c0_0, .int .i64 a0_1]] w fun e w' => e = .returned (.int .i64 r) ∧ Below w.heap.size w w' := by
 have hu47 := Try.underlying47; have HR0_0 := zk hr0_0; have HC0_0 := zk hc0_0; clear hr0_0 hc0_0; have HB := zk (Below.refl w.heap.size w); have H : ((leadtrailref08_ValidShape.f k l0_0 a0_1).bind fun t547 => (if t547 = true then ((leadtrailref08_Count.f k l0_0 a0_1).bind fun t548 => (some t548)) else (some 0))) = some r := h; clear h; replace H := Option.bind_eq_some_iff.mp H; obtain ⟨t547, A20, H⟩ := H; replace H : (if t547 = true then ((leadtrailref08_Count.f k l0_0 a0_1).bind fun t548 => (some t548)) else (some 0)) = some r := H; have A2 := zk A20; clear A20; by_cases c3 : t547 = true
 ·subst c3; have H1 : ((leadtrailref08_Count.f k l0_0 a0_1).bind fun t548 => (some t548)) = some r := by rw [if_pos rfl] at H; exact H
  clear H; have H := H1; clear H1; replace H := Option.bind_eq_some_iff.mp H; obtain ⟨t548, A40, H⟩ := H; replace H : (some t548) = some r := H; have A4 := zk A40; clear A40; obtain rfl := Option.some.inj H; go_enter Try.func37, Try.ntmps37
  go_wp2_with (first | ((with_reducible refine gate_dst (N := 1) rfl ?_); refine box_event ?hg (N := 1) ?hd (cs := #[.slice A0_0 l0_0.length c0_0, .int .i64 a0_1]) (t := 47) ?hr ?_; (case hd => rfl); (case hg => rfl); (case hr => first | (go_simp; done) | (go_simp; rfl)); intro gb546 hg w5 hbox hb; have BK546 := zk (hbox); have GE546 := zk ((zg hg HB.out : w.heap.size ≤ gb546)); replace HB := zk (below_step (zU HB.out) hb);  clear hb hbox hg; have hcz6_0 : w5.cell? ⟨gb546, 0, none⟩ = some (.slice A0_0 l0_0.length c0_0) := zh BK546.out 0; have hcz6_1 : w5.cell? ⟨gb546, 1, none⟩ = some (.int .i64 a0_1) := zh BK546.out 1; have hfz6_0 := blk_frozen BK546.out 0; have hfz6_1 := blk_frozen BK546.out 1) | ((with_reducible refine gate_callee (f := 82) rfl ?_); refine goesL_ (some 4) rfl rfl Try.func82 zz rfl #[.agg #[.slice A0_0 l0_0.length c0_0, .int .i64 a0_1]] rfl zM ?_; (with_reducible refine (leadtrailref08_ValidShape.calls k _ _ l0_0 a0_1 true _ ?side1 ?side2 A2.out).mono ?_); (case side1 => exact zc (Kd.C_below HR0_0.out HB.out)); (case side2 => exact HC0_0.out); rintro e w7 ⟨rfl, hb⟩; refine ⟨_, rfl, ?_⟩; replace BK546 := zk (zbb BK546.out hb); replace HB := zk (below_step (zU HB.out) hb);  (try clear hb); (try clear hb2); (try clear hk); (try clear hi); have hcz8_0 : w7.cell? ⟨gb546, 0, none⟩ = some (.slice A0_0 l0_0.length c0_0) := zh BK546.out 0; have hcz8_1 : w7.cell? ⟨gb546, 1, none⟩ = some (.int .i64 a0_1) := zh BK546.out 1; have hfz8_0 := blk_frozen BK546.out 0; have hfz8_1 := blk_frozen BK546.out 1) | ((with_reducible refine gate_callee (f := 83) rfl ?_); refine goesL_ (some 7) rfl rfl Try.func83 zz rfl #[.agg #[.slice A0_0 l0_0.length c0_0, .int .i64 a0_1]] rfl zM ?_; (with_reducible refine (leadtrailref08_Count.calls k _ _ l0_0 a0_1 t548 _ ?side1 ?side2 A4.out).mono ?_); (case side1 => exact zc (Kd.C_below HR0_0.out HB.out)); (case side2 => exact HC0_0.out); rintro e w9 ⟨rfl, hb⟩; refine ⟨_, rfl, ?_⟩; replace BK546 := zk (zbb BK546.out hb); replace HB := zk (below_step (zU HB.out) hb);  (try clear hb); (try clear hb2); (try clear hk); (try clear hi)))
  go_ret
  exact ⟨ze, zU HB.out⟩
 ·replace c3 := Bool.eq_false_iff.mpr c3; subst c3; have H1 : (some 0) = some r := by rw [if_neg (show ¬ (false = true) by decide)] at H; exact H
  clear H; have H := H1; clear H1; obtain rfl := Option.some.inj H; go_enter Try.func37, Try.ntmps37
  go_wp2_with (first | ((with_reducible refine gate_dst (N := 1) rfl ?_); refine box_event ?hg (N := 1) ?hd (cs := #[.slice A0_0 l0_0.length c0_0, .int .i64 a0_1]) (t := 47) ?hr ?_; (case hd => rfl); (case hg => rfl); (case hr => first | (go_simp; done) | (go_simp; rfl)); intro gb546 hg w10 hbox hb; have BK546 := zk (hbox); have GE546 := zk ((zg hg HB.out : w.heap.size ≤ gb546)); replace HB := zk (below_step (zU HB.out) hb);  clear hb hbox hg; have hcz11_0 : w10.cell? ⟨gb546, 0, none⟩ = some (.slice A0_0 l0_0.length c0_0) := zh BK546.out 0; have hcz11_1 : w10.cell? ⟨gb546, 1, none⟩ = some (.int .i64 a0_1) := zh BK546.out 1; have hfz11_0 := blk_frozen BK546.out 0; have hfz11_1 := blk_frozen BK546.out 1) | ((with_reducible refine gate_callee (f := 82) rfl ?_); refine goesL_ (some 4) rfl rfl Try.func82 zz rfl #[.agg #[.slice A0_0 l0_0.length c0_0, .int .i64 a0_1]] rfl zM ?_; (with_reducible refine (leadtrailref08_ValidShape.calls k _ _ l0_0 a0_1 false _ ?side1 ?side2 A2.out).mono ?_); (case side1 => exact zc (Kd.C_below HR0_0.out HB.out)); (case side2 => exact HC0_0.out); rintro e w12 ⟨rfl, hb⟩; refine ⟨_, rfl, ?_⟩; replace BK546 := zk (zbb BK546.out hb); replace HB := zk (below_step (zU HB.out) hb);  (try clear hb); (try clear hb2); (try clear hk); (try clear hi)))
  go_ret
  exact ⟨ze, zU HB.out⟩
end Go.Proofs.Ytoljcfocgaonpaa.I
