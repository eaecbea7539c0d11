/- Words and walks of this claim, of the text Bx17. -/
import Derived.Test.YtobhclnenffkgaaGreatKaQW0
import Derived.Test.YtobhclnenffkgaaGreatKaBx0
import Derived.Test.YtobhclnenffkgaaGreatKaBx12
import Derived.Test.YtobhclnenffkgaaGreatKaBx15
import Derived.Test.YtobhclnenffkgaaGreatKaBx16
namespace Go.Proofs.YtobhclnenffkgaaGreat.B
open Go.RowKit Go.Proofs.YtobhclnenffkgaaGreatW.PrintWords Go.Proofs.YtobhclnenffkgaaGreatW.PrintLast Go.Proofs.YtobhclnenffkgaaGreatW.PrintMore
set_option maxHeartbeats 8000000
set_option maxRecDepth 100000
attribute [local go_sem] max2_int min2_int max_two min_two max_three min_three max_four min_four
set_option linter.unusedVariables false
set_option linter.unusedSimpArgs false
def leadtrailref08_Valid.l0 : Nat → Int → List (S48) → Option (Bool)
 | 0, _, _ => none
 | k + 1, x3, x436000 => if x3 < (x436000.length : Int) then (if 0 ≤ x3 then ((leadtrailref08_ValidShape.f k ((rd_T48 x436000 x3).f0) ((rd_T48 x436000 x3).f1)).bind fun t437 => (if t437 = true then ((leadtrailref08_meet.f k x436000 x3).bind fun t438 => (if t438 = true then (some false) else (leadtrailref08_Valid.l0 k (wrap64 (x3 + 1)) x436000))) else (some false))) else (none)) else (some true)
def leadtrailref08_Valid.f (k : Nat) (l0_0 : List (S48)) : Option (Bool) := if (l0_0.length : Int) > 32 then (some false) else (leadtrailref08_Valid.l0 k 0 l0_0)
theorem leadtrailref08_Valid.calls (k : Nat) (A0_0 : Option Addr) (c0_0 : Nat) (l0_0 : List (S48)) (r : Bool) (w : World) (hr0_0 : Kd.C k48 w A0_0 l0_0.length l0_0) (hc0_0 : l0_0.length ≤ c0_0) (h : leadtrailref08_Valid.f k l0_0 = some r) :
 Calls Tryz.prog 22 #[.agg #[.slice A0_0 l0_0.length c0_0]] w fun e w' => e = .returned (.bool r) ∧ Below w.heap.size w w' := by
 have hu24 := Tryz.underlying24; have hu48 := Tryz.underlying48; have HR0_0 := zk hr0_0; have HC0_0 := zk hc0_0; clear hr0_0 hc0_0; have HB := zk (Below.refl w.heap.size w); have H : (if (l0_0.length : Int) > 32 then (some false) else (leadtrailref08_Valid.l0 k 0 l0_0)) = some r := h; clear h; by_cases c2 : (l0_0.length : Int) > 32
 ·rw [if_pos c2] at H; have c2b0 : decide (32 < (l0_0.length : Int)) = true := decide_eq_true c2; have c2b1 : decide (32 < l0_0.length) = true := decide_eq_true (by omega); clear c2; obtain rfl := Option.some.inj H; go_enter Tryz.func22, Tryz.ntmps22
  go_wp2_with (first | ((with_reducible refine gate_dst (N := 1) rfl ?_); refine box_event ?hg (N := 1) ?hd (cs := #[.slice A0_0 l0_0.length c0_0]) (t := 24) ?hr ?_; (case hd => rfl); (case hg => rfl); (case hr => first | (go_simp; done) | (go_simp; rfl)); intro gb435 hg w3 hbox hb; have BK435 := zk (hbox); have GE435 := zk ((zg hg HB.out : w.heap.size ≤ gb435)); replace HB := zs HB hb;  clear hb hbox hg; have hcz4_0 : w3.cell? ⟨gb435, 0, none⟩ = some (.slice A0_0 l0_0.length c0_0) := zh BK435.out 0; have hfz4_0 := blk_frozen BK435.out 0))
  go_ret
  exact ⟨ze, zU HB.out⟩
 ·rw [if_neg c2] at H; have c2b0 : decide (32 < (l0_0.length : Int)) = false := decide_eq_false c2; have c2b1 : decide (32 < l0_0.length) = false := decide_eq_false (by omega); clear c2; have H' := zk H; clear H; go_enter Tryz.func22, Tryz.ntmps22
  go_wp2_with (first | ((with_reducible refine gate_dst (N := 1) rfl ?_); refine box_event ?hg (N := 1) ?hd (cs := #[.slice A0_0 l0_0.length c0_0]) (t := 24) ?hr ?_; (case hd => rfl); (case hg => rfl); (case hr => first | (go_simp; done) | (go_simp; rfl)); intro gb435 hg w5 hbox hb; have BK435 := zk (hbox); have GE435 := zk ((zg hg HB.out : w.heap.size ≤ gb435)); replace HB := zs HB hb;  clear hb hbox hg; have hcz6_0 : w5.cell? ⟨gb435, 0, none⟩ = some (.slice A0_0 l0_0.length c0_0) := zh BK435.out 0; have hfz6_0 := blk_frozen BK435.out 0))
  go_loopg [3] k (fun kq v3 w' => ∃ (x3_1 : Int), v3 = .int .i64 x3_1 ∧ Aside0 (leadtrailref08_Valid.l0 kq x3_1 l0_0 = some r) ∧ Aside0 (kq ≤ k) ∧ Aside0 (w'.heap[gb435]? = some (.cells #[(.slice A0_0 l0_0.length c0_0)] 24 (0, 0))) ∧ Aside0 (Below w.heap.size w w'))
  case atStart => exact ⟨(0), zR, H', ⟨Nat.le_refl _⟩, ⟨zb BK435.out⟩, ⟨zU HB.out⟩⟩
  case round =>
   clear H'; (try clear c2); (try clear c2b0); (try clear c2b1); (try clear p2); (try clear hcz4_0); (try clear hcz6_0); (try clear hfz4_0); (try clear hfz6_0); obtain ⟨x3_1, rfl, HA, HK1, BK435, HB⟩ := hrel
   cases gk with
   | zero => exact absurd HA.out (by simp [leadtrailref08_Valid.l0])
   | succ k1 =>
    have H := HA.out; clear HA; simp only [leadtrailref08_Valid.l0] at H; by_cases c7 : x3_1 < (l0_0.length : Int)
    ·rw [if_pos c7] at H; have c7b0 : decide (x3_1 < (l0_0.length : Int)) = true := decide_eq_true c7; clear c7; by_cases c8 : 0 ≤ x3_1
     ·rw [if_pos c8] at H; have c8b0 : decide (0 ≤ x3_1) = true := decide_eq_true c8; clear c8; replace H := Option.bind_eq_some_iff.mp H; obtain ⟨t437, A90, H⟩ := H; replace H : (if t437 = true then ((leadtrailref08_meet.f k1 l0_0 x3_1).bind fun t438 => (if t438 = true then (some false) else (leadtrailref08_Valid.l0 k1 (wrap64 (x3_1 + 1)) l0_0))) else (some false)) = some r := H; have A9 := zk A90; clear A90; by_cases c10 : t437 = true
      ·subst c10; have H1 : ((leadtrailref08_meet.f k1 l0_0 x3_1).bind fun t438 => (if t438 = true then (some false) else (leadtrailref08_Valid.l0 k1 (wrap64 (x3_1 + 1)) l0_0))) = some r := by rw [if_pos rfl] at H; exact H
       clear H; have H := H1; clear H1; replace H := Option.bind_eq_some_iff.mp H; obtain ⟨t438, A110, H⟩ := H; replace H : (if t438 = true then (some false) else (leadtrailref08_Valid.l0 k1 (wrap64 (x3_1 + 1)) l0_0)) = some r := H; have A11 := zk A110; clear A110; by_cases c12 : t438 = true
       ·subst c12; have H1 : (some false) = some r := by rw [if_pos rfl] at H; exact H
        clear H; have H := H1; clear H1; obtain rfl := Option.some.inj H; have hcz13_0 : wr.cell? ⟨gb435, 0, none⟩ = some (.slice A0_0 l0_0.length c0_0) := zh BK435.out 0; have hfz13_0 := blk_frozen BK435.out 0; have p436 : 0 ≤ (x3_1 : Int) := zT; have q436 : x3_1 < (l0_0.length : Int) := zT; obtain ⟨ad436, A436_0, c436_0, e436, hx436_0, hx436_1, hl436_0, hi436_0⟩ := at_T48 HR0_0.out x3_1 p436 q436; cases e436; replace hx436_0 := zcl HB.out hx436_0; replace hx436_1 := zcl HB.out hx436_1; have HR436_0 := zk hi436_0; have HC436_0 := zk hl436_0; clear hi436_0 hl436_0; replace p436 := eq_true p436; replace q436 := eq_true q436; go_wp2_with (first | ((with_reducible refine gate_callee (f := 41) rfl ?_); refine goesL_ (some 20) rfl rfl Tryz.func41 zz rfl #[.agg #[.slice A436_0 ((rd_T48 l0_0 x3_1).f0).length c436_0, .int .i64 ((rd_T48 l0_0 x3_1).f1)]] rfl zM ?_; (with_reducible refine (leadtrailref08_ValidShape.calls k1 _ _ ((rd_T48 l0_0 x3_1).f0) ((rd_T48 l0_0 x3_1).f1) true _ ?side1 ?side2 A9.out).mono ?_); (case side1 => exact zc (Kd.C_below HR436_0.out HB.out)); (case side2 => exact HC436_0.out); rintro e w14 ⟨rfl, hb⟩; refine ⟨_, rfl, ?_⟩; replace BK435 := zk (zbb BK435.out hb); replace HB := zs HB hb;  (try clear hb); (try clear hb2); (try clear hk); (try clear hi); have hcz15_0 : w14.cell? ⟨gb435, 0, none⟩ = some (.slice (some ad436) l0_0.length c0_0) := zh BK435.out 0; have hfz15_0 := blk_frozen BK435.out 0) | (go_at_call 42; (with_reducible refine (leadtrailref08_meet.calls k1 _ _ l0_0 x3_1 true _ ?side1 ?side2 A11.out).mono ?_); (case side1 => exact zc (Kd.C_below HR0_0.out HB.out)); (case side2 => exact HC0_0.out); rintro e w16 ⟨rfl, hb⟩; replace BK435 := zk (zbb BK435.out hb); replace HB := zs HB hb;  (try clear hb); (try clear hb2); (try clear hk); (try clear hi)))
        go_ret
        exact ⟨ze, zU HB.out⟩
       ·replace c12 := Bool.eq_false_iff.mpr c12; subst c12; have H1 : (leadtrailref08_Valid.l0 k1 (wrap64 (x3_1 + 1)) l0_0) = some r := by rw [if_neg (show ¬ (false = true) by decide)] at H; exact H
        clear H; have H := H1; clear H1; have H' := zk H; clear H; have hcz17_0 : wr.cell? ⟨gb435, 0, none⟩ = some (.slice A0_0 l0_0.length c0_0) := zh BK435.out 0; have hfz17_0 := blk_frozen BK435.out 0; have p436 : 0 ≤ (x3_1 : Int) := zT; have q436 : x3_1 < (l0_0.length : Int) := zT; obtain ⟨ad436, A436_0, c436_0, e436, hx436_0, hx436_1, hl436_0, hi436_0⟩ := at_T48 HR0_0.out x3_1 p436 q436; cases e436; replace hx436_0 := zcl HB.out hx436_0; replace hx436_1 := zcl HB.out hx436_1; have HR436_0 := zk hi436_0; have HC436_0 := zk hl436_0; clear hi436_0 hl436_0; replace p436 := eq_true p436; replace q436 := eq_true q436; go_wp2_with (first | ((with_reducible refine gate_callee (f := 41) rfl ?_); refine goesL_ (some 20) rfl rfl Tryz.func41 zz rfl #[.agg #[.slice A436_0 ((rd_T48 l0_0 x3_1).f0).length c436_0, .int .i64 ((rd_T48 l0_0 x3_1).f1)]] rfl zM ?_; (with_reducible refine (leadtrailref08_ValidShape.calls k1 _ _ ((rd_T48 l0_0 x3_1).f0) ((rd_T48 l0_0 x3_1).f1) true _ ?side1 ?side2 A9.out).mono ?_); (case side1 => exact zc (Kd.C_below HR436_0.out HB.out)); (case side2 => exact HC436_0.out); rintro e w18 ⟨rfl, hb⟩; refine ⟨_, rfl, ?_⟩; replace BK435 := zk (zbb BK435.out hb); replace HB := zs HB hb;  (try clear hb); (try clear hb2); (try clear hk); (try clear hi); have hcz19_0 : w18.cell? ⟨gb435, 0, none⟩ = some (.slice (some ad436) l0_0.length c0_0) := zh BK435.out 0; have hfz19_0 := blk_frozen BK435.out 0) | (go_at_call 42; (with_reducible refine (leadtrailref08_meet.calls k1 _ _ l0_0 x3_1 false _ ?side1 ?side2 A11.out).mono ?_); (case side1 => exact zc (Kd.C_below HR0_0.out HB.out)); (case side2 => exact HC0_0.out); rintro e w20 ⟨rfl, hb⟩; replace BK435 := zk (zbb BK435.out hb); replace HB := zs HB hb;  (try clear hb); (try clear hb2); (try clear hk); (try clear hi)))
        go_roundg k1
        case measure => have := HK1.out; omega
        case rel => exact ⟨(wrap64 (x3_1 + 1)), zR, H', ⟨by have := HK1.out; omega⟩, ⟨zb BK435.out⟩, ⟨zU HB.out⟩⟩
      ·replace c10 := Bool.eq_false_iff.mpr c10; subst c10; have H1 : (some false) = some r := by rw [if_neg (show ¬ (false = true) by decide)] at H; exact H
       clear H; have H := H1; clear H1; obtain rfl := Option.some.inj H; have hcz21_0 : wr.cell? ⟨gb435, 0, none⟩ = some (.slice A0_0 l0_0.length c0_0) := zh BK435.out 0; have hfz21_0 := blk_frozen BK435.out 0; have p436 : 0 ≤ (x3_1 : Int) := zT; have q436 : x3_1 < (l0_0.length : Int) := zT; obtain ⟨ad436, A436_0, c436_0, e436, hx436_0, hx436_1, hl436_0, hi436_0⟩ := at_T48 HR0_0.out x3_1 p436 q436; cases e436; replace hx436_0 := zcl HB.out hx436_0; replace hx436_1 := zcl HB.out hx436_1; have HR436_0 := zk hi436_0; have HC436_0 := zk hl436_0; clear hi436_0 hl436_0; replace p436 := eq_true p436; replace q436 := eq_true q436; go_wp2_with (first | ((with_reducible refine gate_callee (f := 41) rfl ?_); refine goesL_ (some 20) rfl rfl Tryz.func41 zz rfl #[.agg #[.slice A436_0 ((rd_T48 l0_0 x3_1).f0).length c436_0, .int .i64 ((rd_T48 l0_0 x3_1).f1)]] rfl zM ?_; (with_reducible refine (leadtrailref08_ValidShape.calls k1 _ _ ((rd_T48 l0_0 x3_1).f0) ((rd_T48 l0_0 x3_1).f1) false _ ?side1 ?side2 A9.out).mono ?_); (case side1 => exact zc (Kd.C_below HR436_0.out HB.out)); (case side2 => exact HC436_0.out); rintro e w22 ⟨rfl, hb⟩; refine ⟨_, rfl, ?_⟩; replace BK435 := zk (zbb BK435.out hb); replace HB := zs HB hb;  (try clear hb); (try clear hb2); (try clear hk); (try clear hi)))
       go_ret
       exact ⟨ze, zU HB.out⟩
     ·rw [if_neg c8] at H; cases H
    ·rw [if_neg c7] at H; have c7b0 : decide (x3_1 < (l0_0.length : Int)) = false := decide_eq_false c7; clear c7; obtain rfl := Option.some.inj H; have hcz23_0 : wr.cell? ⟨gb435, 0, none⟩ = some (.slice A0_0 l0_0.length c0_0) := zh BK435.out 0; have hfz23_0 := blk_frozen BK435.out 0; go_wp2
     go_ret
     exact ⟨ze, zU HB.out⟩
def leadtrailref10_Text.l0 : Nat → List Int → List Int → Int → List (S48) → Option (List Int × Int × Int)
 | 0, _, _, _, _ => none
 | k + 1, x1, x7, x8, x440000 => if x8 < (x1.length : Int) then (if 0 ≤ x8 then ((leadtrailref10_Of.f k x440000 (rd x1 x8)).bind fun bt442 => (if bt442.2 = true then (if x7.length + bt442.1.length < 140737488355328 then (leadtrailref10_Text.l0 k x1 (x7 ++ bt442.1) (wrap64 (x8 + 1)) x440000) else (none)) else (some (([] : List Int), x8, 100)))) else (none)) else (some (x7, 0, 0))
def leadtrailref10_Text.f (k : Nat) (l0_0 : List (S48)) (l1 : List Int) : Option (List Int × Int × Int) := (leadtrailref08_Valid.f k l0_0).bind fun t440 => (if t440 = true then (leadtrailref10_Text.l0 k l1 ([] : List Int) 0 l0_0) else (some (([] : List Int), 0, 84)))
def leadtrailref10_Text.T7 : Bool × List (List Nat × List Nat) := (true, [([], []), ([], []), ([], []), ([1, 2], [1, 2]), ([3], [3]), ([0, 4], [0, 4]), ([5], [5]), ([6], [6]), ([6], [6]), ([7, 5, 0, 1, 2, 3, 4, 5, 6, 7], [7]), ([8, 9, 0, 1, 2, 3, 4, 5, 6, 7, 8, 9], [8])])
def leadtrailref10_Text.B7 : List Nat := [0, 0, 0, 6, 14, 31, 63, 127, 127, 255, 1023]
theorem leadtrailref10_Text.tab7 : rtab .any (opsOf Tryz.f7 7) = leadtrailref10_Text.T7 := by kernel_rfl
theorem leadtrailref10_Text.bits7 : waitsOk leadtrailref10_Text.T7.2 leadtrailref10_Text.B7 = true := by kernel_rfl
theorem leadtrailref10_Text.calls (k : Nat) (A0_0 : Option Addr) (c0_0 : Nat) (l0_0 : List (S48)) (A1 : Option Addr) (c1 : Nat) (l1 : List Int) (r1 : List Int) (r2 : Int) (r3 : Int) (w : World) (hr0_0 : Kd.C k48 w A0_0 l0_0.length l0_0) (hc0_0 : l0_0.length ≤ c0_0) (hr1 : Kd.C (Kd.int .i64) w A1 l1.length l1) (hc1 : l1.length ≤ c1) (h : leadtrailref10_Text.f k l0_0 l1 = some (r1, r2, r3)) :
 Calls Tryz.prog 7 #[.agg #[.slice A0_0 l0_0.length c0_0], .slice A1 l1.length c1] w fun e w' => ∃ v0_ : Value, e = .returned (.tuple #[v0_, .int .i64 r2, .int .i64 r3]) ∧ Kd.R (Kd.int .u8) 5 w' w.heap.size (fun _ => True) v0_ r1 ∧ Below w.heap.size w w' := by
 have hu24 := Tryz.underlying24; have HR0_0 := zk hr0_0; have HC0_0 := zk hc0_0; clear hr0_0 hc0_0; have HR1 := zk hr1; have HC1 := zk hc1; clear hr1 hc1; have HB := zk (Below.refl w.heap.size w); have H : ((leadtrailref08_Valid.f k l0_0).bind fun t440 => (if t440 = true then (leadtrailref10_Text.l0 k l1 ([] : List Int) 0 l0_0) else (some (([] : List Int), 0, 84)))) = some (r1, r2, r3) := h; clear h; replace H := Option.bind_eq_some_iff.mp H; obtain ⟨t440, A30, H⟩ := H; replace H : (if t440 = true then (leadtrailref10_Text.l0 k l1 ([] : List Int) 0 l0_0) else (some (([] : List Int), 0, 84))) = some (r1, r2, r3) := H; have A3 := zk A30; clear A30; by_cases c4 : t440 = true
 ·subst c4; have H1 : (leadtrailref10_Text.l0 k l1 ([] : List Int) 0 l0_0) = some (r1, r2, r3) := by rw [if_pos rfl] at H; exact H
  clear H; have H := H1; clear H1; have H' := zk H; clear H; go_enter Tryz.func7, Tryz.ntmps7
  go_wp2_with (first | ((with_reducible refine gate_dst (N := 2) rfl ?_); refine box_event ?hg (N := 2) ?hd (cs := #[.slice A0_0 l0_0.length c0_0]) (t := 24) ?hr ?_; (case hd => rfl); (case hg => rfl); (case hr => first | (go_simp; done) | (go_simp; rfl)); intro gb439 hg w5 hbox hb; have BK439 := zk (hbox); have GE439 := zk ((zg hg HB.out : w.heap.size ≤ gb439)); replace HB := zs HB hb;  clear hb hbox hg; have hcz6_0 : w5.cell? ⟨gb439, 0, none⟩ = some (.slice A0_0 l0_0.length c0_0) := zh BK439.out 0; have hfz6_0 := blk_frozen BK439.out 0) | ((with_reducible refine gate_callee (f := 22) rfl ?_); refine goesL_ (some 12) rfl rfl Tryz.func22 zz rfl #[.agg #[.slice A0_0 l0_0.length c0_0]] rfl zM ?_; (with_reducible refine (leadtrailref08_Valid.calls k _ _ l0_0 true _ ?side1 ?side2 A3.out).mono ?_); (case side1 => exact zc (Kd.C_below HR0_0.out HB.out)); (case side2 => exact HC0_0.out); rintro e w7 ⟨rfl, hb⟩; refine ⟨_, rfl, ?_⟩; replace BK439 := zk (zbb BK439.out hb); replace HB := zs HB hb;  (try clear hb); (try clear hb2); (try clear hk); (try clear hi)))
  go_loopg [7, 8] k (fun kq v7 v8 w' => ∃ (x7_1 : List Int) (x8_1 : Int), v8 = .int .i64 x8_1 ∧ Aside0 (leadtrailref10_Text.l0 kq l1 x7_1 x8_1 l0_0 = some (r1, r2, r3)) ∧ Aside0 (kq ≤ k) ∧ Aside0 (Kd.R (Kd.int .u8) 5 w' w.heap.size (fun _ => True) v7 x7_1) ∧ Aside0 (w'.heap[gb439]? = some (.cells #[(.slice A0_0 l0_0.length c0_0)] 24 (0, 0))) ∧ Aside0 (Below w.heap.size w w'))
  case atStart => exact ⟨(([] : List Int)), (0), zR, H', ⟨Nat.le_refl _⟩, ⟨by first | exact Kd.R_nil _ _ _ _ _ | exact Kd.N_nil _ _ _ _ _ | exact Kd.V_nil _ _ _ _ _ | exact Kd.Q_nil _ _ _ _ _ | exact Kd.S_nil _ _ _ _ _⟩, ⟨zb BK439.out⟩, ⟨zU HB.out⟩⟩
  case round =>
   clear H'; (try clear c1); (try clear c2); (try clear p2); (try clear c4); (try clear c7); (try clear hcz6_0); (try clear hfz6_0); obtain ⟨x7_1, x8_1, rfl, HA, HK1, HO_7, BK439, HB⟩ := hrel
   cases gk with
   | zero => exact absurd HA.out (by simp [leadtrailref10_Text.l0])
   | succ k1 =>
    have H := HA.out; clear HA; simp only [leadtrailref10_Text.l0] at H; by_cases c8 : x8_1 < (l1.length : Int)
    ·rw [if_pos c8] at H; have c8b0 : decide (x8_1 < (l1.length : Int)) = true := decide_eq_true c8; clear c8; by_cases c9 : 0 ≤ x8_1
     ·rw [if_pos c9] at H; have c9b0 : decide (0 ≤ x8_1) = true := decide_eq_true c9; clear c9; replace H := Option.bind_eq_some_iff.mp H; obtain ⟨⟨t442, t445⟩, A100, H⟩ := H; replace H : (if t445 = true then (if x7_1.length + t442.length < 140737488355328 then (leadtrailref10_Text.l0 k1 l1 (x7_1 ++ t442) (wrap64 (x8_1 + 1)) l0_0) else (none)) else (some (([] : List Int), x8_1, 100))) = some (r1, r2, r3) := H; have A10 := zk A100; clear A100; by_cases c11 : t445 = true
      ·subst c11; have H1 : (if x7_1.length + t442.length < 140737488355328 then (leadtrailref10_Text.l0 k1 l1 (x7_1 ++ t442) (wrap64 (x8_1 + 1)) l0_0) else (none)) = some (r1, r2, r3) := by rw [if_pos rfl] at H; exact H
       clear H; have H := H1; clear H1; by_cases c12 : x7_1.length + t442.length < 140737488355328
       ·rw [if_pos c12] at H; have LMc12 := zk c12; clear c12; obtain ⟨y446, hy446⟩ : ∃ y_ : List Int, y_ = (x7_1 ++ t442) := ⟨_, rfl⟩
        replace H : (leadtrailref10_Text.l0 k1 l1 y446 (wrap64 (x8_1 + 1)) l0_0) = some (r1, r2, r3) := by first | (rw [hy446]; with_reducible exact H) | (have H2_ := (Option.bind_some _ _).symm.trans H; rw [hy446]; with_reducible exact H2_) | (have H2_ := (Option.bind_some _ _).symm.trans H; with_reducible exact H2_) | with_reducible exact H | (rw [hy446]; exact H) | exact H
        have Ny446 := zk hy446; clear hy446; have H' := zk H; clear H; try go_wp2
        have n0_ := zk (Kd.R_drew HO_7.out); have n1_ := zk (blk_drew BK439.out); have n2_ := zk (below_drew1 HB.out); clear HO_7; clear BK439; clear HB; have HO_7 := n0_; have BK439 := n1_; have HB := n2_; clear n0_ n1_ n2_; have p441 : 0 ≤ (x8_1 : Int) := zT; have q441 : x8_1 < (l1.length : Int) := zT; obtain ⟨ad441, e441, hx441_0⟩ := Kd.at_int HR1.out x8_1 p441 q441; have hw441_0 := hx441_0; cases e441; replace hx441_0 := zcl HB.out hx441_0; replace p441 := eq_true p441; replace q441 := eq_true q441; refine start_ (n := 11) (S := fun w' => w'.cell? ⟨gb439, 0, none⟩ = some (.slice A0_0 l0_0.length c0_0) ∧ w'.cell? (ad441.add (x8_1).toNat) = some (.int .i64 (rd l1 x8_1))) (ds := []) #[false, false, false, false, false, false, false, false, false, false, false] zz rfl rfl ⟨(blk_cell BK439.out 0).trans rfl, (zcl HB.out hw441_0)⟩ (fun hHeld => ?_); refine with_tabW leadtrailref10_Text.tab7 leadtrailref10_Text.bits7 (fun HT_ HW_ => ?_); generalize wr.drew = w13 at HO_7 BK439 HB hx441_0 hHeld ⊢; refine zp 1 (some 22) (v := ?_) (a' := ?_) (bz 11 2) rfl rfl HT_.out zz zQ ?_ ?_ ?_; rotate_left
        ·intro w'; go_simp; with_reducible rfl
        rotate_left
        ·simp only [zy]; rfl
        refine zp 2 (some 23) (v := ?_) (a' := ?_) (bz 11 6) rfl rfl HT_.out zz zQ ?_ ?_ ?_; rotate_left
        ·intro w'; go_simp; with_reducible rfl
        rotate_left
        ·simp only [zy]; rfl
        refine zp 3 (some 24) (v := ?_) (a' := ?_) (bz 11 14) rfl rfl HT_.out zz zQ ?_ ?_ ?_; rotate_left
        ·intro w'; go_simp; with_reducible rfl
        rotate_left
        ·simp only [zy]; rfl
        refine take_ (i := 0) (N := some 21) (v := ?_) (a' := ?_) (bz 11 15) rfl rfl (take_ofW HT_.out HW_.out zz) zQ (Or.inl ⟨by rfl, ?_⟩) hHeld ?_ ?_; rotate_left
        ·rintro w' ⟨s0, s1⟩; go_simp; with_reducible rfl
        rotate_left
        ·simp only [zy]; rfl
        refine take_ (i := 4) (N := some 25) (v := ?_) (a' := ?_) (bz 11 31) rfl rfl (take_ofW HT_.out HW_.out zz) zQ (Or.inl ⟨by rfl, ?_⟩) hHeld ?_ ?_; rotate_left
        ·rintro w' ⟨s0, s1⟩; go_simp; with_reducible rfl
        rotate_left
        ·simp only [zy]; rfl
        refine one_ (i := 5) (N := some 26) (bz 11 63) rfl rfl (one_of HT_.out zz) (by decide) (fun K hK => ?_); refine goes_ Tryz.func9 zz rfl #[.agg #[.slice A0_0 l0_0.length c0_0], .int .i64 (rd l1 x8_1)] (by rfl) rfl rfl zM ?_; with_reducible refine (leadtrailref10_Of.calls k1 _ _ l0_0 (rd l1 x8_1) t442 true _ ?side1 ?side2 A10.out).mono ?_; (case side1 => exact zc (Kd.C_below HR0_0.out HB.out))
        (case side2 => exact HC0_0.out)
        rintro e w14 ⟨v443, rfl, ho0, hb⟩; refine ⟨_, rfl, ?_⟩; have n0_ := zk (Kd.R_elder' (zr HO_7.out) (Kd.R_base ho0) hb); have n1_ := zk (Kd.R_lower (Kd.R_new' ho0 (Kd.R_lt (zr HO_7.out))) (below_size (zU HB.out))); have n2_ := zk (zbb BK439.out hb); have n3_ := zs HB hb; clear HO_7; clear BK439; clear HB; have HO_7 := n0_; have HO444 := n1_; have BK439 := n2_; have HB := n3_; clear n0_ n1_ n2_ n3_; (try clear hb); (try clear hb2); (try clear hk); (try clear hi); (try clear ho0); refine hK.out _ _ ⟨(blk_cell BK439.out 0).trans rfl, (zcl HB.out hw441_0)⟩ (fun hHeld => ?_); clear hK K; refine norm_ (a' := ?_) ?_ ?_; rotate_left
        ·show Act.put _ (some 26) _ = _; simp only [zy]; rfl
        refine zp 6 (some 20) (v := ?_) (a' := ?_) (bz 11 127) rfl rfl HT_.out zz zQ ?_ ?_ ?_; rotate_left
        ·intro w'; go_simp; with_reducible rfl
        rotate_left
        ·simp only [zy]; rfl
        refine zp 7 (some 27) (v := ?_) (a' := ?_) (bz 11 255) rfl rfl HT_.out zz zQ ?_ ?_ ?_; rotate_left
        ·intro w'; go_simp; with_reducible rfl
        rotate_left
        ·simp only [zy]; rfl
        refine zp 8 (some 28) (v := ?_) (a' := ?_) (bz 11 511) rfl rfl HT_.out zz zQ ?_ ?_ ?_; rotate_left
        ·intro w'; go_simp; with_reducible rfl
        rotate_left
        ·simp only [zy]; rfl
        refine zp 9 (some 9) (v := ?_) (a' := ?_) (bz 11 1023) rfl rfl HT_.out zz zQ ?_ ?_ ?_; rotate_left
        ·intro w'; go_simp; with_reducible rfl
        rotate_left
        ·simp only [zy]; rfl
        refine zp 10 (some 10) (v := ?_) (a' := ?_) (bz 11 2047) rfl rfl HT_.out zz zQ ?_ ?_ ?_; rotate_left
        ·intro w'; go_simp; with_reducible rfl
        rotate_left
        ·simp only [zy]; rfl
        refine done_ (done_of HT_.out zz) ?_; obtain ⟨Ao16, co16, eo16⟩ := Kd.R_slice HO444.out; subst eo16; try go_wp2_with (first | ((with_reducible refine gate_builtin (b := .append) (xs := #[.tmp 32, .tmp 33]) rfl ?_); at_builtin; refine Kd.R_append_rows (Kd.int .u8) (w0 := w) w.heap.size rfl (.tmp 32) (.tmp 33) 31 5 (.int .u8 0) 1 rfl Tryz.underlying31 info5 rfl (by decide) (by omega) u7 x7_1 t442 _ _ _ (fun k_ => some k_ ≠ (.slice Ao16 t442.length co16 : Value).ownBlock) (fun _ => False) rfl rfl ?aO ?aR (fun _ _ h => h) (fun _ h => h.elim) ?aF ?aB ?aS ?aL ?_; (case aR => exact zc (Kd.R_reads' HO444.out).2.2); (case aB => exact (zU HB.out)); (case aF => exact (fun k_ hk => Kd.fresh' (Kd.R_lt (zr HO444.out)) k_ hk)); (case aO => exact (by (with_reducible repeat (first | apply zA | apply zB | apply zC)); exact Kd.R_mono HO_7.out (fun _ hk => hk.2))); (case aS => exact (below_size (zU HB.out))); (case aL => have := LMc12.out; omega); intro v447 w15 ho hb hg hat; rw [← Ny446.out] at ho; have n0_ := zk (blk_grown (g := gb439) (o := .cells #[.slice A0_0 l0_0.length c0_0] 24 (0, 0)) (zb BK439.out) hg (Kd.R_ne HO_7.out BK439.out (by decide))); have n1_ := zk (Kd.R_after (ok := (fun _ => True)) (zr HO444.out) hg hat); have n2_ := zk (hb); have n3_ := zk (ho); clear BK439; clear HO444; clear HB; clear HO_7; have BK439 := n0_; have HO444 := n1_; have HB := n2_; have HO448 := n3_; clear n0_ n1_ n2_ n3_; clear ho hb hg hat))
        go_roundg k1
        case measure => have := HK1.out; omega
        case rel => exact ⟨(y446), (wrap64 (x8_1 + 1)), zR, H', ⟨by have := HK1.out; omega⟩, ⟨by (with_reducible repeat (first | apply zA | apply zB | apply zC)); exact Kd.R_mono HO448.out (fun _ hk => trivial)⟩, ⟨zb BK439.out⟩, ⟨zU HB.out⟩⟩
       ·rw [if_neg c12] at H; cases H
      ·replace c11 := Bool.eq_false_iff.mpr c11; subst c11; have H1 : (some (([] : List Int), x8_1, 100)) = some (r1, r2, r3) := by rw [if_neg (show ¬ (false = true) by decide)] at H; exact H
       clear H; have H := H1; clear H1; simp only [Option.some.injEq, Prod.mk.injEq] at H; obtain ⟨rfl, rfl, rfl⟩ := H; try go_wp2
       have n0_ := zk (Kd.R_drew HO_7.out); have n1_ := zk (blk_drew BK439.out); have n2_ := zk (below_drew1 HB.out); clear HO_7; clear BK439; clear HB; have HO_7 := n0_; have BK439 := n1_; have HB := n2_; clear n0_ n1_ n2_; have p441 : 0 ≤ (x8_1 : Int) := zT; have q441 : x8_1 < (l1.length : Int) := zT; obtain ⟨ad441, e441, hx441_0⟩ := Kd.at_int HR1.out x8_1 p441 q441; have hw441_0 := hx441_0; cases e441; replace hx441_0 := zcl HB.out hx441_0; replace p441 := eq_true p441; replace q441 := eq_true q441; refine start_ (n := 11) (S := fun w' => w'.cell? ⟨gb439, 0, none⟩ = some (.slice A0_0 l0_0.length c0_0) ∧ w'.cell? (ad441.add (x8_1).toNat) = some (.int .i64 (rd l1 x8_1))) (ds := []) #[false, false, false, false, false, false, false, false, false, false, false] zz rfl rfl ⟨(blk_cell BK439.out 0).trans rfl, (zcl HB.out hw441_0)⟩ (fun hHeld => ?_); refine with_tabW leadtrailref10_Text.tab7 leadtrailref10_Text.bits7 (fun HT_ HW_ => ?_); generalize wr.drew = w17 at HO_7 BK439 HB hx441_0 hHeld ⊢; refine zp 1 (some 22) (v := ?_) (a' := ?_) (bz 11 2) rfl rfl HT_.out zz zQ ?_ ?_ ?_; rotate_left
       ·intro w'; go_simp; with_reducible rfl
       rotate_left
       ·simp only [zy]; rfl
       refine zp 2 (some 23) (v := ?_) (a' := ?_) (bz 11 6) rfl rfl HT_.out zz zQ ?_ ?_ ?_; rotate_left
       ·intro w'; go_simp; with_reducible rfl
       rotate_left
       ·simp only [zy]; rfl
       refine zp 3 (some 24) (v := ?_) (a' := ?_) (bz 11 14) rfl rfl HT_.out zz zQ ?_ ?_ ?_; rotate_left
       ·intro w'; go_simp; with_reducible rfl
       rotate_left
       ·simp only [zy]; rfl
       refine take_ (i := 0) (N := some 21) (v := ?_) (a' := ?_) (bz 11 15) rfl rfl (take_ofW HT_.out HW_.out zz) zQ (Or.inl ⟨by rfl, ?_⟩) hHeld ?_ ?_; rotate_left
       ·rintro w' ⟨s0, s1⟩; go_simp; with_reducible rfl
       rotate_left
       ·simp only [zy]; rfl
       refine take_ (i := 4) (N := some 25) (v := ?_) (a' := ?_) (bz 11 31) rfl rfl (take_ofW HT_.out HW_.out zz) zQ (Or.inl ⟨by rfl, ?_⟩) hHeld ?_ ?_; rotate_left
       ·rintro w' ⟨s0, s1⟩; go_simp; with_reducible rfl
       rotate_left
       ·simp only [zy]; rfl
       refine one_ (i := 5) (N := some 26) (bz 11 63) rfl rfl (one_of HT_.out zz) (by decide) (fun K hK => ?_); refine goes_ Tryz.func9 zz rfl #[.agg #[.slice A0_0 l0_0.length c0_0], .int .i64 (rd l1 x8_1)] (by rfl) rfl rfl zM ?_; with_reducible refine (leadtrailref10_Of.calls k1 _ _ l0_0 (rd l1 x8_1) t442 false _ ?side1 ?side2 A10.out).mono ?_; (case side1 => exact zc (Kd.C_below HR0_0.out HB.out))
       (case side2 => exact HC0_0.out)
       rintro e w18 ⟨v443, rfl, ho0, hb⟩; refine ⟨_, rfl, ?_⟩; have n0_ := zk (Kd.R_elder' (zr HO_7.out) (Kd.R_base ho0) hb); have n1_ := zk (Kd.R_lower (Kd.R_new' ho0 (Kd.R_lt (zr HO_7.out))) (below_size (zU HB.out))); have n2_ := zk (zbb BK439.out hb); have n3_ := zs HB hb; clear HO_7; clear BK439; clear HB; have HO_7 := n0_; have HO444 := n1_; have BK439 := n2_; have HB := n3_; clear n0_ n1_ n2_ n3_; (try clear hb); (try clear hb2); (try clear hk); (try clear hi); (try clear ho0); refine hK.out _ _ ⟨(blk_cell BK439.out 0).trans rfl, (zcl HB.out hw441_0)⟩ (fun hHeld => ?_); clear hK K; refine norm_ (a' := ?_) ?_ ?_; rotate_left
       ·show Act.put _ (some 26) _ = _; simp only [zy]; rfl
       refine zp 6 (some 20) (v := ?_) (a' := ?_) (bz 11 127) rfl rfl HT_.out zz zQ ?_ ?_ ?_; rotate_left
       ·intro w'; go_simp; with_reducible rfl
       rotate_left
       ·simp only [zy]; rfl
       refine zp 7 (some 27) (v := ?_) (a' := ?_) (bz 11 255) rfl rfl HT_.out zz zQ ?_ ?_ ?_; rotate_left
       ·intro w'; go_simp; with_reducible rfl
       rotate_left
       ·simp only [zy]; rfl
       refine zp 8 (some 28) (v := ?_) (a' := ?_) (bz 11 511) rfl rfl HT_.out zz zQ ?_ ?_ ?_; rotate_left
       ·intro w'; go_simp; with_reducible rfl
       rotate_left
       ·simp only [zy]; rfl
       refine zp 9 (some 9) (v := ?_) (a' := ?_) (bz 11 1023) rfl rfl HT_.out zz zQ ?_ ?_ ?_; rotate_left
       ·intro w'; go_simp; with_reducible rfl
       rotate_left
       ·simp only [zy]; rfl
       refine zp 10 (some 10) (v := ?_) (a' := ?_) (bz 11 2047) rfl rfl HT_.out zz zQ ?_ ?_ ?_; rotate_left
       ·intro w'; go_simp; with_reducible rfl
       rotate_left
       ·simp only [zy]; rfl
       refine done_ (done_of HT_.out zz) ?_; try go_wp2
       go_ret3
       exact ⟨_, ze, by first | exact Kd.R_nil _ _ _ _ _ | exact Kd.N_nil _ _ _ _ _ | exact Kd.V_nil _ _ _ _ _ | exact Kd.Q_nil _ _ _ _ _ | exact Kd.S_nil _ _ _ _ _, zU HB.out⟩
     ·rw [if_neg c9] at H; cases H
    ·rw [if_neg c8] at H; have c8b0 : decide (x8_1 < (l1.length : Int)) = false := decide_eq_false c8; clear c8; simp only [Option.some.injEq, Prod.mk.injEq] at H; obtain ⟨rfl, rfl, rfl⟩ := H; go_wp2
     go_ret3
     exact ⟨_, ze, by (with_reducible repeat (first | apply zA | apply zB | apply zC)); exact HO_7.out, zU HB.out⟩
 ·replace c4 := Bool.eq_false_iff.mpr c4; subst c4; have H1 : (some (([] : List Int), 0, 84)) = some (r1, r2, r3) := by rw [if_neg (show ¬ (false = true) by decide)] at H; exact H
  clear H; have H := H1; clear H1; simp only [Option.some.injEq, Prod.mk.injEq] at H; obtain ⟨rfl, rfl, rfl⟩ := H; go_enter Tryz.func7, Tryz.ntmps7
  go_wp2_with (first | ((with_reducible refine gate_dst (N := 2) rfl ?_); refine box_event ?hg (N := 2) ?hd (cs := #[.slice A0_0 l0_0.length c0_0]) (t := 24) ?hr ?_; (case hd => rfl); (case hg => rfl); (case hr => first | (go_simp; done) | (go_simp; rfl)); intro gb439 hg w19 hbox hb; have BK439 := zk (hbox); have GE439 := zk ((zg hg HB.out : w.heap.size ≤ gb439)); replace HB := zs HB hb;  clear hb hbox hg; have hcz20_0 : w19.cell? ⟨gb439, 0, none⟩ = some (.slice A0_0 l0_0.length c0_0) := zh BK439.out 0; have hfz20_0 := blk_frozen BK439.out 0) | ((with_reducible refine gate_callee (f := 22) rfl ?_); refine goesL_ (some 12) rfl rfl Tryz.func22 zz rfl #[.agg #[.slice A0_0 l0_0.length c0_0]] rfl zM ?_; (with_reducible refine (leadtrailref08_Valid.calls k _ _ l0_0 false _ ?side1 ?side2 A3.out).mono ?_); (case side1 => exact zc (Kd.C_below HR0_0.out HB.out)); (case side2 => exact HC0_0.out); rintro e w21 ⟨rfl, hb⟩; refine ⟨_, rfl, ?_⟩; replace BK439 := zk (zbb BK439.out hb); replace HB := zs HB hb;  (try clear hb); (try clear hb2); (try clear hk); (try clear hi)))
  go_ret3
  exact ⟨_, ze, by first | exact Kd.R_nil _ _ _ _ _ | exact Kd.N_nil _ _ _ _ _ | exact Kd.V_nil _ _ _ _ _ | exact Kd.Q_nil _ _ _ _ _ | exact Kd.S_nil _ _ _ _ _, zU HB.out⟩
mutual
def leadtrailref12_Less.l0 : Nat → List Int → List Int → Int → Option (Bool)
 | 0, _, _, _ => none
 | k + 1, x0, x1, x5 => if x5 < (x0.length : Int) then (leadtrailref12_Less.j1 k x0 x1 x5 (decide (x5 < (x1.length : Int)))) else (leadtrailref12_Less.j1 k x0 x1 x5 false)
def leadtrailref12_Less.j1 : Nat → List Int → List Int → Int → Bool → Option (Bool)
 | 0, _, _, _, _ => none
 | k + 1, x0, x1, x5, x15 => if x15 = true then (if 0 ≤ x5 then (if x5 < (x0.length : Int) then (if x5 < (x1.length : Int) then (if (rd x0 x5) = (rd x1 x5) then (leadtrailref12_Less.l0 k x0 x1 (wrap64 (x5 + 1))) else (some (decide ((rd x0 x5) < (rd x1 x5))))) else (none)) else (none)) else (none)) else (some (decide ((x0.length : Int) < (x1.length : Int))))
end
def leadtrailref12_Less.f (k : Nat) (l0 : List Int) (l1 : List Int) : Option (Bool) := leadtrailref12_Less.l0 k l0 l1 0
theorem leadtrailref12_Less.calls (k : Nat) (A0 : Option Addr) (c0 : Nat) (l0 : List Int) (A1 : Option Addr) (c1 : Nat) (l1 : List Int) (r : Bool) (w : World) (hr0 : Kd.C (Kd.int .u8) w A0 l0.length l0) (hc0 : l0.length ≤ c0) (hr1 : Kd.C (Kd.int .u8) w A1 l1.length l1) (hc1 : l1.length ≤ c1) (h : leadtrailref12_Less.f k l0 l1 = some r) :
 Calls Tryz.prog 10 #[.slice A0 l0.length c0, .slice A1 l1.length c1] w fun e w' => e = .returned (.bool r) ∧ Drawn0 w w' := by
 have HR0 := zk hr0; have HC0 := zk hc0; clear hr0 hc0; have HR1 := zk hr1; have HC1 := zk hc1; clear hr1 hc1; have H : (leadtrailref12_Less.l0 k l0 l1 0) = some r := h; clear h; have H' := zk H; clear H; go_enter Tryz.func10, Tryz.ntmps10
 go_wp2
 repeat (go_quiet (fail); try go_wp2)
 go_loopg [5] k (fun kq v5 w' => ∃ (x5_1 : Int), v5 = .int .i64 x5_1 ∧ Aside0 (leadtrailref12_Less.l0 kq l0 l1 x5_1 = some r) ∧ Aside0 (kq ≤ k) ∧ Drawn0 w w')
 case atStart => exact ⟨(0), zR, H', ⟨Nat.le_refl _⟩, by repeat (first | exact Drawn0.refl _ | apply Drawn0.step)⟩
 case round =>
  clear H'; (try clear c1); (try clear p2); obtain ⟨x5_1, rfl, HA, HK1, ⟨m1, rfl⟩⟩ := hrel
  cases gk with
  | zero => exact absurd HA.out (by simp [leadtrailref12_Less.l0])
  | succ k1 =>
   have H := HA.out; clear HA; simp only [leadtrailref12_Less.l0] at H; have HC3 := zk H; clear H; go_upto_region 2 with (fail)
   repeat (go_quiet (fail); go_upto_region 2 with (fail))
   go_cut [15] (fun v15 wc => ∃ (kq : Nat) (x15_2 : Bool), v15 = .bool x15_2 ∧ Aside0 (leadtrailref12_Less.j1 kq l0 l1 x5_1 x15_2 = some r) ∧ Aside0 (kq ≤ k1) ∧ Drawn0 w wc)
   case first =>
    have H := HC3.out; clear HC3; by_cases c4 : x5_1 < (l0.length : Int)
    ·rw [if_pos c4] at H; have c4b0 : decide (x5_1 < (l0.length : Int)) = true := decide_eq_true c4; clear c4
     (first | rw [c4b0] | (simp only [i64_w, i32_w]; rw [c4b0]) | skip)
     have H' := zk H; clear H; go_wp2
     repeat (go_quiet (fail); try go_wp2)
     go_meet
     case rel => exact ⟨_, (decide (x5_1 < (l1.length : Int))), zR, H', ⟨by have := HK1.out; first | omega | exact Nat.le_refl _⟩, by repeat (first | exact Drawn0.refl _ | apply Drawn0.step)⟩
    ·rw [if_neg c4] at H; have c4b0 : decide (x5_1 < (l0.length : Int)) = false := decide_eq_false c4; clear c4
     (first | rw [c4b0] | (simp only [i64_w, i32_w]; rw [c4b0]) | skip)
     have H' := zk H; clear H; go_wp2
     repeat (go_quiet (fail); try go_wp2)
     go_meet
     case rel => exact ⟨_, (false), zR, H', ⟨by have := HK1.out; first | omega | exact Nat.le_refl _⟩, by repeat (first | exact Drawn0.refl _ | apply Drawn0.step)⟩
   case rest =>
    clear HC3; (try clear c1); (try clear p2); (try clear c4); (try clear c4b0); (try clear p2); obtain ⟨kq, x15_2, rfl, HA, HJ2, ⟨mc2, rfl⟩⟩ := hcut; cases kq with
    | zero => exact absurd HA.out (by simp [leadtrailref12_Less.j1])
    | succ kj2 =>
     have H := HA.out; clear HA; simp only [leadtrailref12_Less.j1] at H; by_cases c5 : x15_2 = true
     ·subst c5; have H1 : (if 0 ≤ x5_1 then (if x5_1 < (l0.length : Int) then (if x5_1 < (l1.length : Int) then (if (rd l0 x5_1) = (rd l1 x5_1) then (leadtrailref12_Less.l0 kj2 l0 l1 (wrap64 (x5_1 + 1))) else (some (decide ((rd l0 x5_1) < (rd l1 x5_1))))) else (none)) else (none)) else (none)) = some r := by rw [if_pos rfl] at H; exact H
      clear H; have H := H1; clear H1; by_cases c6 : 0 ≤ x5_1
      ·rw [if_pos c6] at H; have c6b0 : decide (0 ≤ x5_1) = true := decide_eq_true c6; clear c6; by_cases c7 : x5_1 < (l0.length : Int)
       ·rw [if_pos c7] at H; have c7b0 : decide (x5_1 < (l0.length : Int)) = true := decide_eq_true c7; clear c7; by_cases c8 : x5_1 < (l1.length : Int)
        ·rw [if_pos c8] at H; have c8b0 : decide (x5_1 < (l1.length : Int)) = true := decide_eq_true c8; clear c8; by_cases c9 : (rd l0 x5_1) = (rd l1 x5_1)
         ·rw [if_pos c9] at H; have c9b0 : ((rd l0 x5_1) == (rd l1 x5_1)) = true := beq_iff_eq.mpr c9; have c9b1 : ((rd l0 x5_1) != (rd l1 x5_1)) = false := bne_eq_false_iff_eq.mpr c9; clear c9; have H' := zk H; clear H; have p449 : 0 ≤ (x5_1 : Int) := zT; have q449 : x5_1 < (l0.length : Int) := zT; obtain ⟨ad449, e449, hx449_0⟩ := Kd.at_int HR0.out x5_1 p449 q449; cases e449; replace p449 := eq_true p449; replace q449 := eq_true q449; have p450 : 0 ≤ (x5_1 : Int) := zT; have q450 : x5_1 < (l1.length : Int) := zT; obtain ⟨ad450, e450, hx450_0⟩ := Kd.at_int HR1.out x5_1 p450 q450; cases e450; replace p450 := eq_true p450; replace q450 := eq_true q450; go_wp2
          repeat (go_quiet (fail); try go_wp2)
          go_roundg kj2
          case measure => have := HK1.out; have := HJ2.out; omega
          case rel => exact ⟨(wrap64 (x5_1 + 1)), zR, H', ⟨by have := HK1.out; have := HJ2.out; omega⟩, by repeat (first | exact Drawn0.refl _ | apply Drawn0.step)⟩
         ·rw [if_neg c9] at H; have c9b0 : ((rd l0 x5_1) == (rd l1 x5_1)) = false := beq_eq_false_iff_ne.mpr c9; have c9b1 : ((rd l0 x5_1) != (rd l1 x5_1)) = true := bne_iff_ne.mpr c9; obtain rfl := Option.some.inj H; have p449 : 0 ≤ (x5_1 : Int) := zT; have q449 : x5_1 < (l0.length : Int) := zT; obtain ⟨ad449, e449, hx449_0⟩ := Kd.at_int HR0.out x5_1 p449 q449; cases e449; replace p449 := eq_true p449; replace q449 := eq_true q449; have p450 : 0 ≤ (x5_1 : Int) := zT; have q450 : x5_1 < (l1.length : Int) := zT; obtain ⟨ad450, e450, hx450_0⟩ := Kd.at_int HR1.out x5_1 p450 q450; cases e450; replace p450 := eq_true p450; replace q450 := eq_true q450; have p451 : 0 ≤ (x5_1 : Int) := zT; have q451 : x5_1 < (l0.length : Int) := zT; obtain ⟨ad451, e451, hx451_0⟩ := Kd.at_int HR0.out x5_1 p451 q451; obtain rfl : ad449 = ad451 := (by injection e451); replace p451 := eq_true p451; replace q451 := eq_true q451; have p452 : 0 ≤ (x5_1 : Int) := zT; have q452 : x5_1 < (l1.length : Int) := zT; obtain ⟨ad452, e452, hx452_0⟩ := Kd.at_int HR1.out x5_1 p452 q452; obtain rfl : ad450 = ad452 := (by injection e452); replace p452 := eq_true p452; replace q452 := eq_true q452; go_wp2
          repeat (go_quiet (fail); try go_wp2)
          go_ret
          exact ⟨by first | rfl | (simp; done) | (simp [*]; done), by repeat (first | exact Drawn0.refl _ | apply Drawn0.step)⟩
        ·rw [if_neg c8] at H; cases H
       ·rw [if_neg c7] at H; cases H
      ·rw [if_neg c6] at H; cases H
     ·replace c5 := Bool.eq_false_iff.mpr c5; subst c5; have H1 : (some (decide ((l0.length : Int) < (l1.length : Int)))) = some r := by rw [if_neg (show ¬ (false = true) by decide)] at H; exact H
      clear H; have H := H1; clear H1; obtain rfl := Option.some.inj H; go_wp2
      repeat (go_quiet (fail); try go_wp2)
      go_ret
      exact ⟨by first | rfl | (simp; done) | (simp [*]; done), by repeat (first | exact Drawn0.refl _ | apply Drawn0.step)⟩
end Go.Proofs.YtobhclnenffkgaaGreat.B
