/- Words and walks of this claim, of the text Bx12. -/
import Derived.Test.YtobhclnenffkgaaGreatKaQW0
import Derived.Test.YtobhclnenffkgaaGreatKaBx0
import Derived.Test.YtobhclnenffkgaaGreatKaBx11
namespace Go.Proofs.YtobhclnenffkgaaGreat.B
open Go.RowKit Go.Proofs.YtobhclnenffkgaaGreatW.PrintWords Go.Proofs.YtobhclnenffkgaaGreatW.PrintLast Go.Proofs.YtobhclnenffkgaaGreatW.PrintMore
set_option maxHeartbeats 8000000
set_option maxRecDepth 100000
attribute [local go_sem] max2_int min2_int max_two min_two max_three min_three max_four min_four
set_option linter.unusedVariables false
set_option linter.unusedSimpArgs false
theorem R3Size.calls (k : Nat) (A0 : Option Addr) (c0 : Nat) (l0 : List S69) (b : Bool) (w : World) (hr0 : Kd.C k69 w A0 l0.length l0) (hc0 : l0.length ≤ c0) (h : leadtrailref03_Valid.f k l0 = some b) (hok : b = true → ∀ r ∈ l0, okPiece r = true) (hsm : l0.length ≤ 8796093022207) :
 Calls Tryz.prog 44 #[.slice A0 l0.length c0] w fun e w' => e = .returned (.int .i64 (cntB (membersB b l0) 256 : Nat)) ∧ Below w.heap.size w w' := by
 have HR0 := zk hr0; have HC0 := zk hc0; have hMem := R3Members.calls k A0 c0 l0 b w hr0 hc0 h hok hsm; clear hr0 hc0 h hok; change Calls Tryz.prog 68 _ w (fun e w' => e = .returned (.agg (bitsV (membersB b l0))) ∧ _) at hMem
 have HB := zk (Below.refl w.heap.size w); have hle := cntB_le (membersB b l0); generalize membersB b l0 = p at hMem hle ⊢; go_enter Tryz.func44, Tryz.ntmps44
 go_wp2_with (go_at_call 68; refine hMem.mono ?_; rintro e w1 ⟨rfl, hb⟩; clear hMem; have HB2 := zk hb; clear hb)
 rw [run_store_new w1 p]; have D := zk (blk_new w1 (.cells (bitsV p) 105)); have HB3 := zk (below_alloc HB2.out (.cells (bitsV p) 105)); clear HB2 HB; generalize w1.heap.size = g at D ⊢; generalize w1.alloc (.cells (bitsV p) 105) = w2 at D HB3 ⊢; go_wp2
 go_loopg [4, 5] 257 (fun kq v4 v5 w' => ∃ n : Nat, v4 = .int .i64 (cntB p n : Nat) ∧ v5 = .int .i64 (n : Int) ∧ Aside0 (n + kq = 257) ∧ Aside0 (n ≤ 256) ∧ Aside0 (w'.heap[g]? = some (.cells (bitsV p) 105 (0, 0))) ∧ Aside0 (Below w.heap.size w w'))
 case atStart => exact ⟨0, rfl, rfl, ⟨by omega⟩, ⟨by omega⟩, D, HB3⟩
 case round =>
  obtain ⟨n, rfl, rfl, HN, HN2, C, HB'⟩ := hrel; have hcl := cntB_le p n
  cases gk with
  | zero => exact absurd HN.out (by have := HN2.out; omega)
  | succ k1 =>
  by_cases c : n ≤ 255
  ·have cb : decide ((n : Int) ≤ 255) = true := decide_eq_true (by omega); have p2 : (0 ≤ (n : Int)) = True := eq_true (by omega); have q2 : ((n : Int) < 256) = True := eq_true (by omega); have c_ := zk c; have hcl_ := zk hcl; have hc := blk_cell C.out n; rw [bitsV_get _ _ (by omega)] at hc; clear c hcl; cases hpn : p n with
   | true =>
    rw [hpn] at hc; go_wp2
    have hcl := hcl_.out; have hN := HN.out; have c := c_.out; go_roundg k1
    case measure => omega
    case rel => exact ⟨n + 1, by simp only [cntB, hpn, if_true]; rw [w64' (by omega) (by omega)]; simp, by rw [w64' (by omega) (by omega)]; simp, ⟨by omega⟩, ⟨by omega⟩, C, HB'⟩
   | false =>
    rw [hpn] at hc; go_wp2
    have hcl := hcl_.out; have hN := HN.out; have c := c_.out; go_roundg k1
    case measure => omega
    case rel => exact ⟨n + 1, by simp only [cntB, hpn, Bool.false_eq_true, if_false, Nat.add_zero], by rw [w64' (by omega) (by omega)]; simp, ⟨by omega⟩, ⟨by omega⟩, C, HB'⟩
  ·have cb : decide ((n : Int) ≤ 255) = false := decide_eq_false (by omega); have hn := zk (show n = 256 by have := HN.out; have := HN2.out; omega); clear c hcl; go_wp2
   go_ret
   have hn := hn.out; subst hn; exact ⟨rfl, HB'.out⟩
def leadtrailref03_Size.f (k : Nat) (l0 : List (S69)) : Option (Int) := (leadtrailref03_memb k l0).bind fun p => some (cntB p 256 : Int)
theorem leadtrailref03_Size.calls (k : Nat) (A0 : Option Addr) (c0 : Nat) (l0 : List (S69)) (r : Int) (w : World) (hr0 : Kd.C k69 w A0 l0.length l0) (hc0 : l0.length ≤ c0) (h : leadtrailref03_Size.f k l0 = some r) :
 Calls Tryz.prog 44 #[.slice A0 l0.length c0] w fun e w' => e = .returned (.int .i64 r) ∧ Below w.heap.size w w' := by
 obtain ⟨p, h1, h2⟩ := Option.bind_eq_some_iff.mp h; obtain ⟨b, hv, rfl, hok, hsm⟩ := memb_some h1; have hh := R3Size.calls k A0 c0 l0 b w hr0 hc0 hv hok hsm; obtain rfl := Option.some.inj h2; exact hh
def leadtrailref08_Count.l0 : Nat → Int → Int → List (List (S69)) → Int → Option (Int)
 | 0, _, _, _, _ => none
 | k + 1, x3, x4, x393000, x393001 => if x4 < (x393000.length : Int) then (if 0 ≤ x4 then ((leadtrailref03_Size.f k (rd_L3 x393000 x4)).bind fun t394 => (if (wrap64 (x3 * t394)) > 1073741824 then (leadtrailref08_Count.l0 k 1073741825 (wrap64 (x4 + 1)) x393000 x393001) else (leadtrailref08_Count.l0 k (wrap64 (x3 * t394)) (wrap64 (x4 + 1)) x393000 x393001))) else (none)) else (some x3)
def leadtrailref08_Count.f (k : Nat) (l0_0 : List (List (S69))) (a0_1 : Int) : Option (Int) := leadtrailref08_Count.l0 k 1 0 l0_0 a0_1
theorem leadtrailref08_Count.calls (k : Nat) (A0_0 : Option Addr) (c0_0 : Nat) (l0_0 : List (List (S69))) (a0_1 : Int) (r : Int) (w : World) (hr0_0 : Kd.C (Kd.slice 69 k69) w A0_0 l0_0.length l0_0) (hc0_0 : l0_0.length ≤ c0_0) (h : leadtrailref08_Count.f k l0_0 a0_1 = some r) :
 Calls Tryz.prog 24 #[.agg #[.slice A0_0 l0_0.length c0_0, .int .i64 a0_1]] w fun e w' => e = .returned (.int .i64 r) ∧ Below w.heap.size w w' := by
 have hu48 := Tryz.underlying48; have HR0_0 := zk hr0_0; have HC0_0 := zk hc0_0; clear hr0_0 hc0_0; have HB := zk (Below.refl w.heap.size w); have H : (leadtrailref08_Count.l0 k 1 0 l0_0 a0_1) = some r := h; clear h; have H' := zk H; clear H; go_enter Tryz.func24, Tryz.ntmps24
 go_wp2_with (first | ((with_reducible refine gate_dst (N := 1) rfl ?_); refine box_event ?hg (N := 1) ?hd (cs := #[.slice A0_0 l0_0.length c0_0, .int .i64 a0_1]) (t := 48) ?hr ?_; (case hd => rfl); (case hg => rfl); (case hr => first | (go_simp; done) | (go_simp; rfl)); intro gb392 hg w2 hbox hb; have BK392 := zk (hbox); have GE392 := zk ((zg hg HB.out : w.heap.size ≤ gb392)); replace HB := zs HB hb;  clear hb hbox hg))
 go_loopg [3, 4] k (fun kq v3 v4 w' => ∃ (x3_1 : Int) (x4_1 : Int), v3 = .int .i64 x3_1 ∧ v4 = .int .i64 x4_1 ∧ Aside0 (leadtrailref08_Count.l0 kq x3_1 x4_1 l0_0 a0_1 = some r) ∧ Aside0 (kq ≤ k) ∧ Aside0 (w'.heap[gb392]? = some (.cells #[(.slice A0_0 l0_0.length c0_0), .int .i64 a0_1] 48 (0, 0))) ∧ Aside0 (Below w.heap.size w w'))
 case atStart => exact ⟨(1), (0), zR, zR, H', ⟨Nat.le_refl _⟩, ⟨zb BK392.out⟩, ⟨zU HB.out⟩⟩
 case round =>
  clear H'; (try clear c2); (try clear p2); obtain ⟨x3_1, x4_1, rfl, rfl, HA, HK1, BK392, HB⟩ := hrel
  cases gk with
  | zero => exact absurd HA.out (by simp [leadtrailref08_Count.l0])
  | succ k1 =>
   have H := HA.out; clear HA; simp only [leadtrailref08_Count.l0] at H; by_cases c3 : x4_1 < (l0_0.length : Int)
   ·rw [if_pos c3] at H; have c3b0 : decide (x4_1 < (l0_0.length : Int)) = true := decide_eq_true c3; clear c3; by_cases c4 : 0 ≤ x4_1
    ·rw [if_pos c4] at H; have c4b0 : decide (0 ≤ x4_1) = true := decide_eq_true c4; clear c4; replace H := Option.bind_eq_some_iff.mp H; obtain ⟨t394, A50, H⟩ := H; replace H : (if (wrap64 (x3_1 * t394)) > 1073741824 then (leadtrailref08_Count.l0 k1 1073741825 (wrap64 (x4_1 + 1)) l0_0 a0_1) else (leadtrailref08_Count.l0 k1 (wrap64 (x3_1 * t394)) (wrap64 (x4_1 + 1)) l0_0 a0_1)) = some r := H; have A5 := zk A50; clear A50; by_cases c6 : (wrap64 (x3_1 * t394)) > 1073741824
     ·rw [if_pos c6] at H; have c6b0 : decide (1073741824 < (wrap64 (x3_1 * t394))) = true := decide_eq_true c6; clear c6; have H' := zk H; clear H; have hcz7_0 : wr.cell? ⟨gb392, 0, none⟩ = some (.slice A0_0 l0_0.length c0_0) := zh BK392.out 0; have hcz7_1 : wr.cell? ⟨gb392, 1, none⟩ = some (.int .i64 a0_1) := zh BK392.out 1; have hfz7_0 := blk_frozen BK392.out 0; have hfz7_1 := blk_frozen BK392.out 1; have p393 : 0 ≤ (x4_1 : Int) := zT; have q393 : x4_1 < (l0_0.length : Int) := zT; obtain ⟨ad393, A393_0, c393_0, e393, hx393_0, hl393_0, hi393_0⟩ := at_L3 HR0_0.out x4_1 p393 q393; cases e393; replace hx393_0 := zcl HB.out hx393_0; have HR393_0 := zk hi393_0; have HC393_0 := zk hl393_0; clear hi393_0 hl393_0; replace p393 := eq_true p393; replace q393 := eq_true q393; go_wp2_with (first | ((with_reducible refine gate_callee (f := 44) rfl ?_); refine goesL_ (some 18) rfl rfl Tryz.func44 zz rfl #[.slice A393_0 (rd_L3 l0_0 x4_1).length c393_0] rfl zM ?_; (with_reducible refine (leadtrailref03_Size.calls k1 _ _ (rd_L3 l0_0 x4_1) t394 _ ?side1 ?side2 A5.out).mono ?_); (case side1 => exact zc (Kd.C_below HR393_0.out HB.out)); (case side2 => exact HC393_0.out); rintro e w8 ⟨rfl, hb⟩; refine ⟨_, rfl, ?_⟩; replace BK392 := zk (zbb BK392.out hb); replace HB := zs HB hb;  (try clear hb); (try clear hb2); (try clear hk); (try clear hi)))
      go_roundg k1
      case measure => have := HK1.out; omega
      case rel => exact ⟨(1073741825), (wrap64 (x4_1 + 1)), zR, zR, H', ⟨by have := HK1.out; omega⟩, ⟨zb BK392.out⟩, ⟨zU HB.out⟩⟩
     ·rw [if_neg c6] at H; have c6b0 : decide (1073741824 < (wrap64 (x3_1 * t394))) = false := decide_eq_false c6; clear c6; have H' := zk H; clear H; have hcz9_0 : wr.cell? ⟨gb392, 0, none⟩ = some (.slice A0_0 l0_0.length c0_0) := zh BK392.out 0; have hcz9_1 : wr.cell? ⟨gb392, 1, none⟩ = some (.int .i64 a0_1) := zh BK392.out 1; have hfz9_0 := blk_frozen BK392.out 0; have hfz9_1 := blk_frozen BK392.out 1; have p393 : 0 ≤ (x4_1 : Int) := zT; have q393 : x4_1 < (l0_0.length : Int) := zT; obtain ⟨ad393, A393_0, c393_0, e393, hx393_0, hl393_0, hi393_0⟩ := at_L3 HR0_0.out x4_1 p393 q393; cases e393; replace hx393_0 := zcl HB.out hx393_0; have HR393_0 := zk hi393_0; have HC393_0 := zk hl393_0; clear hi393_0 hl393_0; replace p393 := eq_true p393; replace q393 := eq_true q393; go_wp2_with (first | ((with_reducible refine gate_callee (f := 44) rfl ?_); refine goesL_ (some 18) rfl rfl Tryz.func44 zz rfl #[.slice A393_0 (rd_L3 l0_0 x4_1).length c393_0] rfl zM ?_; (with_reducible refine (leadtrailref03_Size.calls k1 _ _ (rd_L3 l0_0 x4_1) t394 _ ?side1 ?side2 A5.out).mono ?_); (case side1 => exact zc (Kd.C_below HR393_0.out HB.out)); (case side2 => exact HC393_0.out); rintro e w10 ⟨rfl, hb⟩; refine ⟨_, rfl, ?_⟩; replace BK392 := zk (zbb BK392.out hb); replace HB := zs HB hb;  (try clear hb); (try clear hb2); (try clear hk); (try clear hi)))
      go_roundg k1
      case measure => have := HK1.out; omega
      case rel => exact ⟨(wrap64 (x3_1 * t394)), (wrap64 (x4_1 + 1)), zR, zR, H', ⟨by have := HK1.out; omega⟩, ⟨zb BK392.out⟩, ⟨zU HB.out⟩⟩
    ·rw [if_neg c4] at H; cases H
   ·rw [if_neg c3] at H; have c3b0 : decide (x4_1 < (l0_0.length : Int)) = false := decide_eq_false c3; clear c3; obtain rfl := Option.some.inj H; have hcz11_0 : wr.cell? ⟨gb392, 0, none⟩ = some (.slice A0_0 l0_0.length c0_0) := zh BK392.out 0; have hcz11_1 : wr.cell? ⟨gb392, 1, none⟩ = some (.int .i64 a0_1) := zh BK392.out 1; have hfz11_0 := blk_frozen BK392.out 0; have hfz11_1 := blk_frozen BK392.out 1; go_wp2
    go_ret
    exact ⟨ze, zU HB.out⟩
mutual
def leadtrailref08_ValidShape.j0 : Nat → Bool → List (List (S69)) → Int → Option (Bool)
 | 0, _, _, _ => none
 | k + 1, x23, x396000, x396001 => if x23 = true then (some false) else (leadtrailref08_ValidShape.l0 k 0 x396000 x396001)
def leadtrailref08_ValidShape.l0 : Nat → Int → List (List (S69)) → Int → Option (Bool)
 | 0, _, _, _ => none
 | k + 1, x3, x396000, x396001 => if x3 < (x396000.length : Int) then (if 0 ≤ x3 then (if ((rd_L3 x396000 x3).length : Int) = 0 then (some false) else ((leadtrailref03_Valid.f k (rd_L3 x396000 x3)).bind fun t399 => (if t399 = true then (leadtrailref08_ValidShape.l0 k (wrap64 (x3 + 1)) x396000 x396001) else (some false)))) else (none)) else ((leadtrailref08_Count.f k x396000 x396001).bind fun t396 => (some (decide ((wrap64 ((wrap64 (x396001 + t396)) - 1)) ≤ 1073741823))))
end
def leadtrailref08_ValidShape.f (k : Nat) (l0_0 : List (List (S69))) (a0_1 : Int) : Option (Bool) := if (l0_0.length : Int) < 1 then (leadtrailref08_ValidShape.j0 k true l0_0 a0_1) else (if (l0_0.length : Int) > 8 then (leadtrailref08_ValidShape.j0 k true l0_0 a0_1) else (if a0_1 < 0 then (leadtrailref08_ValidShape.j0 k true l0_0 a0_1) else (leadtrailref08_ValidShape.j0 k (decide (a0_1 > 1073741823)) l0_0 a0_1)))
def leadtrailref08_ValidShape.T8 : Bool × List (List Nat × List Nat) := (true, [([], []), ([0], [0]), ([], []), ([2], [2]), ([1, 3], [1, 3]), ([4], [4]), ([5], [5]), ([6, 3, 0, 1, 2, 3, 4, 5, 6], [6])])
def leadtrailref08_ValidShape.B8 : List Nat := [0, 1, 0, 4, 15, 31, 63, 127]
theorem leadtrailref08_ValidShape.tab8 : rtab .any (opsOf Tryz.f41 8) = leadtrailref08_ValidShape.T8 := by kernel_rfl
theorem leadtrailref08_ValidShape.bits8 : waitsOk leadtrailref08_ValidShape.T8.2 leadtrailref08_ValidShape.B8 = true := by kernel_rfl
theorem leadtrailref08_ValidShape.calls (k : Nat) (A0_0 : Option Addr) (c0_0 : Nat) (l0_0 : List (List (S69))) (a0_1 : Int) (r : Bool) (w : World) (hr0_0 : Kd.C (Kd.slice 69 k69) w A0_0 l0_0.length l0_0) (hc0_0 : l0_0.length ≤ c0_0) (h : leadtrailref08_ValidShape.f k l0_0 a0_1 = some r) :
 Calls Tryz.prog 41 #[.agg #[.slice A0_0 l0_0.length c0_0, .int .i64 a0_1]] w fun e w' => e = .returned (.bool r) ∧ Below w.heap.size w w' := by
 have hu48 := Tryz.underlying48; have HR0_0 := zk hr0_0; have HC0_0 := zk hc0_0; clear hr0_0 hc0_0; have HB := zk (Below.refl w.heap.size w); have H : (if (l0_0.length : Int) < 1 then (leadtrailref08_ValidShape.j0 k true l0_0 a0_1) else (if (l0_0.length : Int) > 8 then (leadtrailref08_ValidShape.j0 k true l0_0 a0_1) else (if a0_1 < 0 then (leadtrailref08_ValidShape.j0 k true l0_0 a0_1) else (leadtrailref08_ValidShape.j0 k (decide (a0_1 > 1073741823)) l0_0 a0_1)))) = some r := h; clear h; have HC2 := zk H; clear H; go_enter Tryz.func41, Tryz.ntmps41
 go_upto_region 1 with (first | ((with_reducible refine gate_dst (N := 1) rfl ?_); (try (refine gate_guard (by rfl) ?_; dsimp only)); refine box_event ?hg (N := 1) ?hd (cs := #[.slice A0_0 l0_0.length c0_0, .int .i64 a0_1]) (t := 48) ?hr ?_; (case hd => rfl); (case hg => rfl); (case hr => first | (go_simp; done) | (go_simp; rfl)); intro gb395 hg w3 hbox hb; have BK395 := zk (hbox); have GE395 := zk ((zg hg HB.out : w.heap.size ≤ gb395)); replace HB := zs HB hb;  clear hb hbox hg))
 (try simp only [Act.put, List.setIfInBounds_toArray, List.set_cons_zero, List.set_cons_succ])
 go_cut [23] (fun v23 wc => ∃ (kq : Nat) (x23_1 : Bool), v23 = .bool x23_1 ∧ Aside0 (leadtrailref08_ValidShape.j0 kq x23_1 l0_0 a0_1 = some r) ∧ Aside0 (kq ≤ k) ∧ Aside0 (wc.heap[gb395]? = some (.cells #[(.slice A0_0 l0_0.length c0_0), .int .i64 a0_1] 48 (0, 0))) ∧ Aside0 (Below w.heap.size w wc))
 case first =>
  have H := HC2.out; clear HC2; by_cases c4 : (l0_0.length : Int) < 1
  ·rw [if_pos c4] at H; have c4b0 : decide ((l0_0.length : Int) < 1) = true := decide_eq_true c4; have c4b1 : decide (l0_0.length < 1) = true := decide_eq_true (by omega); clear c4
   (first | rw [c4b0] | (simp only [i64_w, i32_w]; rw [c4b0]) | skip)
   have H' := zk H; clear H; have hcz5_0 : w3.cell? ⟨gb395, 0, none⟩ = some (.slice A0_0 l0_0.length c0_0) := zh BK395.out 0; have hcz5_1 : w3.cell? ⟨gb395, 1, none⟩ = some (.int .i64 a0_1) := zh BK395.out 1; have hfz5_0 := blk_frozen BK395.out 0; have hfz5_1 := blk_frozen BK395.out 1; go_wp2
   go_meet
   case rel => exact ⟨_, (true), zR, H', ⟨by first | omega | exact Nat.le_refl _⟩, ⟨zb BK395.out⟩, ⟨zU HB.out⟩⟩
  ·rw [if_neg c4] at H; have c4b0 : decide ((l0_0.length : Int) < 1) = false := decide_eq_false c4; have c4b1 : decide (l0_0.length < 1) = false := decide_eq_false (by omega); clear c4
   (first | rw [c4b0] | (simp only [i64_w, i32_w]; rw [c4b0]) | skip)
   by_cases c6 : (l0_0.length : Int) > 8
   ·rw [if_pos c6] at H; have c6b0 : decide (8 < (l0_0.length : Int)) = true := decide_eq_true c6; have c6b1 : decide (8 < l0_0.length) = true := decide_eq_true (by omega); clear c6; have H' := zk H; clear H; have hcz7_0 : w3.cell? ⟨gb395, 0, none⟩ = some (.slice A0_0 l0_0.length c0_0) := zh BK395.out 0; have hcz7_1 : w3.cell? ⟨gb395, 1, none⟩ = some (.int .i64 a0_1) := zh BK395.out 1; have hfz7_0 := blk_frozen BK395.out 0; have hfz7_1 := blk_frozen BK395.out 1; go_wp2
    go_meet
    case rel => exact ⟨_, (true), zR, H', ⟨by first | omega | exact Nat.le_refl _⟩, ⟨zb BK395.out⟩, ⟨zU HB.out⟩⟩
   ·rw [if_neg c6] at H; have c6b0 : decide (8 < (l0_0.length : Int)) = false := decide_eq_false c6; have c6b1 : decide (8 < l0_0.length) = false := decide_eq_false (by omega); clear c6; by_cases c8 : a0_1 < 0
    ·rw [if_pos c8] at H; have c8b0 : decide (a0_1 < 0) = true := decide_eq_true c8; clear c8; have H' := zk H; clear H; have hcz9_0 : w3.cell? ⟨gb395, 0, none⟩ = some (.slice A0_0 l0_0.length c0_0) := zh BK395.out 0; have hcz9_1 : w3.cell? ⟨gb395, 1, none⟩ = some (.int .i64 a0_1) := zh BK395.out 1; have hfz9_0 := blk_frozen BK395.out 0; have hfz9_1 := blk_frozen BK395.out 1; go_wp2
     go_meet
     case rel => exact ⟨_, (true), zR, H', ⟨by first | omega | exact Nat.le_refl _⟩, ⟨zb BK395.out⟩, ⟨zU HB.out⟩⟩
    ·rw [if_neg c8] at H; have c8b0 : decide (a0_1 < 0) = false := decide_eq_false c8; clear c8; have H' := zk H; clear H; have hcz10_0 : w3.cell? ⟨gb395, 0, none⟩ = some (.slice A0_0 l0_0.length c0_0) := zh BK395.out 0; have hcz10_1 : w3.cell? ⟨gb395, 1, none⟩ = some (.int .i64 a0_1) := zh BK395.out 1; have hfz10_0 := blk_frozen BK395.out 0; have hfz10_1 := blk_frozen BK395.out 1; go_wp2
     go_meet
     case rel => exact ⟨_, (decide (a0_1 > 1073741823)), zR, H', ⟨by first | omega | exact Nat.le_refl _⟩, ⟨zb BK395.out⟩, ⟨zU HB.out⟩⟩
 case rest =>
  clear HC2; (try clear p2); (try clear c4); (try clear c4b0); (try clear c4b1); (try clear c6); (try clear c6b0); (try clear c6b1); (try clear c8); (try clear c8b0); (try clear hcz10_0); (try clear hcz10_1); (try clear hcz5_0); (try clear hcz5_1); (try clear hcz7_0); (try clear hcz7_1); (try clear hcz9_0); (try clear hcz9_1); (try clear hfz10_0); (try clear hfz10_1); (try clear hfz5_0); (try clear hfz5_1); (try clear hfz7_0); (try clear hfz7_1); (try clear hfz9_0); (try clear hfz9_1); obtain ⟨kq, x23_1, rfl, HA, HJ1, BK395, HB⟩ := hcut; cases kq with
  | zero => exact absurd HA.out (by simp [leadtrailref08_ValidShape.j0])
  | succ kj1 =>
   have H := HA.out; clear HA; simp only [leadtrailref08_ValidShape.j0] at H; by_cases c11 : x23_1 = true
   ·subst c11; have H1 : (some false) = some r := by rw [if_pos rfl] at H; exact H
    clear H; have H := H1; clear H1; obtain rfl := Option.some.inj H; go_wp2
    go_ret
    exact ⟨ze, zU HB.out⟩
   ·replace c11 := Bool.eq_false_iff.mpr c11; subst c11; have H1 : (leadtrailref08_ValidShape.l0 kj1 0 l0_0 a0_1) = some r := by rw [if_neg (show ¬ (false = true) by decide)] at H; exact H
    clear H; have H := H1; clear H1; have H' := zk H; clear H; go_wp2
    go_loopg [3] kj1 (fun kq v3 w' => ∃ (x3_2 : Int), v3 = .int .i64 x3_2 ∧ Aside0 (leadtrailref08_ValidShape.l0 kq x3_2 l0_0 a0_1 = some r) ∧ Aside0 (kq ≤ kj1) ∧ Aside0 (w'.heap[gb395]? = some (.cells #[(.slice A0_0 l0_0.length c0_0), .int .i64 a0_1] 48 (0, 0))) ∧ Aside0 (Below w.heap.size w w'))
    case atStart => exact ⟨(0), zR, H', ⟨Nat.le_refl _⟩, ⟨zb BK395.out⟩, ⟨zU HB.out⟩⟩
    case round =>
     clear H'; (try clear c1); (try clear p2); (try clear c4); (try clear c4b0); (try clear c4b1); (try clear c6); (try clear c6b0); (try clear c6b1); (try clear c8); (try clear c8b0); (try clear c11); (try clear hcz10_0); (try clear hcz10_1); (try clear hcz5_0); (try clear hcz5_1); (try clear hcz7_0); (try clear hcz7_1); (try clear hcz9_0); (try clear hcz9_1); (try clear hfz10_0); (try clear hfz10_1); (try clear hfz5_0); (try clear hfz5_1); (try clear hfz7_0); (try clear hfz7_1); (try clear hfz9_0); (try clear hfz9_1); (try clear p2); obtain ⟨x3_2, rfl, HA, HK2, BK395, HB⟩ := hrel
     cases gk with
     | zero => exact absurd HA.out (by simp [leadtrailref08_ValidShape.l0])
     | succ k2 =>
      have H := HA.out; clear HA; simp only [leadtrailref08_ValidShape.l0] at H; by_cases c12 : x3_2 < (l0_0.length : Int)
      ·rw [if_pos c12] at H; have c12b0 : decide (x3_2 < (l0_0.length : Int)) = true := decide_eq_true c12; clear c12; by_cases c13 : 0 ≤ x3_2
       ·rw [if_pos c13] at H; have c13b0 : decide (0 ≤ x3_2) = true := decide_eq_true c13; clear c13; by_cases c14 : ((rd_L3 l0_0 x3_2).length : Int) = 0
        ·rw [if_pos c14] at H; have c14b0 : (((rd_L3 l0_0 x3_2).length : Int) == 0) = true := beq_iff_eq.mpr c14; have c14b1 : (((rd_L3 l0_0 x3_2).length : Int) != 0) = false := bne_eq_false_iff_eq.mpr c14; clear c14; obtain rfl := Option.some.inj H; have hcz15_0 : wr.cell? ⟨gb395, 0, none⟩ = some (.slice A0_0 l0_0.length c0_0) := zh BK395.out 0; have hcz15_1 : wr.cell? ⟨gb395, 1, none⟩ = some (.int .i64 a0_1) := zh BK395.out 1; have hfz15_0 := blk_frozen BK395.out 0; have hfz15_1 := blk_frozen BK395.out 1; have p397 : 0 ≤ (x3_2 : Int) := zT; have q397 : x3_2 < (l0_0.length : Int) := zT; obtain ⟨ad397, A397_0, c397_0, e397, hx397_0, hl397_0, hi397_0⟩ := at_L3 HR0_0.out x3_2 p397 q397; cases e397; replace hx397_0 := zcl HB.out hx397_0; have HR397_0 := zk hi397_0; have HC397_0 := zk hl397_0; clear hi397_0 hl397_0; replace p397 := eq_true p397; replace q397 := eq_true q397; go_wp2
         go_ret
         exact ⟨ze, zU HB.out⟩
        ·rw [if_neg c14] at H; have c14b0 : (((rd_L3 l0_0 x3_2).length : Int) == 0) = false := beq_eq_false_iff_ne.mpr c14; have c14b1 : (((rd_L3 l0_0 x3_2).length : Int) != 0) = true := bne_iff_ne.mpr c14; have c14b2 : ¬ ((rd_L3 l0_0 x3_2) = []) := fun h_ => c14 (by rw [h_]; rfl)
         replace H := Option.bind_eq_some_iff.mp H; obtain ⟨t399, A160, H⟩ := H; replace H : (if t399 = true then (leadtrailref08_ValidShape.l0 k2 (wrap64 (x3_2 + 1)) l0_0 a0_1) else (some false)) = some r := H; have A16 := zk A160; clear A160; by_cases c17 : t399 = true
         ·subst c17; have H1 : (leadtrailref08_ValidShape.l0 k2 (wrap64 (x3_2 + 1)) l0_0 a0_1) = some r := by rw [if_pos rfl] at H; exact H
          clear H; have H := H1; clear H1; have H' := zk H; clear H; have hcz18_0 : wr.cell? ⟨gb395, 0, none⟩ = some (.slice A0_0 l0_0.length c0_0) := zh BK395.out 0; have hcz18_1 : wr.cell? ⟨gb395, 1, none⟩ = some (.int .i64 a0_1) := zh BK395.out 1; have hfz18_0 := blk_frozen BK395.out 0; have hfz18_1 := blk_frozen BK395.out 1; have p397 : 0 ≤ (x3_2 : Int) := zT; have q397 : x3_2 < (l0_0.length : Int) := zT; obtain ⟨ad397, A397_0, c397_0, e397, hx397_0, hl397_0, hi397_0⟩ := at_L3 HR0_0.out x3_2 p397 q397; cases e397; replace hx397_0 := zcl HB.out hx397_0; have HR397_0 := zk hi397_0; have HC397_0 := zk hl397_0; clear hi397_0 hl397_0; replace p397 := eq_true p397; replace q397 := eq_true q397; have p398 : 0 ≤ (x3_2 : Int) := zT; have q398 : x3_2 < (l0_0.length : Int) := zT; obtain ⟨ad398, A398_0, c398_0, e398, hx398_0, hl398_0, hi398_0⟩ := at_L3 HR0_0.out x3_2 p398 q398; obtain rfl : ad397 = ad398 := (by injection e398); replace hx398_0 := zcl HB.out hx398_0; have HR398_0 := zk hi398_0; have HC398_0 := zk hl398_0; clear hi398_0 hl398_0; replace p398 := eq_true p398; replace q398 := eq_true q398; have ea_ := Option.some.inj (hx397_0.symm.trans hx398_0); injection ea_ with ea_ en_ ec_
          subst ea_; subst ec_; clear en_; go_wp2_with (first | (go_at_call 67; (with_reducible refine (leadtrailref03_Valid.calls k2 _ _ (rd_L3 l0_0 x3_2) true _ ?side1 ?side2 A16.out).mono ?_); (case side1 => exact zc (Kd.C_below HR398_0.out HB.out)); (case side2 => exact HC398_0.out); rintro e w' ⟨rfl, ⟨nd, rfl⟩⟩))
          go_roundg k2
          case measure => have := HJ1.out; have := HK2.out; omega
          case rel => exact ⟨(wrap64 (x3_2 + 1)), zR, H', ⟨by have := HJ1.out; have := HK2.out; omega⟩, ⟨zb BK395.out⟩, ⟨zU HB.out⟩⟩
         ·replace c17 := Bool.eq_false_iff.mpr c17; subst c17; have H1 : (some false) = some r := by rw [if_neg (show ¬ (false = true) by decide)] at H; exact H
          clear H; have H := H1; clear H1; obtain rfl := Option.some.inj H; have hcz19_0 : wr.cell? ⟨gb395, 0, none⟩ = some (.slice A0_0 l0_0.length c0_0) := zh BK395.out 0; have hcz19_1 : wr.cell? ⟨gb395, 1, none⟩ = some (.int .i64 a0_1) := zh BK395.out 1; have hfz19_0 := blk_frozen BK395.out 0; have hfz19_1 := blk_frozen BK395.out 1; have p397 : 0 ≤ (x3_2 : Int) := zT; have q397 : x3_2 < (l0_0.length : Int) := zT; obtain ⟨ad397, A397_0, c397_0, e397, hx397_0, hl397_0, hi397_0⟩ := at_L3 HR0_0.out x3_2 p397 q397; cases e397; replace hx397_0 := zcl HB.out hx397_0; have HR397_0 := zk hi397_0; have HC397_0 := zk hl397_0; clear hi397_0 hl397_0; replace p397 := eq_true p397; replace q397 := eq_true q397; have p398 : 0 ≤ (x3_2 : Int) := zT; have q398 : x3_2 < (l0_0.length : Int) := zT; obtain ⟨ad398, A398_0, c398_0, e398, hx398_0, hl398_0, hi398_0⟩ := at_L3 HR0_0.out x3_2 p398 q398; obtain rfl : ad397 = ad398 := (by injection e398); replace hx398_0 := zcl HB.out hx398_0; have HR398_0 := zk hi398_0; have HC398_0 := zk hl398_0; clear hi398_0 hl398_0; replace p398 := eq_true p398; replace q398 := eq_true q398; have ea_ := Option.some.inj (hx397_0.symm.trans hx398_0); injection ea_ with ea_ en_ ec_
          subst ea_; subst ec_; clear en_; go_wp2_with (first | (go_at_call 67; (with_reducible refine (leadtrailref03_Valid.calls k2 _ _ (rd_L3 l0_0 x3_2) false _ ?side1 ?side2 A16.out).mono ?_); (case side1 => exact zc (Kd.C_below HR398_0.out HB.out)); (case side2 => exact HC398_0.out); rintro e w' ⟨rfl, ⟨nd, rfl⟩⟩))
          go_ret
          exact ⟨ze, zU HB.out⟩
       ·rw [if_neg c13] at H; cases H
      ·rw [if_neg c12] at H; have c12b0 : decide (x3_2 < (l0_0.length : Int)) = false := decide_eq_false c12; clear c12; replace H := Option.bind_eq_some_iff.mp H; obtain ⟨t396, A200, H⟩ := H; replace H : (some (decide ((wrap64 ((wrap64 (a0_1 + t396)) - 1)) ≤ 1073741823))) = some r := H; have A20 := zk A200; clear A200; obtain rfl := Option.some.inj H; have hcz21_0 : wr.cell? ⟨gb395, 0, none⟩ = some (.slice A0_0 l0_0.length c0_0) := zh BK395.out 0; have hcz21_1 : wr.cell? ⟨gb395, 1, none⟩ = some (.int .i64 a0_1) := zh BK395.out 1; have hfz21_0 := blk_frozen BK395.out 0; have hfz21_1 := blk_frozen BK395.out 1; try go_wp2
       have n0_ := zk (blk_drew BK395.out); have n1_ := zk (below_drew1 HB.out); clear BK395; clear HB; have BK395 := n0_; have HB := n1_; clear n0_ n1_; refine start_ (n := 8) (S := fun w' => w'.cell? ⟨gb395, 0, none⟩ = some (.slice A0_0 l0_0.length c0_0) ∧ w'.cell? ⟨gb395, 1, none⟩ = some (.int .i64 a0_1)) (ds := []) #[false, false, false, false, false, false, false, false] zz rfl rfl ⟨(blk_cell BK395.out 0).trans rfl, (blk_cell BK395.out 1).trans rfl⟩ (fun hHeld => ?_); refine with_tabW leadtrailref08_ValidShape.tab8 leadtrailref08_ValidShape.bits8 (fun HT_ HW_ => ?_); generalize wr.drew = w22 at BK395 HB hHeld ⊢; refine zp 0 (some 47) (v := ?_) (a' := ?_) (bz 8 1) rfl rfl HT_.out zz zQ ?_ ?_ ?_; rotate_left
       ·intro w'; go_simp; with_reducible rfl
       rotate_left
       ·simp only [zy]; rfl
       refine take_ (i := 1) (N := some 48) (v := ?_) (a' := ?_) (bz 8 3) rfl rfl (take_ofW HT_.out HW_.out zz) zQ (Or.inl ⟨by rfl, ?_⟩) hHeld ?_ ?_; rotate_left
       ·rintro w' ⟨s0, s1⟩; go_simp; with_reducible rfl
       rotate_left
       ·simp only [zy]; rfl
       refine take_ (i := 2) (N := some 49) (v := ?_) (a' := ?_) (bz 8 7) rfl rfl (take_ofW HT_.out HW_.out zz) zQ (Or.inl ⟨by rfl, ?_⟩) hHeld ?_ ?_; rotate_left
       ·rintro w' ⟨s0, s1⟩; go_simp; with_reducible rfl
       rotate_left
       ·simp only [zy]; rfl
       refine one_ (i := 3) (N := some 50) (bz 8 15) rfl rfl (one_of HT_.out zz) (by decide) (fun K hK => ?_); refine goes_ Tryz.func24 zz rfl #[.agg #[.slice A0_0 l0_0.length c0_0, .int .i64 a0_1]] (by rfl) rfl rfl zM ?_; with_reducible refine (leadtrailref08_Count.calls k2 _ _ l0_0 a0_1 t396 _ ?side1 ?side2 A20.out).mono ?_; (case side1 => exact zc (Kd.C_below HR0_0.out HB.out))
       (case side2 => exact HC0_0.out)
       rintro e w23 ⟨rfl, hb⟩; refine ⟨_, rfl, ?_⟩; have n0_ := zk (zbb BK395.out hb); have n1_ := zs HB hb; clear BK395; clear HB; have BK395 := n0_; have HB := n1_; clear n0_ n1_; (try clear hb); (try clear hb2); (try clear hk); (try clear hi); refine hK.out _ _ ⟨(blk_cell BK395.out 0).trans rfl, (blk_cell BK395.out 1).trans rfl⟩ (fun hHeld => ?_); clear hK K; refine norm_ (a' := ?_) ?_ ?_; rotate_left
       ·show Act.put _ (some 50) _ = _; simp only [zy]; rfl
       refine zp 4 (some 51) (v := ?_) (a' := ?_) (bz 8 31) rfl rfl HT_.out zz zQ ?_ ?_ ?_; rotate_left
       ·intro w'; go_simp; with_reducible rfl
       rotate_left
       ·simp only [zy]; rfl
       refine zp 5 (some 52) (v := ?_) (a' := ?_) (bz 8 63) rfl rfl HT_.out zz zQ ?_ ?_ ?_; rotate_left
       ·intro w'; go_simp; with_reducible rfl
       rotate_left
       ·simp only [zy]; rfl
       refine zp 6 (some 53) (v := ?_) (a' := ?_) (bz 8 127) rfl rfl HT_.out zz zQ ?_ ?_ ?_; rotate_left
       ·intro w'; go_simp; with_reducible rfl
       rotate_left
       ·simp only [zy]; rfl
       refine zp 7 (some 2) (v := ?_) (a' := ?_) (bz 8 255) rfl rfl HT_.out zz zQ ?_ ?_ ?_; rotate_left
       ·intro w'; go_simp; with_reducible rfl
       rotate_left
       ·simp only [zy]; rfl
       refine done_ (done_of HT_.out zz) ?_; try go_wp2
       go_ret
       exact ⟨ze, zU HB.out⟩
def leadtrailref09_Count.f (k : Nat) (l0_0 : List (List (S69))) (a0_1 : Int) : Option (Int) := (leadtrailref08_ValidShape.f k l0_0 a0_1).bind fun t401 => (if t401 = true then ((leadtrailref08_Count.f k l0_0 a0_1).bind fun t402 => (some t402)) else (some 0))
theorem leadtrailref09_Count.calls (k : Nat) (A0_0 : Option Addr) (c0_0 : Nat) (l0_0 : List (List (S69))) (a0_1 : Int) (r : Int) (w : World) (hr0_0 : Kd.C (Kd.slice 69 k69) w A0_0 l0_0.length l0_0) (hc0_0 : l0_0.length ≤ c0_0) (h : leadtrailref09_Count.f k l0_0 a0_1 = some r) :
 Calls Tryz.prog 43 #[.agg #[.slice A0_0 l0_0.length c0_0, .int .i64 a0_1]] w fun e w' => e = .returned (.int .i64 r) ∧ Below w.heap.size w w' := by
 have hu48 := Tryz.underlying48; have HR0_0 := zk hr0_0; have HC0_0 := zk hc0_0; clear hr0_0 hc0_0; have HB := zk (Below.refl w.heap.size w); have H : ((leadtrailref08_ValidShape.f k l0_0 a0_1).bind fun t401 => (if t401 = true then ((leadtrailref08_Count.f k l0_0 a0_1).bind fun t402 => (some t402)) else (some 0))) = some r := h; clear h; replace H := Option.bind_eq_some_iff.mp H; obtain ⟨t401, A20, H⟩ := H; replace H : (if t401 = true then ((leadtrailref08_Count.f k l0_0 a0_1).bind fun t402 => (some t402)) else (some 0)) = some r := H; have A2 := zk A20; clear A20; by_cases c3 : t401 = true
 ·subst c3; have H1 : ((leadtrailref08_Count.f k l0_0 a0_1).bind fun t402 => (some t402)) = some r := by rw [if_pos rfl] at H; exact H
  clear H; have H := H1; clear H1; replace H := Option.bind_eq_some_iff.mp H; obtain ⟨t402, A40, H⟩ := H; replace H : (some t402) = some r := H; have A4 := zk A40; clear A40; obtain rfl := Option.some.inj H; go_enter Tryz.func43, Tryz.ntmps43
  go_wp2_with (first | ((with_reducible refine gate_dst (N := 1) rfl ?_); refine box_event ?hg (N := 1) ?hd (cs := #[.slice A0_0 l0_0.length c0_0, .int .i64 a0_1]) (t := 48) ?hr ?_; (case hd => rfl); (case hg => rfl); (case hr => first | (go_simp; done) | (go_simp; rfl)); intro gb400 hg w5 hbox hb; have BK400 := zk (hbox); have GE400 := zk ((zg hg HB.out : w.heap.size ≤ gb400)); replace HB := zs HB hb;  clear hb hbox hg; have hcz6_0 : w5.cell? ⟨gb400, 0, none⟩ = some (.slice A0_0 l0_0.length c0_0) := zh BK400.out 0; have hcz6_1 : w5.cell? ⟨gb400, 1, none⟩ = some (.int .i64 a0_1) := zh BK400.out 1; have hfz6_0 := blk_frozen BK400.out 0; have hfz6_1 := blk_frozen BK400.out 1) | ((with_reducible refine gate_callee (f := 41) rfl ?_); refine goesL_ (some 4) rfl rfl Tryz.func41 zz rfl #[.agg #[.slice A0_0 l0_0.length c0_0, .int .i64 a0_1]] rfl zM ?_; (with_reducible refine (leadtrailref08_ValidShape.calls k _ _ l0_0 a0_1 true _ ?side1 ?side2 A2.out).mono ?_); (case side1 => exact zc (Kd.C_below HR0_0.out HB.out)); (case side2 => exact HC0_0.out); rintro e w7 ⟨rfl, hb⟩; refine ⟨_, rfl, ?_⟩; replace BK400 := zk (zbb BK400.out hb); replace HB := zs HB hb;  (try clear hb); (try clear hb2); (try clear hk); (try clear hi); have hcz8_0 : w7.cell? ⟨gb400, 0, none⟩ = some (.slice A0_0 l0_0.length c0_0) := zh BK400.out 0; have hcz8_1 : w7.cell? ⟨gb400, 1, none⟩ = some (.int .i64 a0_1) := zh BK400.out 1; have hfz8_0 := blk_frozen BK400.out 0; have hfz8_1 := blk_frozen BK400.out 1) | ((with_reducible refine gate_callee (f := 24) rfl ?_); refine goesL_ (some 7) rfl rfl Tryz.func24 zz rfl #[.agg #[.slice A0_0 l0_0.length c0_0, .int .i64 a0_1]] rfl zM ?_; (with_reducible refine (leadtrailref08_Count.calls k _ _ l0_0 a0_1 t402 _ ?side1 ?side2 A4.out).mono ?_); (case side1 => exact zc (Kd.C_below HR0_0.out HB.out)); (case side2 => exact HC0_0.out); rintro e w9 ⟨rfl, hb⟩; refine ⟨_, rfl, ?_⟩; replace BK400 := zk (zbb BK400.out hb); replace HB := zs HB hb;  (try clear hb); (try clear hb2); (try clear hk); (try clear hi)))
  go_ret
  exact ⟨ze, zU HB.out⟩
 ·replace c3 := Bool.eq_false_iff.mpr c3; subst c3; have H1 : (some 0) = some r := by rw [if_neg (show ¬ (false = true) by decide)] at H; exact H
  clear H; have H := H1; clear H1; obtain rfl := Option.some.inj H; go_enter Tryz.func43, Tryz.ntmps43
  go_wp2_with (first | ((with_reducible refine gate_dst (N := 1) rfl ?_); refine box_event ?hg (N := 1) ?hd (cs := #[.slice A0_0 l0_0.length c0_0, .int .i64 a0_1]) (t := 48) ?hr ?_; (case hd => rfl); (case hg => rfl); (case hr => first | (go_simp; done) | (go_simp; rfl)); intro gb400 hg w10 hbox hb; have BK400 := zk (hbox); have GE400 := zk ((zg hg HB.out : w.heap.size ≤ gb400)); replace HB := zs HB hb;  clear hb hbox hg; have hcz11_0 : w10.cell? ⟨gb400, 0, none⟩ = some (.slice A0_0 l0_0.length c0_0) := zh BK400.out 0; have hcz11_1 : w10.cell? ⟨gb400, 1, none⟩ = some (.int .i64 a0_1) := zh BK400.out 1; have hfz11_0 := blk_frozen BK400.out 0; have hfz11_1 := blk_frozen BK400.out 1) | ((with_reducible refine gate_callee (f := 41) rfl ?_); refine goesL_ (some 4) rfl rfl Tryz.func41 zz rfl #[.agg #[.slice A0_0 l0_0.length c0_0, .int .i64 a0_1]] rfl zM ?_; (with_reducible refine (leadtrailref08_ValidShape.calls k _ _ l0_0 a0_1 false _ ?side1 ?side2 A2.out).mono ?_); (case side1 => exact zc (Kd.C_below HR0_0.out HB.out)); (case side2 => exact HC0_0.out); rintro e w12 ⟨rfl, hb⟩; refine ⟨_, rfl, ?_⟩; replace BK400 := zk (zbb BK400.out hb); replace HB := zs HB hb;  (try clear hb); (try clear hb2); (try clear hk); (try clear hi)))
  go_ret
  exact ⟨ze, zU HB.out⟩
def selB (p : Nat → Bool) (k : Int) : Nat → Nat → Int × Bool
 | 0, _ => (0, false)
 | f + 1, x => if p x = true ∧ (cntB p x : Int) = k then ((x : Int), true) else selB p k f (x + 1)
theorem R3Select.calls (k : Nat) (A0 : Option Addr) (c0 : Nat) (l0 : List S69) (x : Int) (b : Bool) (w : World) (hr0 : Kd.C k69 w A0 l0.length l0) (hc0 : l0.length ≤ c0) (h : leadtrailref03_Valid.f k l0 = some b) (hok : b = true → ∀ r ∈ l0, okPiece r = true) (hsm : l0.length ≤ 8796093022207) :
 Calls Tryz.prog 45 #[.slice A0 l0.length c0, .int .i64 x] w fun e w' => e = .returned (.tuple #[.int .i64 (selB (membersB b l0) x 256 0).1, .bool (selB (membersB b l0) x 256 0).2]) ∧ Below w.heap.size w w' := by
 have hMem := R3Members.calls k A0 c0 l0 b w hr0 hc0 h hok hsm; clear hr0 hc0 h hok; change Calls Tryz.prog 68 _ w (fun e w' => e = .returned (.agg (bitsV (membersB b l0))) ∧ _) at hMem
 generalize membersB b l0 = p at hMem ⊢; generalize hR : selB p x 256 0 = R; go_enter Tryz.func45, Tryz.ntmps45
 go_wp2_with (go_at_call 68; refine hMem.mono ?_; rintro e w2 ⟨rfl, hb⟩; clear hMem; have HB3 := zk hb; clear hb)
 rw [run_store_new w2 p]; have D := zk (blk_new w2 (.cells (bitsV p) 105)); have HB4 := zk (below_alloc HB3.out (.cells (bitsV p) 105)); have RR := zk hR; clear HB3 hR; generalize w2.heap.size = g at D ⊢; generalize w2.alloc (.cells (bitsV p) 105) = w3 at D HB4 ⊢; go_wp2
 go_loopg [7, 8] 257 (fun kq v7 v8 w' => ∃ n : Nat, v7 = .int .i64 (cntB p n : Nat) ∧ v8 = .int .i64 (n : Int) ∧ Aside0 (n + kq = 257) ∧ Aside0 (n ≤ 256) ∧ Aside0 (selB p x (256 - n) n = R) ∧ Aside0 (w'.heap[g]? = some (.cells (bitsV p) 105 (0, 0))) ∧ Aside0 (Below w.heap.size w w'))
 case atStart => exact ⟨0, rfl, rfl, ⟨by omega⟩, ⟨by omega⟩, RR, D, HB4⟩
 case round =>
  clear RR; obtain ⟨n, rfl, rfl, HN, HN2, RR, C, HB'⟩ := hrel; have hcl := cntB_le p n
  cases gk with
  | zero => exact absurd HN.out (by have := HN2.out; omega)
  | succ k1 =>
  by_cases c : n ≤ 255
  ·have cb : decide ((n : Int) ≤ 255) = true := decide_eq_true (by omega); have p2 : (0 ≤ (n : Int)) = True := eq_true (by omega); have q2 : ((n : Int) < 256) = True := eq_true (by omega); have c_ := zk c; have hcl_ := zk hcl; have hc := blk_cell C.out n; rw [bitsV_get _ _ (by omega)] at hc; have eq1 : 256 - n = (255 - n) + 1 := by omega
   have eq2 : 255 - n = 256 - (n + 1) := by omega
   have hS := zk (show selB p x (256 - n) n = if p n = true ∧ (cntB p n : Int) = x then ((n : Int), true) else selB p x (256 - (n + 1)) (n + 1) by rw [eq1, selB, eq2]); clear c hcl eq1 eq2; cases hpn : p n with
   | true =>
    rw [hpn] at hc; by_cases e : (cntB p n : Int) = x
    ·have hRn := zk (RR.out.symm.trans (hS.out.trans (if_pos ⟨hpn, e⟩))); clear hS RR; subst e; go_wp2
     go_ret2
     rw [hRn.out]; exact ⟨rfl, HB'.out⟩
    ·have eb0 : decide ((cntB p n : Int) = x) = false := decide_eq_false e; have eb1 : ((cntB p n : Int) == x) = false := by simpa using e
     have hRn := zk ((show selB p x (256 - (n + 1)) (n + 1) = R from (hS.out.trans (if_neg fun h => e h.2)).symm.trans RR.out)); go_wp2
     have hcl := hcl_.out; have hN := HN.out; have c := c_.out; go_roundg k1
     case measure => omega
     case rel => exact ⟨n + 1, by simp only [cntB, hpn, if_true]; rw [w64' (by omega) (by omega)]; simp, by rw [w64' (by omega) (by omega)]; simp, ⟨by omega⟩, ⟨by omega⟩, hRn, C, HB'⟩
   | false =>
    rw [hpn] at hc; have hRn := zk ((show selB p x (256 - (n + 1)) (n + 1) = R from (hS.out.trans (if_neg fun h => by rw [hpn] at h; cases h.1)).symm.trans RR.out)); go_wp2
    have hcl := hcl_.out; have hN := HN.out; have c := c_.out; go_roundg k1
    case measure => omega
    case rel => exact ⟨n + 1, by simp only [cntB, hpn, Bool.false_eq_true, if_false, Nat.add_zero], by rw [w64' (by omega) (by omega)]; simp, ⟨by omega⟩, ⟨by omega⟩, hRn, C, HB'⟩
  ·have cb : decide ((n : Int) ≤ 255) = false := decide_eq_false (by omega); have hn := zk (show n = 256 by have := HN.out; have := HN2.out; omega); clear c hcl; go_wp2
   go_ret2
   have hn := hn.out; subst hn; have := RR.out; simp only [Nat.sub_self, selB] at this; rw [← this]; exact ⟨rfl, HB'.out⟩
def leadtrailref03_Select.f (k : Nat) (l0 : List (S69)) (a1 : Int) : Option (Int × Bool) := (leadtrailref03_memb k l0).bind fun p => some (selB p a1 256 0)
theorem leadtrailref03_Select.calls (k : Nat) (A0 : Option Addr) (c0 : Nat) (l0 : List (S69)) (a1 : Int) (r1 : Int) (r2 : Bool) (w : World) (hr0 : Kd.C k69 w A0 l0.length l0) (hc0 : l0.length ≤ c0) (h : leadtrailref03_Select.f k l0 a1 = some (r1, r2)) :
 Calls Tryz.prog 45 #[.slice A0 l0.length c0, .int .i64 a1] w fun e w' => e = .returned (.tuple #[.int .i64 r1, .bool r2]) ∧ Below w.heap.size w w' := by
 obtain ⟨p, h1, h2⟩ := Option.bind_eq_some_iff.mp h; obtain ⟨b, hv, rfl, hok, hsm⟩ := memb_some h1; have hh := R3Select.calls k A0 c0 l0 a1 b w hr0 hc0 hv hok hsm; have e := Option.some.inj h2; rw [e] at hh; exact hh
end Go.Proofs.YtobhclnenffkgaaGreat.B
