/- Words and walks of this claim, of the text Ix12. -/
import Derived.Test.YtoljcfocgaonpaaGreatKaQW0
import Derived.Test.YtoljcfocgaonpaaGreatKaIx0
import Derived.Test.YtoljcfocgaonpaaGreatKaIx11
namespace Go.Proofs.I
open Go.RowKit Go.Proofs.Zw.PrintWords Go.Proofs.Zw.PrintLast Go.Proofs.Zw.PrintMore
set_option maxHeartbeats 8000000
set_option maxRecDepth 100000
attribute [local go_sem] Dw Ec El Es Dd Dj Dr Eb
set_option linter.unusedVariables false
set_option linter.unusedSimpArgs false
theorem R3Size.calls (k : Nat) (A0 : Option Addr) (c0 : Nat) (l0 : List S58) (b : Bool) (w : World) (hr0 : Kd.C k58 w A0 l0.length l0) (hc0 : l0.length ≤ c0) (h : Bc.f k l0 = some b) (hok : b = true → ∀ r ∈ l0, Hh r = true) (hsm : l0.length ≤ 8796093022207) :
 Calls Tryz.prog 42 #[.slice A0 l0.length c0] w fun e w' => e = .returned (.int .i64 (cntB (Ej b l0) 256 : Nat)) ∧ Below w.heap.size w w' := by
 have HR0 := zk hr0; have HC0 := zk hc0; have hMem := R3Members.calls k A0 c0 l0 b w hr0 hc0 h hok hsm; clear hr0 hc0 h hok; change Calls Tryz.prog 65 _ w (fun e w' => e = .returned (.agg (Em (Ej b l0))) ∧ _) at hMem
 have HB := zk (Below.refl w.heap.size w); have hle := Lf (Ej b l0); generalize Ej b l0 = p at hMem hle ⊢; go_enter Tryz.func42, Tryz.ntmps42
 go_wp2_with (go_at_call 65; refine hMem.mono ?_; rintro e w1 ⟨rfl, hb⟩; clear hMem; have HB2 := zk hb; clear hb)
 rw [Ij w1 p]; have D := zk (Fl w1 (.cells (Em p) 92)); have HB3 := zk (Ct HB2.out (.cells (Em p) 92)); clear HB2 HB; generalize w1.heap.size = g at D ⊢; generalize w1.alloc (.cells (Em p) 92) = w2 at D HB3 ⊢; go_wp2
 go_loopg [4, 5] 257 (fun kq v4 v5 w' => ∃ n : Nat, v4 = .int .i64 (cntB p n : Nat) ∧ v5 = .int .i64 (n : Int) ∧ Aa (n + kq = 257) ∧ Aa (n ≤ 256) ∧ Aa (w'.heap[g]? = some (.cells (Em p) 92 (0, 0))) ∧ Aa (Below w.heap.size w w'))
 case atStart => exact ⟨0, rfl, rfl, ⟨by omega⟩, ⟨by omega⟩, D, HB3⟩
 case round =>
  obtain ⟨n, rfl, rfl, HN, HN2, C, HB'⟩ := hrel; have hcl := Lf p n
  cases gk with
  | zero => exact absurd HN.out (by have := HN2.out; omega)
  | succ k1 =>
  by_cases c : n ≤ 255
  ·have cb : decide ((n : Int) ≤ 255) = true := decide_eq_true (by omega); have p2 : (0 ≤ (n : Int)) = True := eq_true (by omega); have q2 : ((n : Int) < 256) = True := eq_true (by omega); have c_ := zk c; have hcl_ := zk hcl; have hc := Ag C.out n; rw [Jk _ _ (by omega)] at hc; clear c hcl; cases hpn : p n with
   | true =>
    rw [hpn] at hc; go_wp2
    have hcl := hcl_.out; have hN := HN.out; have c := c_.out; go_roundg k1
    case measure => omega
    case rel => exact ⟨n + 1, by simp only [cntB, hpn, if_true]; rw [w64' (by omega) (by omega)]; simp, by rw [w64' (by omega) (by omega)]; simp, ⟨by omega⟩, ⟨by omega⟩, C, HB'⟩
   | false =>
    rw [hpn] at hc; go_wp2
    have hcl := hcl_.out; have hN := HN.out; have c := c_.out; go_roundg k1
    case measure => omega
    case rel => exact ⟨n + 1, by simp only [cntB, hpn, Bool.false_eq_true, if_false, Nat.add_zero], by rw [w64' (by omega) (by omega)]; simp, ⟨by omega⟩, ⟨by omega⟩, C, HB'⟩
  ·have cb : decide ((n : Int) ≤ 255) = false := decide_eq_false (by omega); have hn := zk (show n = 256 by have := HN.out; have := HN2.out; omega); clear c hcl; go_wp2
   go_ret
   have hn := hn.out; subst hn; exact ⟨rfl, HB'.out⟩
def Cg.f (k : Nat) (l0 : List (S58)) : Option (Int) := (Ey k l0).bind fun p => some (cntB p 256 : Int)
theorem Cg.calls (k : Nat) (A0 : Option Addr) (c0 : Nat) (l0 : List (S58)) (r : Int) (w : World) (hr0 : Kd.C k58 w A0 l0.length l0) (hc0 : l0.length ≤ c0) (h : Cg.f k l0 = some r) :
 Calls Tryz.prog 42 #[.slice A0 l0.length c0] w fun e w' => e = .returned (.int .i64 r) ∧ Below w.heap.size w w' := by
 obtain ⟨p, h1, h2⟩ := Option.bind_eq_some_iff.mp h; obtain ⟨b, hv, rfl, hok, hsm⟩ := Mr h1; have hh := R3Size.calls k A0 c0 l0 b w hr0 hc0 hv hok hsm; obtain rfl := Option.some.inj h2; exact hh
def Am.l0 : Nat → Int → Int → List (List (S58)) → Int → Option (Int)
 | 0, _, _, _, _ => none
 | k + 1, x3, x4, x382000, x382001 => if x4 < (x382000.length : Int) then (if 0 ≤ x4 then ((Cg.f k (Co x382000 x4)).bind fun t383 => (if (wrap64 (x3 * t383)) > 1073741824 then (Am.l0 k 1073741825 (wrap64 (x4 + 1)) x382000 x382001) else (Am.l0 k (wrap64 (x3 * t383)) (wrap64 (x4 + 1)) x382000 x382001))) else (none)) else (some x3)
def Am.f (k : Nat) (l0_0 : List (List (S58))) (a0_1 : Int) : Option (Int) := Am.l0 k 1 0 l0_0 a0_1
theorem Am.calls (k : Nat) (A0_0 : Option Addr) (c0_0 : Nat) (l0_0 : List (List (S58))) (a0_1 : Int) (r : Int) (w : World) (hr0_0 : Kd.C (Kd.slice 58 k58) w A0_0 l0_0.length l0_0) (hc0_0 : l0_0.length ≤ c0_0) (h : Am.f k l0_0 a0_1 = some r) :
 Calls Tryz.prog 22 #[.agg #[.slice A0_0 l0_0.length c0_0, .int .i64 a0_1]] w fun e w' => e = .returned (.int .i64 r) ∧ Below w.heap.size w w' := by
 have hu44 := Tryz.underlying44; have HR0_0 := zk hr0_0; have HC0_0 := zk hc0_0; clear hr0_0 hc0_0; have HB := zk (Below.refl w.heap.size w); have H : (Am.l0 k 1 0 l0_0 a0_1) = some r := h; clear h; have H' := zk H; clear H; go_enter Tryz.func22, Tryz.ntmps22
 go_wp2_with (first | ((with_reducible refine Bd (N := 1) rfl ?_); refine Bb ?hg (N := 1) ?hd (cs := #[.slice A0_0 l0_0.length c0_0, .int .i64 a0_1]) (t := 44) ?hr ?_; (case hd => rfl); (case hg => rfl); (case hr => first | (go_simp; done) | (go_simp; rfl)); intro gb381 hg w2 hbox hb; have BK381 := zk (hbox); have GE381 := zk ((zg hg HB.out : w.heap.size ≤ gb381)); replace HB := zs HB hb;  clear hb hbox hg))
 go_loopg [3, 4] k (fun kq v3 v4 w' => ∃ (x3_1 : Int) (x4_1 : Int), v3 = .int .i64 x3_1 ∧ v4 = .int .i64 x4_1 ∧ Aa (Am.l0 kq x3_1 x4_1 l0_0 a0_1 = some r) ∧ Aa (kq ≤ k) ∧ Aa (w'.heap[gb381]? = some (.cells #[(.slice A0_0 l0_0.length c0_0), .int .i64 a0_1] 44 (0, 0))) ∧ Aa (Below w.heap.size w w'))
 case atStart => exact ⟨(1), (0), zR, zR, H', ⟨Nat.le_refl _⟩, ⟨zb BK381.out⟩, ⟨zU HB.out⟩⟩
 case round =>
  clear H'; (try clear c2); (try clear p2); obtain ⟨x3_1, x4_1, rfl, rfl, HA, HK1, BK381, HB⟩ := hrel
  cases gk with
  | zero => exact absurd HA.out (by simp [Am.l0])
  | succ k1 =>
   have H := HA.out; clear HA; simp only [Am.l0] at H; by_cases c3 : x4_1 < (l0_0.length : Int)
   ·rw [if_pos c3] at H; have c3b0 : decide (x4_1 < (l0_0.length : Int)) = true := decide_eq_true c3; clear c3; by_cases c4 : 0 ≤ x4_1
    ·rw [if_pos c4] at H; have c4b0 : decide (0 ≤ x4_1) = true := decide_eq_true c4; clear c4; replace H := Option.bind_eq_some_iff.mp H; obtain ⟨t383, A50, H⟩ := H; replace H : (if (wrap64 (x3_1 * t383)) > 1073741824 then (Am.l0 k1 1073741825 (wrap64 (x4_1 + 1)) l0_0 a0_1) else (Am.l0 k1 (wrap64 (x3_1 * t383)) (wrap64 (x4_1 + 1)) l0_0 a0_1)) = some r := H; have A5 := zk A50; clear A50; by_cases c6 : (wrap64 (x3_1 * t383)) > 1073741824
     ·rw [if_pos c6] at H; have c6b0 : decide (1073741824 < (wrap64 (x3_1 * t383))) = true := decide_eq_true c6; clear c6; have H' := zk H; clear H; have hcz7_0 : wr.cell? ⟨gb381, 0, none⟩ = some (.slice A0_0 l0_0.length c0_0) := zh BK381.out 0; have hcz7_1 : wr.cell? ⟨gb381, 1, none⟩ = some (.int .i64 a0_1) := zh BK381.out 1; have hfz7_0 := Ac BK381.out 0; have hfz7_1 := Ac BK381.out 1; have p382 : 0 ≤ (x4_1 : Int) := zT; have q382 : x4_1 < (l0_0.length : Int) := zT; obtain ⟨ad382, A382_0, c382_0, e382, hx382_0, hl382_0, hi382_0⟩ := Ha HR0_0.out x4_1 p382 q382; cases e382; replace hx382_0 := zcl HB.out hx382_0; have HR382_0 := zk hi382_0; have HC382_0 := zk hl382_0; clear hi382_0 hl382_0; replace p382 := eq_true p382; replace q382 := eq_true q382; go_wp2_with (first | ((with_reducible refine Al (f := 42) rfl ?_); refine Bz (some 18) rfl rfl Tryz.func42 zz rfl #[.slice A382_0 (Co l0_0 x4_1).length c382_0] rfl zM ?_; (with_reducible refine (Cg.calls k1 _ _ (Co l0_0 x4_1) t383 _ ?side1 ?side2 A5.out).mono ?_); (case side1 => exact zc (Kd.C_below HR382_0.out HB.out)); (case side2 => exact HC382_0.out); rintro e w8 ⟨rfl, hb⟩; refine ⟨_, rfl, ?_⟩; replace BK381 := zk (zbb BK381.out hb); replace HB := zs HB hb;  (try clear hb); (try clear hb2); (try clear hk); (try clear hi)))
      go_roundg k1
      case measure => have := HK1.out; omega
      case rel => exact ⟨(1073741825), (wrap64 (x4_1 + 1)), zR, zR, H', ⟨by have := HK1.out; omega⟩, ⟨zb BK381.out⟩, ⟨zU HB.out⟩⟩
     ·rw [if_neg c6] at H; have c6b0 : decide (1073741824 < (wrap64 (x3_1 * t383))) = false := decide_eq_false c6; clear c6; have H' := zk H; clear H; have hcz9_0 : wr.cell? ⟨gb381, 0, none⟩ = some (.slice A0_0 l0_0.length c0_0) := zh BK381.out 0; have hcz9_1 : wr.cell? ⟨gb381, 1, none⟩ = some (.int .i64 a0_1) := zh BK381.out 1; have hfz9_0 := Ac BK381.out 0; have hfz9_1 := Ac BK381.out 1; have p382 : 0 ≤ (x4_1 : Int) := zT; have q382 : x4_1 < (l0_0.length : Int) := zT; obtain ⟨ad382, A382_0, c382_0, e382, hx382_0, hl382_0, hi382_0⟩ := Ha HR0_0.out x4_1 p382 q382; cases e382; replace hx382_0 := zcl HB.out hx382_0; have HR382_0 := zk hi382_0; have HC382_0 := zk hl382_0; clear hi382_0 hl382_0; replace p382 := eq_true p382; replace q382 := eq_true q382; go_wp2_with (first | ((with_reducible refine Al (f := 42) rfl ?_); refine Bz (some 18) rfl rfl Tryz.func42 zz rfl #[.slice A382_0 (Co l0_0 x4_1).length c382_0] rfl zM ?_; (with_reducible refine (Cg.calls k1 _ _ (Co l0_0 x4_1) t383 _ ?side1 ?side2 A5.out).mono ?_); (case side1 => exact zc (Kd.C_below HR382_0.out HB.out)); (case side2 => exact HC382_0.out); rintro e w10 ⟨rfl, hb⟩; refine ⟨_, rfl, ?_⟩; replace BK381 := zk (zbb BK381.out hb); replace HB := zs HB hb;  (try clear hb); (try clear hb2); (try clear hk); (try clear hi)))
      go_roundg k1
      case measure => have := HK1.out; omega
      case rel => exact ⟨(wrap64 (x3_1 * t383)), (wrap64 (x4_1 + 1)), zR, zR, H', ⟨by have := HK1.out; omega⟩, ⟨zb BK381.out⟩, ⟨zU HB.out⟩⟩
    ·rw [if_neg c4] at H; cases H
   ·rw [if_neg c3] at H; have c3b0 : decide (x4_1 < (l0_0.length : Int)) = false := decide_eq_false c3; clear c3; obtain rfl := Option.some.inj H; have hcz11_0 : wr.cell? ⟨gb381, 0, none⟩ = some (.slice A0_0 l0_0.length c0_0) := zh BK381.out 0; have hcz11_1 : wr.cell? ⟨gb381, 1, none⟩ = some (.int .i64 a0_1) := zh BK381.out 1; have hfz11_0 := Ac BK381.out 0; have hfz11_1 := Ac BK381.out 1; go_wp2
    go_ret
    exact ⟨ze, zU HB.out⟩
mutual
def Af.j0 : Nat → Bool → List (List (S58)) → Int → Option (Bool)
 | 0, _, _, _ => none
 | k + 1, x23, x385000, x385001 => if x23 = true then (some false) else (Af.l0 k 0 x385000 x385001)
def Af.l0 : Nat → Int → List (List (S58)) → Int → Option (Bool)
 | 0, _, _, _ => none
 | k + 1, x3, x385000, x385001 => if x3 < (x385000.length : Int) then (if 0 ≤ x3 then (if ((Co x385000 x3).length : Int) = 0 then (some false) else ((Bc.f k (Co x385000 x3)).bind fun t388 => (if t388 = true then (Af.l0 k (wrap64 (x3 + 1)) x385000 x385001) else (some false)))) else (none)) else ((Am.f k x385000 x385001).bind fun t385 => (some (decide ((wrap64 ((wrap64 (x385001 + t385)) - 1)) ≤ 1073741823))))
end
def Af.f (k : Nat) (l0_0 : List (List (S58))) (a0_1 : Int) : Option (Bool) := if (l0_0.length : Int) < 1 then (Af.j0 k true l0_0 a0_1) else (if (l0_0.length : Int) > 8 then (Af.j0 k true l0_0 a0_1) else (if a0_1 < 0 then (Af.j0 k true l0_0 a0_1) else (Af.j0 k (decide (a0_1 > 1073741823)) l0_0 a0_1)))
def Af.T8 : Bool × List (List Nat × List Nat) := (true, [([], []), ([0], [0]), ([], []), ([2], [2]), ([1, 3], [1, 3]), ([4], [4]), ([5], [5]), ([6, 3, 0, 1, 2, 3, 4, 5, 6], [6])])
def Af.B8 : List Nat := [0, 1, 0, 4, 15, 31, 63, 127]
theorem Af.tab8 : rtab .any (Jp Tryz.f30 8) = Af.T8 := by kernel_rfl
theorem Af.bits8 : Ff Af.T8.2 Af.B8 = true := by kernel_rfl
theorem Af.calls (k : Nat) (A0_0 : Option Addr) (c0_0 : Nat) (l0_0 : List (List (S58))) (a0_1 : Int) (r : Bool) (w : World) (hr0_0 : Kd.C (Kd.slice 58 k58) w A0_0 l0_0.length l0_0) (hc0_0 : l0_0.length ≤ c0_0) (h : Af.f k l0_0 a0_1 = some r) :
 Calls Tryz.prog 30 #[.agg #[.slice A0_0 l0_0.length c0_0, .int .i64 a0_1]] w fun e w' => e = .returned (.bool r) ∧ Below w.heap.size w w' := by
 have hu44 := Tryz.underlying44; have HR0_0 := zk hr0_0; have HC0_0 := zk hc0_0; clear hr0_0 hc0_0; have HB := zk (Below.refl w.heap.size w); have H : (if (l0_0.length : Int) < 1 then (Af.j0 k true l0_0 a0_1) else (if (l0_0.length : Int) > 8 then (Af.j0 k true l0_0 a0_1) else (if a0_1 < 0 then (Af.j0 k true l0_0 a0_1) else (Af.j0 k (decide (a0_1 > 1073741823)) l0_0 a0_1)))) = some r := h; clear h; have HC2 := zk H; clear H; go_enter Tryz.func30, Tryz.ntmps30
 go_upto_region 1 with (first | ((with_reducible refine Bd (N := 1) rfl ?_); (try (refine Du (by rfl) ?_; dsimp only)); refine Bb ?hg (N := 1) ?hd (cs := #[.slice A0_0 l0_0.length c0_0, .int .i64 a0_1]) (t := 44) ?hr ?_; (case hd => rfl); (case hg => rfl); (case hr => first | (go_simp; done) | (go_simp; rfl)); intro gb384 hg w3 hbox hb; have BK384 := zk (hbox); have GE384 := zk ((zg hg HB.out : w.heap.size ≤ gb384)); replace HB := zs HB hb;  clear hb hbox hg))
 (try simp only [Act.put, List.setIfInBounds_toArray, List.set_cons_zero, List.set_cons_succ])
 go_cut [23] (fun v23 wc => ∃ (kq : Nat) (x23_1 : Bool), v23 = .bool x23_1 ∧ Aa (Af.j0 kq x23_1 l0_0 a0_1 = some r) ∧ Aa (kq ≤ k) ∧ Aa (wc.heap[gb384]? = some (.cells #[(.slice A0_0 l0_0.length c0_0), .int .i64 a0_1] 44 (0, 0))) ∧ Aa (Below w.heap.size w wc))
 case first =>
  have H := HC2.out; clear HC2; by_cases c4 : (l0_0.length : Int) < 1
  ·rw [if_pos c4] at H; have c4b0 : decide ((l0_0.length : Int) < 1) = true := decide_eq_true c4; have c4b1 : decide (l0_0.length < 1) = true := decide_eq_true (by omega); clear c4
   (first | rw [c4b0] | (simp only [Hu, Ka]; rw [c4b0]) | skip)
   have H' := zk H; clear H; have hcz5_0 : w3.cell? ⟨gb384, 0, none⟩ = some (.slice A0_0 l0_0.length c0_0) := zh BK384.out 0; have hcz5_1 : w3.cell? ⟨gb384, 1, none⟩ = some (.int .i64 a0_1) := zh BK384.out 1; have hfz5_0 := Ac BK384.out 0; have hfz5_1 := Ac BK384.out 1; go_wp2
   go_meet
   case rel => exact ⟨_, (true), zR, H', ⟨by first | omega | exact Nat.le_refl _⟩, ⟨zb BK384.out⟩, ⟨zU HB.out⟩⟩
  ·rw [if_neg c4] at H; have c4b0 : decide ((l0_0.length : Int) < 1) = false := decide_eq_false c4; have c4b1 : decide (l0_0.length < 1) = false := decide_eq_false (by omega); clear c4
   (first | rw [c4b0] | (simp only [Hu, Ka]; rw [c4b0]) | skip)
   by_cases c6 : (l0_0.length : Int) > 8
   ·rw [if_pos c6] at H; have c6b0 : decide (8 < (l0_0.length : Int)) = true := decide_eq_true c6; have c6b1 : decide (8 < l0_0.length) = true := decide_eq_true (by omega); clear c6; have H' := zk H; clear H; have hcz7_0 : w3.cell? ⟨gb384, 0, none⟩ = some (.slice A0_0 l0_0.length c0_0) := zh BK384.out 0; have hcz7_1 : w3.cell? ⟨gb384, 1, none⟩ = some (.int .i64 a0_1) := zh BK384.out 1; have hfz7_0 := Ac BK384.out 0; have hfz7_1 := Ac BK384.out 1; go_wp2
    go_meet
    case rel => exact ⟨_, (true), zR, H', ⟨by first | omega | exact Nat.le_refl _⟩, ⟨zb BK384.out⟩, ⟨zU HB.out⟩⟩
   ·rw [if_neg c6] at H; have c6b0 : decide (8 < (l0_0.length : Int)) = false := decide_eq_false c6; have c6b1 : decide (8 < l0_0.length) = false := decide_eq_false (by omega); clear c6; by_cases c8 : a0_1 < 0
    ·rw [if_pos c8] at H; have c8b0 : decide (a0_1 < 0) = true := decide_eq_true c8; clear c8; have H' := zk H; clear H; have hcz9_0 : w3.cell? ⟨gb384, 0, none⟩ = some (.slice A0_0 l0_0.length c0_0) := zh BK384.out 0; have hcz9_1 : w3.cell? ⟨gb384, 1, none⟩ = some (.int .i64 a0_1) := zh BK384.out 1; have hfz9_0 := Ac BK384.out 0; have hfz9_1 := Ac BK384.out 1; go_wp2
     go_meet
     case rel => exact ⟨_, (true), zR, H', ⟨by first | omega | exact Nat.le_refl _⟩, ⟨zb BK384.out⟩, ⟨zU HB.out⟩⟩
    ·rw [if_neg c8] at H; have c8b0 : decide (a0_1 < 0) = false := decide_eq_false c8; clear c8; have H' := zk H; clear H; have hcz10_0 : w3.cell? ⟨gb384, 0, none⟩ = some (.slice A0_0 l0_0.length c0_0) := zh BK384.out 0; have hcz10_1 : w3.cell? ⟨gb384, 1, none⟩ = some (.int .i64 a0_1) := zh BK384.out 1; have hfz10_0 := Ac BK384.out 0; have hfz10_1 := Ac BK384.out 1; go_wp2
     go_meet
     case rel => exact ⟨_, (decide (a0_1 > 1073741823)), zR, H', ⟨by first | omega | exact Nat.le_refl _⟩, ⟨zb BK384.out⟩, ⟨zU HB.out⟩⟩
 case rest =>
  clear HC2; (try clear p2); (try clear c3); (try clear c4); (try clear c4b0); (try clear c4b1); (try clear c6); (try clear c6b0); (try clear c6b1); (try clear c8); (try clear c8b0); (try clear hcz10_0); (try clear hcz10_1); (try clear hcz5_0); (try clear hcz5_1); (try clear hcz7_0); (try clear hcz7_1); (try clear hcz9_0); (try clear hcz9_1); (try clear hfz10_0); (try clear hfz10_1); (try clear hfz5_0); (try clear hfz5_1); (try clear hfz7_0); (try clear hfz7_1); (try clear hfz9_0); (try clear hfz9_1); obtain ⟨kq, x23_1, rfl, HA, HJ1, BK384, HB⟩ := hcut; cases kq with
  | zero => exact absurd HA.out (by simp [Af.j0])
  | succ kj1 =>
   have H := HA.out; clear HA; simp only [Af.j0] at H; by_cases c11 : x23_1 = true
   ·subst c11; have H1 : (some false) = some r := by rw [if_pos rfl] at H; exact H
    clear H; have H := H1; clear H1; obtain rfl := Option.some.inj H; go_wp2
    go_ret
    exact ⟨ze, zU HB.out⟩
   ·replace c11 := Bool.eq_false_iff.mpr c11; subst c11; have H1 : (Af.l0 kj1 0 l0_0 a0_1) = some r := by rw [if_neg (show ¬ (false = true) by decide)] at H; exact H
    clear H; have H := H1; clear H1; have H' := zk H; clear H; go_wp2
    go_loopg [3] kj1 (fun kq v3 w' => ∃ (x3_2 : Int), v3 = .int .i64 x3_2 ∧ Aa (Af.l0 kq x3_2 l0_0 a0_1 = some r) ∧ Aa (kq ≤ kj1) ∧ Aa (w'.heap[gb384]? = some (.cells #[(.slice A0_0 l0_0.length c0_0), .int .i64 a0_1] 44 (0, 0))) ∧ Aa (Below w.heap.size w w'))
    case atStart => exact ⟨(0), zR, H', ⟨Nat.le_refl _⟩, ⟨zb BK384.out⟩, ⟨zU HB.out⟩⟩
    case round =>
     clear H'; (try clear c1); (try clear p2); (try clear c3); (try clear c4); (try clear c4b0); (try clear c4b1); (try clear c6); (try clear c6b0); (try clear c6b1); (try clear c8); (try clear c8b0); (try clear c11); (try clear hcz10_0); (try clear hcz10_1); (try clear hcz5_0); (try clear hcz5_1); (try clear hcz7_0); (try clear hcz7_1); (try clear hcz9_0); (try clear hcz9_1); (try clear hfz10_0); (try clear hfz10_1); (try clear hfz5_0); (try clear hfz5_1); (try clear hfz7_0); (try clear hfz7_1); (try clear hfz9_0); (try clear hfz9_1); (try clear p2); obtain ⟨x3_2, rfl, HA, HK2, BK384, HB⟩ := hrel
     cases gk with
     | zero => exact absurd HA.out (by simp [Af.l0])
     | succ k2 =>
      have H := HA.out; clear HA; simp only [Af.l0] at H; by_cases c12 : x3_2 < (l0_0.length : Int)
      ·rw [if_pos c12] at H; have c12b0 : decide (x3_2 < (l0_0.length : Int)) = true := decide_eq_true c12; clear c12; by_cases c13 : 0 ≤ x3_2
       ·rw [if_pos c13] at H; have c13b0 : decide (0 ≤ x3_2) = true := decide_eq_true c13; clear c13; by_cases c14 : ((Co l0_0 x3_2).length : Int) = 0
        ·rw [if_pos c14] at H; have c14b0 : (((Co l0_0 x3_2).length : Int) == 0) = true := beq_iff_eq.mpr c14; have c14b1 : (((Co l0_0 x3_2).length : Int) != 0) = false := bne_eq_false_iff_eq.mpr c14; clear c14; obtain rfl := Option.some.inj H; have hcz15_0 : wr.cell? ⟨gb384, 0, none⟩ = some (.slice A0_0 l0_0.length c0_0) := zh BK384.out 0; have hcz15_1 : wr.cell? ⟨gb384, 1, none⟩ = some (.int .i64 a0_1) := zh BK384.out 1; have hfz15_0 := Ac BK384.out 0; have hfz15_1 := Ac BK384.out 1; have p386 : 0 ≤ (x3_2 : Int) := zT; have q386 : x3_2 < (l0_0.length : Int) := zT; obtain ⟨ad386, A386_0, c386_0, e386, hx386_0, hl386_0, hi386_0⟩ := Ha HR0_0.out x3_2 p386 q386; cases e386; replace hx386_0 := zcl HB.out hx386_0; have HR386_0 := zk hi386_0; have HC386_0 := zk hl386_0; clear hi386_0 hl386_0; replace p386 := eq_true p386; replace q386 := eq_true q386; go_wp2
         go_ret
         exact ⟨ze, zU HB.out⟩
        ·rw [if_neg c14] at H; have c14b0 : (((Co l0_0 x3_2).length : Int) == 0) = false := beq_eq_false_iff_ne.mpr c14; have c14b1 : (((Co l0_0 x3_2).length : Int) != 0) = true := bne_iff_ne.mpr c14; have c14b2 : ¬ ((Co l0_0 x3_2) = []) := fun h_ => c14 (by rw [h_]; rfl)
         replace H := Option.bind_eq_some_iff.mp H; obtain ⟨t388, A160, H⟩ := H; replace H : (if t388 = true then (Af.l0 k2 (wrap64 (x3_2 + 1)) l0_0 a0_1) else (some false)) = some r := H; have A16 := zk A160; clear A160; by_cases c17 : t388 = true
         ·subst c17; have H1 : (Af.l0 k2 (wrap64 (x3_2 + 1)) l0_0 a0_1) = some r := by rw [if_pos rfl] at H; exact H
          clear H; have H := H1; clear H1; have H' := zk H; clear H; have hcz18_0 : wr.cell? ⟨gb384, 0, none⟩ = some (.slice A0_0 l0_0.length c0_0) := zh BK384.out 0; have hcz18_1 : wr.cell? ⟨gb384, 1, none⟩ = some (.int .i64 a0_1) := zh BK384.out 1; have hfz18_0 := Ac BK384.out 0; have hfz18_1 := Ac BK384.out 1; have p386 : 0 ≤ (x3_2 : Int) := zT; have q386 : x3_2 < (l0_0.length : Int) := zT; obtain ⟨ad386, A386_0, c386_0, e386, hx386_0, hl386_0, hi386_0⟩ := Ha HR0_0.out x3_2 p386 q386; cases e386; replace hx386_0 := zcl HB.out hx386_0; have HR386_0 := zk hi386_0; have HC386_0 := zk hl386_0; clear hi386_0 hl386_0; replace p386 := eq_true p386; replace q386 := eq_true q386; have p387 : 0 ≤ (x3_2 : Int) := zT; have q387 : x3_2 < (l0_0.length : Int) := zT; obtain ⟨ad387, A387_0, c387_0, e387, hx387_0, hl387_0, hi387_0⟩ := Ha HR0_0.out x3_2 p387 q387; obtain rfl : ad386 = ad387 := (by injection e387); replace hx387_0 := zcl HB.out hx387_0; have HR387_0 := zk hi387_0; have HC387_0 := zk hl387_0; clear hi387_0 hl387_0; replace p387 := eq_true p387; replace q387 := eq_true q387; have ea_ := Option.some.inj (hx386_0.symm.trans hx387_0); injection ea_ with ea_ en_ ec_
          subst ea_; subst ec_; clear en_; go_wp2_with (first | (go_at_call 52; (with_reducible refine (Bc.calls k2 _ _ (Co l0_0 x3_2) true _ ?side1 ?side2 A16.out).mono ?_); (case side1 => exact zc (Kd.C_below HR387_0.out HB.out)); (case side2 => exact HC387_0.out); rintro e w' ⟨rfl, ⟨nd, rfl⟩⟩))
          go_roundg k2
          case measure => have := HJ1.out; have := HK2.out; omega
          case rel => exact ⟨(wrap64 (x3_2 + 1)), zR, H', ⟨by have := HJ1.out; have := HK2.out; omega⟩, ⟨zb BK384.out⟩, ⟨zU HB.out⟩⟩
         ·replace c17 := Bool.eq_false_iff.mpr c17; subst c17; have H1 : (some false) = some r := by rw [if_neg (show ¬ (false = true) by decide)] at H; exact H
          clear H; have H := H1; clear H1; obtain rfl := Option.some.inj H; have hcz19_0 : wr.cell? ⟨gb384, 0, none⟩ = some (.slice A0_0 l0_0.length c0_0) := zh BK384.out 0; have hcz19_1 : wr.cell? ⟨gb384, 1, none⟩ = some (.int .i64 a0_1) := zh BK384.out 1; have hfz19_0 := Ac BK384.out 0; have hfz19_1 := Ac BK384.out 1; have p386 : 0 ≤ (x3_2 : Int) := zT; have q386 : x3_2 < (l0_0.length : Int) := zT; obtain ⟨ad386, A386_0, c386_0, e386, hx386_0, hl386_0, hi386_0⟩ := Ha HR0_0.out x3_2 p386 q386; cases e386; replace hx386_0 := zcl HB.out hx386_0; have HR386_0 := zk hi386_0; have HC386_0 := zk hl386_0; clear hi386_0 hl386_0; replace p386 := eq_true p386; replace q386 := eq_true q386; have p387 : 0 ≤ (x3_2 : Int) := zT; have q387 : x3_2 < (l0_0.length : Int) := zT; obtain ⟨ad387, A387_0, c387_0, e387, hx387_0, hl387_0, hi387_0⟩ := Ha HR0_0.out x3_2 p387 q387; obtain rfl : ad386 = ad387 := (by injection e387); replace hx387_0 := zcl HB.out hx387_0; have HR387_0 := zk hi387_0; have HC387_0 := zk hl387_0; clear hi387_0 hl387_0; replace p387 := eq_true p387; replace q387 := eq_true q387; have ea_ := Option.some.inj (hx386_0.symm.trans hx387_0); injection ea_ with ea_ en_ ec_
          subst ea_; subst ec_; clear en_; go_wp2_with (first | (go_at_call 52; (with_reducible refine (Bc.calls k2 _ _ (Co l0_0 x3_2) false _ ?side1 ?side2 A16.out).mono ?_); (case side1 => exact zc (Kd.C_below HR387_0.out HB.out)); (case side2 => exact HC387_0.out); rintro e w' ⟨rfl, ⟨nd, rfl⟩⟩))
          go_ret
          exact ⟨ze, zU HB.out⟩
       ·rw [if_neg c13] at H; cases H
      ·rw [if_neg c12] at H; have c12b0 : decide (x3_2 < (l0_0.length : Int)) = false := decide_eq_false c12; clear c12; replace H := Option.bind_eq_some_iff.mp H; obtain ⟨t385, A200, H⟩ := H; replace H : (some (decide ((wrap64 ((wrap64 (a0_1 + t385)) - 1)) ≤ 1073741823))) = some r := H; have A20 := zk A200; clear A200; obtain rfl := Option.some.inj H; have hcz21_0 : wr.cell? ⟨gb384, 0, none⟩ = some (.slice A0_0 l0_0.length c0_0) := zh BK384.out 0; have hcz21_1 : wr.cell? ⟨gb384, 1, none⟩ = some (.int .i64 a0_1) := zh BK384.out 1; have hfz21_0 := Ac BK384.out 0; have hfz21_1 := Ac BK384.out 1; try go_wp2
       have n0_ := zk (Ay BK384.out); have n1_ := zk (Bv HB.out); clear BK384; clear HB; have BK384 := n0_; have HB := n1_; clear n0_ n1_; refine Ew (n := 8) (S := fun w' => w'.cell? ⟨gb384, 0, none⟩ = some (.slice A0_0 l0_0.length c0_0) ∧ w'.cell? ⟨gb384, 1, none⟩ = some (.int .i64 a0_1)) (ds := []) #[false, false, false, false, false, false, false, false] zz rfl rfl ⟨(Ag BK384.out 0).trans rfl, (Ag BK384.out 1).trans rfl⟩ (fun hHeld => ?_); refine Cy Af.tab8 Af.bits8 (fun HT_ HW_ => ?_); generalize wr.drew = w22 at BK384 HB hHeld ⊢; refine zp 0 (some 47) (v := ?_) (a' := ?_) (bz 8 1) rfl rfl HT_.out zz zQ ?_ ?_ ?_; rotate_left
       ·intro w'; go_simp; with_reducible rfl
       rotate_left
       ·simp only [zy]; rfl
       refine take_ (i := 1) (N := some 48) (v := ?_) (a' := ?_) (bz 8 3) rfl rfl (Bk HT_.out HW_.out zz) zQ (Or.inl ⟨by rfl, ?_⟩) hHeld ?_ ?_; rotate_left
       ·rintro w' ⟨s0, s1⟩; go_simp; with_reducible rfl
       rotate_left
       ·simp only [zy]; rfl
       refine take_ (i := 2) (N := some 49) (v := ?_) (a' := ?_) (bz 8 7) rfl rfl (Bk HT_.out HW_.out zz) zQ (Or.inl ⟨by rfl, ?_⟩) hHeld ?_ ?_; rotate_left
       ·rintro w' ⟨s0, s1⟩; go_simp; with_reducible rfl
       rotate_left
       ·simp only [zy]; rfl
       refine one_ (i := 3) (N := some 50) (bz 8 15) rfl rfl (Eh HT_.out zz) (by decide) (fun K hK => ?_); refine Gy Tryz.func22 zz rfl #[.agg #[.slice A0_0 l0_0.length c0_0, .int .i64 a0_1]] (by rfl) rfl rfl zM ?_; with_reducible refine (Am.calls k2 _ _ l0_0 a0_1 t385 _ ?side1 ?side2 A20.out).mono ?_; (case side1 => exact zc (Kd.C_below HR0_0.out HB.out))
       (case side2 => exact HC0_0.out)
       rintro e w23 ⟨rfl, hb⟩; refine ⟨_, rfl, ?_⟩; have n0_ := zk (zbb BK384.out hb); have n1_ := zs HB hb; clear BK384; clear HB; have BK384 := n0_; have HB := n1_; clear n0_ n1_; (try clear hb); (try clear hb2); (try clear hk); (try clear hi); refine hK.out _ _ ⟨(Ag BK384.out 0).trans rfl, (Ag BK384.out 1).trans rfl⟩ (fun hHeld => ?_); clear hK K; refine Fi (a' := ?_) ?_ ?_; rotate_left
       ·show Act.put _ (some 50) _ = _; simp only [zy]; rfl
       refine zp 4 (some 51) (v := ?_) (a' := ?_) (bz 8 31) rfl rfl HT_.out zz zQ ?_ ?_ ?_; rotate_left
       ·intro w'; go_simp; with_reducible rfl
       rotate_left
       ·simp only [zy]; rfl
       refine zp 5 (some 52) (v := ?_) (a' := ?_) (bz 8 63) rfl rfl HT_.out zz zQ ?_ ?_ ?_; rotate_left
       ·intro w'; go_simp; with_reducible rfl
       rotate_left
       ·simp only [zy]; rfl
       refine zp 6 (some 53) (v := ?_) (a' := ?_) (bz 8 127) rfl rfl HT_.out zz zQ ?_ ?_ ?_; rotate_left
       ·intro w'; go_simp; with_reducible rfl
       rotate_left
       ·simp only [zy]; rfl
       refine zp 7 (some 2) (v := ?_) (a' := ?_) (bz 8 255) rfl rfl HT_.out zz zQ ?_ ?_ ?_; rotate_left
       ·intro w'; go_simp; with_reducible rfl
       rotate_left
       ·simp only [zy]; rfl
       refine Gg (Ei HT_.out zz) ?_; try go_wp2
       go_ret
       exact ⟨ze, zU HB.out⟩
end Go.Proofs.I
