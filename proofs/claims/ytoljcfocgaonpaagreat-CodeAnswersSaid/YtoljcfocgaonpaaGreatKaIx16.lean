/- Words and walks of this claim, of the text Ix16. -/
import Derived.Test.YtoljcfocgaonpaaGreatKaQW0
import Derived.Test.YtoljcfocgaonpaaGreatKaIx0
import Derived.Test.YtoljcfocgaonpaaGreatKaIx11
import Derived.Test.YtoljcfocgaonpaaGreatKaIx12
namespace Go.Proofs.I
open Go.RowKit Go.Proofs.Zw.PrintWords Go.Proofs.Zw.PrintLast Go.Proofs.Zw.PrintMore
set_option maxHeartbeats 8000000
set_option maxRecDepth 100000
attribute [local go_sem] Dw Ec El Es Dd Dj Dr Eb
set_option linter.unusedVariables false
set_option linter.unusedSimpArgs false
def Cj.f (k : Nat) (l0_0 : List (List (S58))) (a0_1 : Int) : Option (Int) := (Af.f k l0_0 a0_1).bind fun t407 => (if t407 = true then ((Am.f k l0_0 a0_1).bind fun t408 => (some t408)) else (some 0))
theorem Cj.calls (k : Nat) (A0_0 : Option Addr) (c0_0 : Nat) (l0_0 : List (List (S58))) (a0_1 : Int) (r : Int) (w : World) (hr0_0 : Kd.C (Kd.slice 58 k58) w A0_0 l0_0.length l0_0) (hc0_0 : l0_0.length ≤ c0_0) (h : Cj.f k l0_0 a0_1 = some r) :
 Calls Tryz.prog 53 #[.agg #[.slice A0_0 l0_0.length c0_0, .int .i64 a0_1]] w fun e w' => e = .returned (.int .i64 r) ∧ Below w.heap.size w w' := by
 have hu44 := Tryz.underlying44; have HR0_0 := zk hr0_0; have HC0_0 := zk hc0_0; clear hr0_0 hc0_0; have HB := zk (Below.refl w.heap.size w); have H : ((Af.f k l0_0 a0_1).bind fun t407 => (if t407 = true then ((Am.f k l0_0 a0_1).bind fun t408 => (some t408)) else (some 0))) = some r := h; clear h; replace H := Option.bind_eq_some_iff.mp H; obtain ⟨t407, A20, H⟩ := H; replace H : (if t407 = true then ((Am.f k l0_0 a0_1).bind fun t408 => (some t408)) else (some 0)) = some r := H; have A2 := zk A20; clear A20; by_cases c3 : t407 = true
 ·subst c3; have H1 : ((Am.f k l0_0 a0_1).bind fun t408 => (some t408)) = some r := by rw [if_pos rfl] at H; exact H
  clear H; have H := H1; clear H1; replace H := Option.bind_eq_some_iff.mp H; obtain ⟨t408, A40, H⟩ := H; replace H : (some t408) = some r := H; have A4 := zk A40; clear A40; obtain rfl := Option.some.inj H; go_enter Tryz.func53, Tryz.ntmps53
  go_wp2_with (first | ((with_reducible refine Bd (N := 1) rfl ?_); refine Bb ?hg (N := 1) ?hd (cs := #[.slice A0_0 l0_0.length c0_0, .int .i64 a0_1]) (t := 44) ?hr ?_; (case hd => rfl); (case hg => rfl); (case hr => first | (go_simp; done) | (go_simp; rfl)); intro gb406 hg w5 hbox hb; have BK406 := zk (hbox); have GE406 := zk ((zg hg HB.out : w.heap.size ≤ gb406)); replace HB := zs HB hb;  clear hb hbox hg; have hcz6_0 : w5.cell? ⟨gb406, 0, none⟩ = some (.slice A0_0 l0_0.length c0_0) := zh BK406.out 0; have hcz6_1 : w5.cell? ⟨gb406, 1, none⟩ = some (.int .i64 a0_1) := zh BK406.out 1; have hfz6_0 := Ac BK406.out 0; have hfz6_1 := Ac BK406.out 1) | ((with_reducible refine Al (f := 30) rfl ?_); refine Bz (some 4) rfl rfl Tryz.func30 zz rfl #[.agg #[.slice A0_0 l0_0.length c0_0, .int .i64 a0_1]] rfl zM ?_; (with_reducible refine (Af.calls k _ _ l0_0 a0_1 true _ ?side1 ?side2 A2.out).mono ?_); (case side1 => exact zc (Kd.C_below HR0_0.out HB.out)); (case side2 => exact HC0_0.out); rintro e w7 ⟨rfl, hb⟩; refine ⟨_, rfl, ?_⟩; replace BK406 := zk (zbb BK406.out hb); replace HB := zs HB hb;  (try clear hb); (try clear hb2); (try clear hk); (try clear hi); have hcz8_0 : w7.cell? ⟨gb406, 0, none⟩ = some (.slice A0_0 l0_0.length c0_0) := zh BK406.out 0; have hcz8_1 : w7.cell? ⟨gb406, 1, none⟩ = some (.int .i64 a0_1) := zh BK406.out 1; have hfz8_0 := Ac BK406.out 0; have hfz8_1 := Ac BK406.out 1) | ((with_reducible refine Al (f := 22) rfl ?_); refine Bz (some 7) rfl rfl Tryz.func22 zz rfl #[.agg #[.slice A0_0 l0_0.length c0_0, .int .i64 a0_1]] rfl zM ?_; (with_reducible refine (Am.calls k _ _ l0_0 a0_1 t408 _ ?side1 ?side2 A4.out).mono ?_); (case side1 => exact zc (Kd.C_below HR0_0.out HB.out)); (case side2 => exact HC0_0.out); rintro e w9 ⟨rfl, hb⟩; refine ⟨_, rfl, ?_⟩; replace BK406 := zk (zbb BK406.out hb); replace HB := zs HB hb;  (try clear hb); (try clear hb2); (try clear hk); (try clear hi)))
  go_ret
  exact ⟨ze, zU HB.out⟩
 ·replace c3 := Bool.eq_false_iff.mpr c3; subst c3; have H1 : (some 0) = some r := by rw [if_neg (show ¬ (false = true) by decide)] at H; exact H
  clear H; have H := H1; clear H1; obtain rfl := Option.some.inj H; go_enter Tryz.func53, Tryz.ntmps53
  go_wp2_with (first | ((with_reducible refine Bd (N := 1) rfl ?_); refine Bb ?hg (N := 1) ?hd (cs := #[.slice A0_0 l0_0.length c0_0, .int .i64 a0_1]) (t := 44) ?hr ?_; (case hd => rfl); (case hg => rfl); (case hr => first | (go_simp; done) | (go_simp; rfl)); intro gb406 hg w10 hbox hb; have BK406 := zk (hbox); have GE406 := zk ((zg hg HB.out : w.heap.size ≤ gb406)); replace HB := zs HB hb;  clear hb hbox hg; have hcz11_0 : w10.cell? ⟨gb406, 0, none⟩ = some (.slice A0_0 l0_0.length c0_0) := zh BK406.out 0; have hcz11_1 : w10.cell? ⟨gb406, 1, none⟩ = some (.int .i64 a0_1) := zh BK406.out 1; have hfz11_0 := Ac BK406.out 0; have hfz11_1 := Ac BK406.out 1) | ((with_reducible refine Al (f := 30) rfl ?_); refine Bz (some 4) rfl rfl Tryz.func30 zz rfl #[.agg #[.slice A0_0 l0_0.length c0_0, .int .i64 a0_1]] rfl zM ?_; (with_reducible refine (Af.calls k _ _ l0_0 a0_1 false _ ?side1 ?side2 A2.out).mono ?_); (case side1 => exact zc (Kd.C_below HR0_0.out HB.out)); (case side2 => exact HC0_0.out); rintro e w12 ⟨rfl, hb⟩; refine ⟨_, rfl, ?_⟩; replace BK406 := zk (zbb BK406.out hb); replace HB := zs HB hb;  (try clear hb); (try clear hb2); (try clear hk); (try clear hi)))
  go_ret
  exact ⟨ze, zU HB.out⟩
def selB (p : Nat → Bool) (k : Int) : Nat → Nat → Int × Bool
 | 0, _ => (0, false)
 | f + 1, x => if p x = true ∧ (cntB p x : Int) = k then ((x : Int), true) else selB p k f (x + 1)
theorem R3Select.calls (k : Nat) (A0 : Option Addr) (c0 : Nat) (l0 : List S58) (x : Int) (b : Bool) (w : World) (hr0 : Kd.C k58 w A0 l0.length l0) (hc0 : l0.length ≤ c0) (h : Bc.f k l0 = some b) (hok : b = true → ∀ r ∈ l0, Hh r = true) (hsm : l0.length ≤ 8796093022207) :
 Calls Tryz.prog 54 #[.slice A0 l0.length c0, .int .i64 x] w fun e w' => e = .returned (.tuple #[.int .i64 (selB (Ej b l0) x 256 0).1, .bool (selB (Ej b l0) x 256 0).2]) ∧ Below w.heap.size w w' := by
 have hMem := R3Members.calls k A0 c0 l0 b w hr0 hc0 h hok hsm; clear hr0 hc0 h hok; change Calls Tryz.prog 65 _ w (fun e w' => e = .returned (.agg (Em (Ej b l0))) ∧ _) at hMem
 generalize Ej b l0 = p at hMem ⊢; generalize hR : selB p x 256 0 = R; go_enter Tryz.func54, Tryz.ntmps54
 go_wp2_with (go_at_call 65; refine hMem.mono ?_; rintro e w2 ⟨rfl, hb⟩; clear hMem; have HB3 := zk hb; clear hb)
 rw [Ij w2 p]; have D := zk (Fl w2 (.cells (Em p) 92)); have HB4 := zk (Ct HB3.out (.cells (Em p) 92)); have RR := zk hR; clear HB3 hR; generalize w2.heap.size = g at D ⊢; generalize w2.alloc (.cells (Em p) 92) = w3 at D HB4 ⊢; go_wp2
 go_loopg [7, 8] 257 (fun kq v7 v8 w' => ∃ n : Nat, v7 = .int .i64 (cntB p n : Nat) ∧ v8 = .int .i64 (n : Int) ∧ Aa (n + kq = 257) ∧ Aa (n ≤ 256) ∧ Aa (selB p x (256 - n) n = R) ∧ Aa (w'.heap[g]? = some (.cells (Em p) 92 (0, 0))) ∧ Aa (Below w.heap.size w w'))
 case atStart => exact ⟨0, rfl, rfl, ⟨by omega⟩, ⟨by omega⟩, RR, D, HB4⟩
 case round =>
  clear RR; obtain ⟨n, rfl, rfl, HN, HN2, RR, C, HB'⟩ := hrel; have hcl := Lf p n
  cases gk with
  | zero => exact absurd HN.out (by have := HN2.out; omega)
  | succ k1 =>
  by_cases c : n ≤ 255
  ·have cb : decide ((n : Int) ≤ 255) = true := decide_eq_true (by omega); have p2 : (0 ≤ (n : Int)) = True := eq_true (by omega); have q2 : ((n : Int) < 256) = True := eq_true (by omega); have c_ := zk c; have hcl_ := zk hcl; have hc := Ag C.out n; rw [Jk _ _ (by omega)] at hc; have eq1 : 256 - n = (255 - n) + 1 := by omega
   have eq2 : 255 - n = 256 - (n + 1) := by omega
   have hS := zk (show selB p x (256 - n) n = if p n = true ∧ (cntB p n : Int) = x then ((n : Int), true) else selB p x (256 - (n + 1)) (n + 1) by rw [eq1, selB, eq2]); clear c hcl eq1 eq2; cases hpn : p n with
   | true =>
    rw [hpn] at hc; by_cases e : (cntB p n : Int) = x
    ·have hRn := zk (RR.out.symm.trans (hS.out.trans (if_pos ⟨hpn, e⟩))); clear hS RR; subst e; go_wp2
     go_ret2
     rw [hRn.out]; exact ⟨rfl, HB'.out⟩
    ·have eb0 : decide ((cntB p n : Int) = x) = false := decide_eq_false e; have eb1 : ((cntB p n : Int) == x) = false := by simpa using e
     have hRn := zk ((show selB p x (256 - (n + 1)) (n + 1) = R from (hS.out.trans (if_neg fun h => e h.2)).symm.trans RR.out)); go_wp2
     have hcl := hcl_.out; have hN := HN.out; have c := c_.out; go_roundg k1
     case measure => omega
     case rel => exact ⟨n + 1, by simp only [cntB, hpn, if_true]; rw [w64' (by omega) (by omega)]; simp, by rw [w64' (by omega) (by omega)]; simp, ⟨by omega⟩, ⟨by omega⟩, hRn, C, HB'⟩
   | false =>
    rw [hpn] at hc; have hRn := zk ((show selB p x (256 - (n + 1)) (n + 1) = R from (hS.out.trans (if_neg fun h => by rw [hpn] at h; cases h.1)).symm.trans RR.out)); go_wp2
    have hcl := hcl_.out; have hN := HN.out; have c := c_.out; go_roundg k1
    case measure => omega
    case rel => exact ⟨n + 1, by simp only [cntB, hpn, Bool.false_eq_true, if_false, Nat.add_zero], by rw [w64' (by omega) (by omega)]; simp, ⟨by omega⟩, ⟨by omega⟩, hRn, C, HB'⟩
  ·have cb : decide ((n : Int) ≤ 255) = false := decide_eq_false (by omega); have hn := zk (show n = 256 by have := HN.out; have := HN2.out; omega); clear c hcl; go_wp2
   go_ret2
   have hn := hn.out; subst hn; have := RR.out; simp only [Nat.sub_self, selB] at this; rw [← this]; exact ⟨rfl, HB'.out⟩
def Dn.f (k : Nat) (l0 : List (S58)) (a1 : Int) : Option (Int × Bool) := (Ey k l0).bind fun p => some (selB p a1 256 0)
theorem Dn.calls (k : Nat) (A0 : Option Addr) (c0 : Nat) (l0 : List (S58)) (a1 : Int) (r1 : Int) (r2 : Bool) (w : World) (hr0 : Kd.C k58 w A0 l0.length l0) (hc0 : l0.length ≤ c0) (h : Dn.f k l0 a1 = some (r1, r2)) :
 Calls Tryz.prog 54 #[.slice A0 l0.length c0, .int .i64 a1] w fun e w' => e = .returned (.tuple #[.int .i64 r1, .bool r2]) ∧ Below w.heap.size w w' := by
 obtain ⟨p, h1, h2⟩ := Option.bind_eq_some_iff.mp h; obtain ⟨b, hv, rfl, hok, hsm⟩ := Mr h1; have hh := R3Select.calls k A0 c0 l0 a1 b w hr0 hc0 hv hok hsm; have e := Option.some.inj h2; rw [e] at hh; exact hh
mutual
def Aj.j0 : Nat → Int → Bool → List (List (S58)) → Int → Option (List Int × Bool)
 | 0, _, _, _, _ => none
 | k + 1, x1, x18, x410000, x410001 => if x18 = true then (some (([] : List Int), false)) else (if 0 ≤ (x410000.length : Int) then (if ((x410000.length : Int) : Int).toNat ≤ 281474976710656 then ((some (List.replicate ((x410000.length : Int) : Int).toNat 0 : List Int)).bind fun y411 => (Aj.l0 k x1 (wrap64 ((y411.length : Int) - 1)) y411 x410000 x410001)) else (none)) else (none))
def Aj.l0 : Nat → Int → Int → List Int → List (List (S58)) → Int → Option (List Int × Bool)
 | 0, _, _, _, _, _ => none
 | k + 1, x1, x7, x22, x410000, x410001 => if x7 ≥ 0 then (if 0 ≤ x7 then (if x7 < (x410000.length : Int) then ((Cg.f k (Co x410000 x7)).bind fun t415 => (if t415 = 0 then (none) else ((Dn.f k (Co x410000 x7) (Int.tmod x1 t415)).bind fun bt417 => (if x7 < (x22.length : Int) then (Aj.l0 k (wrap64 (Int.tdiv x1 t415)) (wrap64 (x7 - 1)) (x22.set (x7 : Int).toNat ((bt417.1) % 256)) x410000 x410001) else (none))))) else (none)) else (none)) else (some (x22, true))
end
def Aj.f (k : Nat) (l0_0 : List (List (S58))) (a0_1 : Int) (a1 : Int) : Option (List Int × Bool) := if a1 < 0 then (Aj.j0 k a1 true l0_0 a0_1) else ((Cj.f k l0_0 a0_1).bind fun t410 => (Aj.j0 k a1 (decide (a1 ≥ t410)) l0_0 a0_1))
def Aj.T8 : Bool × List (List Nat × List Nat) := (true, [([], []), ([0], [0]), ([], []), ([1, 2], [1, 2]), ([3], [3]), ([], []), ([], []), ([5, 6], [5, 6]), ([4, 7], [4, 7]), ([8], [8]), ([9], [9]), ([9], [9]), ([10, 8, 0, 1, 2, 3, 4, 5, 6, 7, 8, 9, 10], [10]), ([11, 12, 0, 1, 2, 3, 4, 5, 6, 7, 8, 9, 10, 11, 12], [11])])
def Aj.B8 : List Nat := [0, 1, 0, 7, 15, 0, 0, 96, 255, 511, 1023, 1023, 2047, 8191]
theorem Aj.tab8 : rtab .any (Jp Tryz.f33 8) = Aj.T8 := by kernel_rfl
theorem Aj.bits8 : Ff Aj.T8.2 Aj.B8 = true := by kernel_rfl
theorem Aj.calls (k : Nat) (A0_0 : Option Addr) (c0_0 : Nat) (l0_0 : List (List (S58))) (a0_1 : Int) (a1 : Int) (r1 : List Int) (r2 : Bool) (w : World) (hr0_0 : Kd.C (Kd.slice 58 k58) w A0_0 l0_0.length l0_0) (hc0_0 : l0_0.length ≤ c0_0) (h : Aj.f k l0_0 a0_1 a1 = some (r1, r2)) :
 Calls Tryz.prog 33 #[.agg #[.slice A0_0 l0_0.length c0_0, .int .i64 a0_1], .int .i64 a1] w fun e w' => ∃ v0_ : Value, e = .returned (.tuple #[v0_, .bool r2]) ∧ Kd.R (Kd.int .u8) 5 w' w.heap.size (fun _ => True) v0_ r1 ∧ Below w.heap.size w w' := by
 have hu44 := Tryz.underlying44; have HR0_0 := zk hr0_0; have HC0_0 := zk hc0_0; clear hr0_0 hc0_0; have HB := zk (Below.refl w.heap.size w); have H : (if a1 < 0 then (Aj.j0 k a1 true l0_0 a0_1) else ((Cj.f k l0_0 a0_1).bind fun t410 => (Aj.j0 k a1 (decide (a1 ≥ t410)) l0_0 a0_1))) = some (r1, r2) := h; clear h; have HC3 := zk H; clear H; go_enter Tryz.func33, Tryz.ntmps33
 go_upto_region 1 with (first | ((with_reducible refine Bd (N := 2) rfl ?_); refine Bb ?hg (N := 2) ?hd (cs := #[.slice A0_0 l0_0.length c0_0, .int .i64 a0_1]) (t := 44) ?hr ?_; (case hd => rfl); (case hg => rfl); (case hr => first | (go_simp; done) | (go_simp; rfl)); intro gb409 hg w4 hbox hb; have BK409 := zk (hbox); have GE409 := zk ((zg hg HB.out : w.heap.size ≤ gb409)); replace HB := zs HB hb;  clear hb hbox hg))
 (try simp only [Act.put, List.setIfInBounds_toArray, List.set_cons_zero, List.set_cons_succ])
 go_cut [18] (fun v18 wc => ∃ (kq : Nat) (x18_2 : Bool), v18 = .bool x18_2 ∧ Aa (Aj.j0 kq a1 x18_2 l0_0 a0_1 = some (r1, r2)) ∧ Aa (kq ≤ k) ∧ Aa (wc.heap[gb409]? = some (.cells #[(.slice A0_0 l0_0.length c0_0), .int .i64 a0_1] 44 (0, 0))) ∧ Aa (Below w.heap.size w wc))
 case first =>
  have H := HC3.out; clear HC3; by_cases c5 : a1 < 0
  ·rw [if_pos c5] at H; have c5b0 : decide (a1 < 0) = true := decide_eq_true c5; clear c5
   (first | rw [c5b0] | (simp only [Hu, Ka]; rw [c5b0]) | skip)
   have H' := zk H; clear H; go_wp2
   go_meet
   case rel => exact ⟨_, (true), zR, H', ⟨by first | omega | exact Nat.le_refl _⟩, ⟨zb BK409.out⟩, ⟨zU HB.out⟩⟩
  ·rw [if_neg c5] at H; have c5b0 : decide (a1 < 0) = false := decide_eq_false c5; clear c5
   (first | rw [c5b0] | (simp only [Hu, Ka]; rw [c5b0]) | skip)
   replace H := Option.bind_eq_some_iff.mp H; obtain ⟨t410, A60, H⟩ := H; replace H : (Aj.j0 k a1 (decide (a1 ≥ t410)) l0_0 a0_1) = some (r1, r2) := H; have A6 := zk A60; clear A60; have H' := zk H; clear H; have hcz7_0 : w4.cell? ⟨gb409, 0, none⟩ = some (.slice A0_0 l0_0.length c0_0) := zh BK409.out 0; have hcz7_1 : w4.cell? ⟨gb409, 1, none⟩ = some (.int .i64 a0_1) := zh BK409.out 1; have hfz7_0 := Ac BK409.out 0; have hfz7_1 := Ac BK409.out 1; go_wp2_with (first | (go_at_call 53; (with_reducible refine (Cj.calls k _ _ l0_0 a0_1 t410 _ ?side1 ?side2 A6.out).mono ?_); (case side1 => exact zc (Kd.C_below HR0_0.out HB.out)); (case side2 => exact HC0_0.out); rintro e w8 ⟨rfl, hb⟩; replace BK409 := zk (zbb BK409.out hb); replace HB := zs HB hb;  (try clear hb); (try clear hb2); (try clear hk); (try clear hi)))
   go_meet
   case rel => exact ⟨_, (decide (a1 ≥ t410)), zR, H', ⟨by first | omega | exact Nat.le_refl _⟩, ⟨zb BK409.out⟩, ⟨zU HB.out⟩⟩
 case rest =>
  clear HC3; (try clear p2); (try clear c3); (try clear c5); (try clear c5b0); (try clear hcz7_0); (try clear hcz7_1); (try clear hfz7_0); (try clear hfz7_1); obtain ⟨kq, x18_2, rfl, HA, HJ2, BK409, HB⟩ := hcut; cases kq with
  | zero => exact absurd HA.out (by simp [Aj.j0])
  | succ kj2 =>
   have H := HA.out; clear HA; simp only [Aj.j0] at H; by_cases c9 : x18_2 = true
   ·subst c9; have H1 : (some (([] : List Int), false)) = some (r1, r2) := by rw [if_pos rfl] at H; exact H
    clear H; have H := H1; clear H1; simp only [Option.some.injEq, Prod.mk.injEq] at H; obtain ⟨rfl, rfl⟩ := H; go_wp2
    go_ret2
    exact ⟨_, ze, by first | exact Kd.R_nil _ _ _ _ _ | exact Kd.N_nil _ _ _ _ _ | exact Kd.V_nil _ _ _ _ _ | exact Kd.Q_nil _ _ _ _ _ | exact Kd.S_nil _ _ _ _ _, zU HB.out⟩
   ·replace c9 := Bool.eq_false_iff.mpr c9; subst c9; have H1 : (if 0 ≤ (l0_0.length : Int) then (if ((l0_0.length : Int) : Int).toNat ≤ 281474976710656 then ((some (List.replicate ((l0_0.length : Int) : Int).toNat 0 : List Int)).bind fun y411 => (Aj.l0 kj2 a1 (wrap64 ((y411.length : Int) - 1)) y411 l0_0 a0_1)) else (none)) else (none)) = some (r1, r2) := by rw [if_neg (show ¬ (false = true) by decide)] at H; exact H
    clear H; have H := H1; clear H1; by_cases c10 : 0 ≤ (l0_0.length : Int)
    ·rw [if_pos c10] at H; have c10b0 := eq_true c10; have c10b1 : decide (0 ≤ (l0_0.length : Int)) = true := decide_eq_true c10; clear c10; by_cases c11 : ((l0_0.length : Int) : Int).toNat ≤ 281474976710656
     ·rw [if_pos c11] at H; have c11b0 := eq_true c11; have c11b1 : decide (((l0_0.length : Int) : Int).toNat ≤ 281474976710656) = true := decide_eq_true c11; clear c11; obtain ⟨y411, hy411⟩ : ∃ y_ : List Int, y_ = (List.replicate ((l0_0.length : Int) : Int).toNat 0) := ⟨_, rfl⟩
      replace H : (Aj.l0 kj2 a1 (wrap64 ((y411.length : Int) - 1)) y411 l0_0 a0_1) = some (r1, r2) := by first | (rw [hy411]; with_reducible exact H) | (have H2_ := (Option.bind_some _ _).symm.trans H; rw [hy411]; with_reducible exact H2_) | (have H2_ := (Option.bind_some _ _).symm.trans H; with_reducible exact H2_) | with_reducible exact H | (rw [hy411]; exact H) | exact H
      have Ny411 := zk hy411; clear hy411; have H' := zk H; clear H; have hcz12_0 : wc.cell? ⟨gb409, 0, none⟩ = some (.slice A0_0 l0_0.length c0_0) := zh BK409.out 0; have hcz12_1 : wc.cell? ⟨gb409, 1, none⟩ = some (.int .i64 a0_1) := zh BK409.out 1; have hfz12_0 := Ac BK409.out 0; have hfz12_1 := Ac BK409.out 1; go_wp2_with (first | ((with_reducible refine Bd (N := 22) rfl ?_); refine Kd.R_make (Kd.int .u8) _ 5 rfl (N := 22) rfl 25 _ _ rfl (l0_0.length : Int) rfl rfl Tryz.underlying25 (.int .u8 0) 1 Ux rfl (by decide) (by omega) 0 (ok := fun _ => True) (okp := fun _ => True) rfl (fun _ hk => hk) trivial zT (Nat.le_trans (Nat.mul_le_mul_right _ (zT : (l0_0.length : Int).toNat ≤ 281474976710656)) (by omega)) (Below.refl _ _) (Nat.le_refl _) ?_; intro v412 w13 ho14 hb hg_ hnew_; clear hg_ hnew_; (first | rw [← Ny411.out] at ho14 | (simp only [Int.reduceToNat] at ho14; rw [← Ny411.out] at ho14)); have HO413 := zk (Kd.R_lower ho14 (Ar (zU HB.out))); replace BK409 := zk (zbb BK409.out hb); replace HB := zs HB hb;  clear hb ho14; obtain ⟨Ao15, co15, eo15⟩ := Kd.R_slice HO413.out; subst eo15))
      go_loopg [1, 7] kj2 (fun kq v1 v7 w' => ∃ (x1_2 : Int) (x7_2 : Int) (x22_2 : List Int), v1 = .int .i64 x1_2 ∧ v7 = .int .i64 x7_2 ∧ Aa (Aj.l0 kq x1_2 x7_2 x22_2 l0_0 a0_1 = some (r1, r2)) ∧ Aa (kq ≤ kj2) ∧ Aa (Kd.R (Kd.int .u8) 5 w' w.heap.size (fun _ => True) (.slice Ao15 y411.length co15) x22_2) ∧ Aa (w'.heap[gb409]? = some (.cells #[(.slice A0_0 l0_0.length c0_0), .int .i64 a0_1] 44 (0, 0))) ∧ Aa (Below w.heap.size w w'))
      case atStart => exact ⟨(a1), (wrap64 ((y411.length : Int) - 1)), (y411), zR, zR, H', ⟨Nat.le_refl _⟩, ⟨by (with_reducible repeat (first | apply zA | apply zB | apply zC)); exact HO413.out⟩, ⟨zb BK409.out⟩, ⟨zU HB.out⟩⟩
      case round =>
       clear H'; (try clear c1); (try clear p2); (try clear c3); (try clear c5); (try clear c5b0); (try clear p6); (try clear c9); (try clear c10); (try clear c10b0); (try clear c10b1); (try clear c11); (try clear c11b0); (try clear c11b1); (try clear hcz12_0); (try clear hcz12_1); (try clear hcz7_0); (try clear hcz7_1); (try clear hfz12_0); (try clear hfz12_1); (try clear hfz7_0); (try clear hfz7_1); (try clear p2); obtain ⟨x1_2, x7_2, x22_2, rfl, rfl, HA, HK2, HO_22, BK409, HB⟩ := hrel; have hl22_2 := (Kd.R_reads' HO_22.out).1; rw [hl22_2] at HO_22; (try simp only [hl22_2])
       (try simp only [hl22_2] at BK409)
       cases gk with
       | zero => exact absurd HA.out (by simp [Aj.l0])
       | succ k2 =>
        have H := HA.out; clear HA; simp only [Aj.l0] at H; by_cases c16 : x7_2 ≥ 0
        ·rw [if_pos c16] at H; have c16b0 : decide (0 ≤ x7_2) = true := decide_eq_true c16; clear c16; by_cases c17 : 0 ≤ x7_2
         ·rw [if_pos c17] at H; have c17b0 : decide (0 ≤ x7_2) = true := decide_eq_true c17; clear c17; by_cases c18 : x7_2 < (l0_0.length : Int)
          ·rw [if_pos c18] at H; have c18b0 : decide (x7_2 < (l0_0.length : Int)) = true := decide_eq_true c18; clear c18; replace H := Option.bind_eq_some_iff.mp H; obtain ⟨t415, A190, H⟩ := H; replace H : (if t415 = 0 then (none) else ((Dn.f k2 (Co l0_0 x7_2) (Int.tmod x1_2 t415)).bind fun bt417 => (if x7_2 < (x22_2.length : Int) then (Aj.l0 k2 (wrap64 (Int.tdiv x1_2 t415)) (wrap64 (x7_2 - 1)) (x22_2.set (x7_2 : Int).toNat ((bt417.1) % 256)) l0_0 a0_1) else (none)))) = some (r1, r2) := H; have A19 := zk A190; clear A190; by_cases c20 : t415 = 0
           ·rw [if_pos c20] at H; cases H
           ·rw [if_neg c20] at H; have c20b0 : (t415 == 0) = false := beq_eq_false_iff_ne.mpr c20; have c20b1 : (t415 != 0) = true := bne_iff_ne.mpr c20; replace H := Option.bind_eq_some_iff.mp H; obtain ⟨⟨t417, t418⟩, A210, H⟩ := H; replace H : (if x7_2 < (x22_2.length : Int) then (Aj.l0 k2 (wrap64 (Int.tdiv x1_2 t415)) (wrap64 (x7_2 - 1)) (x22_2.set (x7_2 : Int).toNat ((t417) % 256)) l0_0 a0_1) else (none)) = some (r1, r2) := H; have A21 := zk A210; clear A210; by_cases c22 : x7_2 < (x22_2.length : Int)
            ·rw [if_pos c22] at H; have c22b0 : decide (x7_2 < (x22_2.length : Int)) = true := decide_eq_true c22; clear c22; obtain ⟨y419, hy419⟩ : ∃ y_ : List Int, y_ = (x22_2.set (x7_2 : Int).toNat ((t417) % 256)) := ⟨_, rfl⟩
             replace H : (Aj.l0 k2 (wrap64 (Int.tdiv x1_2 t415)) (wrap64 (x7_2 - 1)) y419 l0_0 a0_1) = some (r1, r2) := by first | (rw [hy419]; with_reducible exact H) | (have H2_ := (Option.bind_some _ _).symm.trans H; rw [hy419]; with_reducible exact H2_) | (have H2_ := (Option.bind_some _ _).symm.trans H; with_reducible exact H2_) | with_reducible exact H | (rw [hy419]; exact H) | exact H
             have Ny419 := zk hy419; clear hy419; have H' := zk H; clear H; have hcz24_0 : wr.cell? ⟨gb409, 0, none⟩ = some (.slice A0_0 l0_0.length c0_0) := zh BK409.out 0; have hcz24_1 : wr.cell? ⟨gb409, 1, none⟩ = some (.int .i64 a0_1) := zh BK409.out 1; have hfz24_0 := Ac BK409.out 0; have hfz24_1 := Ac BK409.out 1; have p414 : 0 ≤ (x7_2 : Int) := zT; have q414 : x7_2 < (l0_0.length : Int) := zT; obtain ⟨ad414, A414_0, c414_0, e414, hx414_0, hl414_0, hi414_0⟩ := Ha HR0_0.out x7_2 p414 q414; cases e414; replace hx414_0 := zcl HB.out hx414_0; have HR414_0 := zk hi414_0; have HC414_0 := zk hl414_0; clear hi414_0 hl414_0; replace p414 := eq_true p414; replace q414 := eq_true q414; try go_wp2_with (first | ((with_reducible refine Al (f := 42) rfl ?_); refine Bz (some 35) rfl rfl Tryz.func42 zz rfl #[.slice A414_0 (Co l0_0 x7_2).length c414_0] rfl zM ?_; (with_reducible refine (Cg.calls k2 _ _ (Co l0_0 x7_2) t415 _ ?side1 ?side2 A19.out).mono ?_); (case side1 => exact zc (Kd.C_below HR414_0.out HB.out)); (case side2 => exact HC414_0.out); rintro e w25 ⟨rfl, hb⟩; refine ⟨_, rfl, ?_⟩; replace HO_22 := zk (Kd.R_below (zr HO_22.out) hb); replace BK409 := zk (zbb BK409.out hb); replace HB := zs HB hb;  (try clear hb); (try clear hb2); (try clear hk); (try clear hi)))
             have n0_ := zk (Kd.R_drew HO_22.out); have n1_ := zk (Ay BK409.out); have n2_ := zk (Bv HB.out); clear HO_22; clear BK409; clear HB; have HO_22 := n0_; have BK409 := n1_; have HB := n2_; clear n0_ n1_ n2_; have p416 : 0 ≤ (x7_2 : Int) := zT; have q416 : x7_2 < (l0_0.length : Int) := zT; obtain ⟨ad416, A416_0, c416_0, e416, hx416_0, hl416_0, hi416_0⟩ := Ha HR0_0.out x7_2 p416 q416; have hw416_0 := hx416_0; obtain rfl : ad414 = ad416 := (by injection e416); replace hx416_0 := zcl HB.out hx416_0; have HR416_0 := zk hi416_0; have HC416_0 := zk hl416_0; clear hi416_0 hl416_0; replace p416 := eq_true p416; replace q416 := eq_true q416; refine Ew (n := 14) (S := fun w' => w'.cell? ⟨gb409, 0, none⟩ = some (.slice (some ad414) l0_0.length c0_0) ∧ w'.cell? ⟨gb409, 1, none⟩ = some (.int .i64 a0_1) ∧ w'.cell? (ad414.add (x7_2).toNat) = some (.slice A416_0 (Co l0_0 x7_2).length c416_0)) (ds := []) #[false, false, false, false, false, false, false, false, false, false, false, false, false, false] zz rfl rfl ⟨(Ag BK409.out 0).trans rfl, (Ag BK409.out 1).trans rfl, (zcl HB.out hw416_0)⟩ (fun hHeld => ?_); refine Cy Aj.tab8 Aj.bits8 (fun HT_ HW_ => ?_); generalize w25.drew = w26 at HO_22 BK409 HB HR416_0 hx416_0 hHeld ⊢; refine zp 0 (some 37) (v := ?_) (a' := ?_) (bz 14 1) rfl rfl HT_.out zz zQ ?_ ?_ ?_; rotate_left
             ·intro w'; go_simp; with_reducible rfl
             rotate_left
             ·simp only [zy]; rfl
             refine zp 2 (some 39) (v := ?_) (a' := ?_) (bz 14 5) rfl rfl HT_.out zz zQ ?_ ?_ ?_; rotate_left
             ·intro w'; go_simp; with_reducible rfl
             rotate_left
             ·simp only [zy]; rfl
             refine zp 5 (some 42) (v := ?_) (a' := ?_) (bz 14 37) rfl rfl HT_.out zz zQ ?_ ?_ ?_; rotate_left
             ·intro w'; go_simp; with_reducible rfl
             rotate_left
             ·simp only [zy]; rfl
             refine zp 6 (some 43) (v := ?_) (a' := ?_) (bz 14 101) rfl rfl HT_.out zz zQ ?_ ?_ ?_; rotate_left
             ·intro w'; go_simp; with_reducible rfl
             rotate_left
             ·simp only [zy]; rfl
             refine zp 7 (some 44) (v := ?_) (a' := ?_) (bz 14 229) rfl rfl HT_.out zz zQ ?_ ?_ ?_; rotate_left
             ·intro w'; go_simp; with_reducible rfl
             rotate_left
             ·simp only [zy]; rfl
             refine take_ (i := 1) (N := some 38) (v := ?_) (a' := ?_) (bz 14 231) rfl rfl (Bk HT_.out HW_.out zz) zQ (Or.inl ⟨by rfl, ?_⟩) hHeld ?_ ?_; rotate_left
             ·rintro w' ⟨s0, s1, s2⟩; go_simp; with_reducible rfl
             rotate_left
             ·simp only [zy]; rfl
             refine zp 3 (some 40) (v := ?_) (a' := ?_) (bz 14 239) rfl rfl HT_.out zz zQ ?_ ?_ ?_; rotate_left
             ·intro w'; go_simp; with_reducible rfl
             rotate_left
             ·simp only [zy]; rfl
             refine take_ (i := 4) (N := some 41) (v := ?_) (a' := ?_) (bz 14 255) rfl rfl (Bk HT_.out HW_.out zz) zQ (Or.inl ⟨by rfl, ?_⟩) hHeld ?_ ?_; rotate_left
             ·rintro w' ⟨s0, s1, s2⟩; go_simp; with_reducible rfl
             rotate_left
             ·simp only [zy]; rfl
             refine one_ (i := 8) (N := some 45) (bz 14 511) rfl rfl (Eh HT_.out zz) (by decide) (fun K hK => ?_); refine Gy Tryz.func54 zz rfl #[.slice A416_0 (Co l0_0 x7_2).length c416_0, .int .i64 (Int.tmod x1_2 t415)] (by rfl) rfl rfl zM ?_; with_reducible refine (Dn.calls k2 _ _ (Co l0_0 x7_2) (Int.tmod x1_2 t415) t417 t418 _ ?side1 ?side2 A21.out).mono ?_; (case side1 => exact zc (Kd.C_below HR416_0.out HB.out))
             (case side2 => exact HC416_0.out)
             rintro e w27 ⟨rfl, hb⟩; refine ⟨_, rfl, ?_⟩; have n0_ := zk (Kd.R_below (zr HO_22.out) hb); have n1_ := zk (zbb BK409.out hb); have n2_ := zs HB hb; clear HO_22; clear BK409; clear HB; have HO_22 := n0_; have BK409 := n1_; have HB := n2_; clear n0_ n1_ n2_; (try clear hb); (try clear hb2); (try clear hk); (try clear hi); refine hK.out _ _ ⟨(Ag BK409.out 0).trans rfl, (Ag BK409.out 1).trans rfl, (zcl HB.out hw416_0)⟩ (fun hHeld => ?_); clear hK K; refine Fi (a' := ?_) ?_ ?_; rotate_left
             ·show Act.put _ (some 45) _ = _; simp only [zy]; rfl
             refine zp 9 (some 36) (v := ?_) (a' := ?_) (bz 14 1023) rfl rfl HT_.out zz zQ ?_ ?_ ?_; rotate_left
             ·intro w'; go_simp; with_reducible rfl
             rotate_left
             ·simp only [zy]; rfl
             refine zp 10 (some 46) (v := ?_) (a' := ?_) (bz 14 2047) rfl rfl HT_.out zz zQ ?_ ?_ ?_; rotate_left
             ·intro w'; go_simp; with_reducible rfl
             rotate_left
             ·simp only [zy]; rfl
             refine zp 11 (some 47) (v := ?_) (a' := ?_) (bz 14 4095) rfl rfl HT_.out zz zQ ?_ ?_ ?_; rotate_left
             ·intro w'; go_simp; with_reducible rfl
             rotate_left
             ·simp only [zy]; rfl
             refine zp 12 (some 9) (v := ?_) (a' := ?_) (bz 14 8191) rfl rfl HT_.out zz zQ ?_ ?_ ?_; rotate_left
             ·intro w'; go_simp; with_reducible rfl
             rotate_left
             ·simp only [zy]; rfl
             refine zp 13 (some 10) (v := ?_) (a' := ?_) (bz 14 16383) rfl rfl HT_.out zz zQ ?_ ?_ ?_; rotate_left
             ·intro w'; go_simp; with_reducible rfl
             rotate_left
             ·simp only [zy]; rfl
             refine Gg (Ei HT_.out zz) ?_; have p23 : 0 ≤ (x7_2 : Int) := zT; have q23 : (x7_2 : Int) < ((x22_2.length : Int) : Int) := zT; obtain ⟨go23, co23, eo23, gb23, gl23, cl23, HG23⟩ := Kd.R_form HO_22.out (by omega)
             (first | cases eo23 | (injection eo23 with ea_ en_ ec_; (first | subst ea_ | (injection ea_ with ea_; subst ea_)); subst ec_; clear en_))
             have GB23 := zk gb23; have GG23 := zk HG23; clear gb23 gl23 HG23; obtain ⟨hx23_0, hf23_0⟩ := Kd.R_celln 0 HO_22.out (x7_2 : Int) p23 q23; replace p23 := eq_true p23; replace q23 := eq_true q23; obtain ⟨hy28_, hz28_⟩ := Kd.R_celln 0 HO_22.out (x7_2 : Int) zT zT; have HP28 := Kd.R_putg HO_22.out (x7_2 : Int) ((t417) % 256); try go_wp2_with (first | ((with_reducible refine Ld (t := 5) (p := 52) rfl ?_); refine Jw (t := 5) (p := 52) (v := ?vo_w29) (w1 := (w27.setCell ⟨go23, (x7_2 : Int).toNat, none⟩ (.int .u8 ((t417) % 256)))) ?hg ?ho ?hn ?hr ?_; (case ho => rfl); (case hg => rfl); (case hn => rfl); (case hr => first | (go_simp; done) | (go_simp; rfl)); intro w29 hw; have hg : w27.grownBy w29 (some go23) := (by rw [hw]; exact HP28.2); have hp_ : Kd.R (Kd.int .u8) 5 w29 w.heap.size (fun _ => True) (.slice (some ⟨go23, 0, none⟩) x22_2.length co15) y419 := (by rw [hw, Ny419.out]; exact HP28.1); clear HP28; replace BK409 := zk (Cp (g := gb409) (o := .cells #[.slice (some ad414) l0_0.length c0_0, .int .i64 a0_1] 44 (0, 0)) (zb BK409.out) hg (Kd.R_ne HO_22.out BK409.out (by decide))); replace HO_22 := zk (hp_); replace HB := zk ((by rw [hw]; exact Gv (HB.out) GB23.out : Below w.heap.size w w29));  clear hg hw hp_))
             (try simp only [← hl22_2])
             go_roundg k2
             case measure => have := HJ2.out; have := HK2.out; omega
             case rel => exact ⟨(wrap64 (Int.tdiv x1_2 t415)), (wrap64 (x7_2 - 1)), (y419), zR, zR, H', ⟨by have := HJ2.out; have := HK2.out; omega⟩, ⟨by (try simp only [hl22_2]); (with_reducible repeat (first | apply zA | apply zB | apply zC)); exact HO_22.out⟩, ⟨by (try simp only [hl22_2]); exact zb BK409.out⟩, ⟨zU HB.out⟩⟩
            ·rw [if_neg c22] at H; cases H
          ·rw [if_neg c18] at H; cases H
         ·rw [if_neg c17] at H; cases H
        ·rw [if_neg c16] at H; have c16b0 : decide (0 ≤ x7_2) = false := decide_eq_false c16; clear c16; simp only [Option.some.injEq, Prod.mk.injEq] at H; obtain ⟨rfl, rfl⟩ := H; go_wp2
         go_ret2
         exact ⟨_, ze, by (with_reducible repeat (first | apply zA | apply zB | apply zC)); exact HO_22.out, zU HB.out⟩
     ·rw [if_neg c11] at H; cases H
    ·rw [if_neg c10] at H; cases H
end Go.Proofs.I
