/- Words and walks of this claim, of the text Ix14. -/
import Derived.Test.YtoljcfocgaonpaaGreatKaQW0
import Derived.Test.YtoljcfocgaonpaaGreatKaIx0
import Derived.Test.YtoljcfocgaonpaaGreatKaIx12
import Derived.Test.YtoljcfocgaonpaaGreatKaIx13
namespace Go.Proofs.I
open Go.RowKit Go.Proofs.Zw.PrintWords Go.Proofs.Zw.PrintLast Go.Proofs.Zw.PrintMore
set_option maxHeartbeats 8000000
set_option maxRecDepth 100000
attribute [local go_sem] Dw Ec El Es Dd Dj Dr Eb
set_option linter.unusedVariables false
set_option linter.unusedSimpArgs false
def Az.l0 : Nat → Int → List (S44) → Option (Bool)
 | 0, _, _ => none
 | k + 1, x3, x398000 => if x3 < (x398000.length : Int) then (if 0 ≤ x3 then ((Af.f k ((Ad x398000 x3).f0) ((Ad x398000 x3).f1)).bind fun t399 => (if t399 = true then ((Au.f k x398000 x3).bind fun t400 => (if t400 = true then (some false) else (Az.l0 k (wrap64 (x3 + 1)) x398000))) else (some false))) else (none)) else (some true)
def Az.f (k : Nat) (l0_0 : List (S44)) : Option (Bool) := if (l0_0.length : Int) > 32 then (some false) else (Az.l0 k 0 l0_0)
theorem Az.calls (k : Nat) (A0_0 : Option Addr) (c0_0 : Nat) (l0_0 : List (S44)) (r : Bool) (w : World) (hr0_0 : Kd.C k44 w A0_0 l0_0.length l0_0) (hc0_0 : l0_0.length ≤ c0_0) (h : Az.f k l0_0 = some r) :
 Calls Tryz.prog 17 #[.agg #[.slice A0_0 l0_0.length c0_0]] w fun e w' => e = .returned (.bool r) ∧ Below w.heap.size w w' := by
 have hu24 := Tryz.underlying24; have hu44 := Tryz.underlying44; have HR0_0 := zk hr0_0; have HC0_0 := zk hc0_0; clear hr0_0 hc0_0; have HB := zk (Below.refl w.heap.size w); have H : (if (l0_0.length : Int) > 32 then (some false) else (Az.l0 k 0 l0_0)) = some r := h; clear h; by_cases c2 : (l0_0.length : Int) > 32
 ·rw [if_pos c2] at H; have c2b0 : decide (32 < (l0_0.length : Int)) = true := decide_eq_true c2; have c2b1 : decide (32 < l0_0.length) = true := decide_eq_true (by omega); clear c2; obtain rfl := Option.some.inj H; go_enter Tryz.func17, Tryz.ntmps17
  go_wp2_with (first | ((with_reducible refine Bd (N := 1) rfl ?_); refine Bb ?hg (N := 1) ?hd (cs := #[.slice A0_0 l0_0.length c0_0]) (t := 24) ?hr ?_; (case hd => rfl); (case hg => rfl); (case hr => first | (go_simp; done) | (go_simp; rfl)); intro gb397 hg w3 hbox hb; have BK397 := zk (hbox); have GE397 := zk ((zg hg HB.out : w.heap.size ≤ gb397)); replace HB := zs HB hb;  clear hb hbox hg; have hcz4_0 : w3.cell? ⟨gb397, 0, none⟩ = some (.slice A0_0 l0_0.length c0_0) := zh BK397.out 0; have hfz4_0 := Ac BK397.out 0))
  go_ret
  exact ⟨ze, zU HB.out⟩
 ·rw [if_neg c2] at H; have c2b0 : decide (32 < (l0_0.length : Int)) = false := decide_eq_false c2; have c2b1 : decide (32 < l0_0.length) = false := decide_eq_false (by omega); clear c2; have H' := zk H; clear H; go_enter Tryz.func17, Tryz.ntmps17
  go_wp2_with (first | ((with_reducible refine Bd (N := 1) rfl ?_); refine Bb ?hg (N := 1) ?hd (cs := #[.slice A0_0 l0_0.length c0_0]) (t := 24) ?hr ?_; (case hd => rfl); (case hg => rfl); (case hr => first | (go_simp; done) | (go_simp; rfl)); intro gb397 hg w5 hbox hb; have BK397 := zk (hbox); have GE397 := zk ((zg hg HB.out : w.heap.size ≤ gb397)); replace HB := zs HB hb;  clear hb hbox hg; have hcz6_0 : w5.cell? ⟨gb397, 0, none⟩ = some (.slice A0_0 l0_0.length c0_0) := zh BK397.out 0; have hfz6_0 := Ac BK397.out 0))
  go_loopg [3] k (fun kq v3 w' => ∃ (x3_1 : Int), v3 = .int .i64 x3_1 ∧ Aa (Az.l0 kq x3_1 l0_0 = some r) ∧ Aa (kq ≤ k) ∧ Aa (w'.heap[gb397]? = some (.cells #[(.slice A0_0 l0_0.length c0_0)] 24 (0, 0))) ∧ Aa (Below w.heap.size w w'))
  case atStart => exact ⟨(0), zR, H', ⟨Nat.le_refl _⟩, ⟨zb BK397.out⟩, ⟨zU HB.out⟩⟩
  case round =>
   clear H'; (try clear c1); (try clear c2); (try clear c2b0); (try clear c2b1); (try clear p2); (try clear hcz4_0); (try clear hcz6_0); (try clear hfz4_0); (try clear hfz6_0); obtain ⟨x3_1, rfl, HA, HK1, BK397, HB⟩ := hrel
   cases gk with
   | zero => exact absurd HA.out (by simp [Az.l0])
   | succ k1 =>
    have H := HA.out; clear HA; simp only [Az.l0] at H; by_cases c7 : x3_1 < (l0_0.length : Int)
    ·rw [if_pos c7] at H; have c7b0 : decide (x3_1 < (l0_0.length : Int)) = true := decide_eq_true c7; clear c7; by_cases c8 : 0 ≤ x3_1
     ·rw [if_pos c8] at H; have c8b0 : decide (0 ≤ x3_1) = true := decide_eq_true c8; clear c8; replace H := Option.bind_eq_some_iff.mp H; obtain ⟨t399, A90, H⟩ := H; replace H : (if t399 = true then ((Au.f k1 l0_0 x3_1).bind fun t400 => (if t400 = true then (some false) else (Az.l0 k1 (wrap64 (x3_1 + 1)) l0_0))) else (some false)) = some r := H; have A9 := zk A90; clear A90; by_cases c10 : t399 = true
      ·subst c10; have H1 : ((Au.f k1 l0_0 x3_1).bind fun t400 => (if t400 = true then (some false) else (Az.l0 k1 (wrap64 (x3_1 + 1)) l0_0))) = some r := by rw [if_pos rfl] at H; exact H
       clear H; have H := H1; clear H1; replace H := Option.bind_eq_some_iff.mp H; obtain ⟨t400, A110, H⟩ := H; replace H : (if t400 = true then (some false) else (Az.l0 k1 (wrap64 (x3_1 + 1)) l0_0)) = some r := H; have A11 := zk A110; clear A110; by_cases c12 : t400 = true
       ·subst c12; have H1 : (some false) = some r := by rw [if_pos rfl] at H; exact H
        clear H; have H := H1; clear H1; obtain rfl := Option.some.inj H; have hcz13_0 : wr.cell? ⟨gb397, 0, none⟩ = some (.slice A0_0 l0_0.length c0_0) := zh BK397.out 0; have hfz13_0 := Ac BK397.out 0; have p398 : 0 ≤ (x3_1 : Int) := zT; have q398 : x3_1 < (l0_0.length : Int) := zT; obtain ⟨ad398, A398_0, c398_0, e398, hx398_0, hx398_1, hl398_0, hi398_0⟩ := Cz HR0_0.out x3_1 p398 q398; cases e398; replace hx398_0 := zcl HB.out hx398_0; replace hx398_1 := zcl HB.out hx398_1; have HR398_0 := zk hi398_0; have HC398_0 := zk hl398_0; clear hi398_0 hl398_0; replace p398 := eq_true p398; replace q398 := eq_true q398; go_wp2_with (first | ((with_reducible refine Al (f := 30) rfl ?_); refine Bz (some 20) rfl rfl Tryz.func30 zz rfl #[.agg #[.slice A398_0 ((Ad l0_0 x3_1).f0).length c398_0, .int .i64 ((Ad l0_0 x3_1).f1)]] rfl zM ?_; (with_reducible refine (Af.calls k1 _ _ ((Ad l0_0 x3_1).f0) ((Ad l0_0 x3_1).f1) true _ ?side1 ?side2 A9.out).mono ?_); (case side1 => exact zc (Kd.C_below HR398_0.out HB.out)); (case side2 => exact HC398_0.out); rintro e w14 ⟨rfl, hb⟩; refine ⟨_, rfl, ?_⟩; replace BK397 := zk (zbb BK397.out hb); replace HB := zs HB hb;  (try clear hb); (try clear hb2); (try clear hk); (try clear hi); have hcz15_0 : w14.cell? ⟨gb397, 0, none⟩ = some (.slice (some ad398) l0_0.length c0_0) := zh BK397.out 0; have hfz15_0 := Ac BK397.out 0) | (go_at_call 31; (with_reducible refine (Au.calls k1 _ _ l0_0 x3_1 true _ ?side1 ?side2 A11.out).mono ?_); (case side1 => exact zc (Kd.C_below HR0_0.out HB.out)); (case side2 => exact HC0_0.out); rintro e w16 ⟨rfl, hb⟩; replace BK397 := zk (zbb BK397.out hb); replace HB := zs HB hb;  (try clear hb); (try clear hb2); (try clear hk); (try clear hi)))
        go_ret
        exact ⟨ze, zU HB.out⟩
       ·replace c12 := Bool.eq_false_iff.mpr c12; subst c12; have H1 : (Az.l0 k1 (wrap64 (x3_1 + 1)) l0_0) = some r := by rw [if_neg (show ¬ (false = true) by decide)] at H; exact H
        clear H; have H := H1; clear H1; have H' := zk H; clear H; have hcz17_0 : wr.cell? ⟨gb397, 0, none⟩ = some (.slice A0_0 l0_0.length c0_0) := zh BK397.out 0; have hfz17_0 := Ac BK397.out 0; have p398 : 0 ≤ (x3_1 : Int) := zT; have q398 : x3_1 < (l0_0.length : Int) := zT; obtain ⟨ad398, A398_0, c398_0, e398, hx398_0, hx398_1, hl398_0, hi398_0⟩ := Cz HR0_0.out x3_1 p398 q398; cases e398; replace hx398_0 := zcl HB.out hx398_0; replace hx398_1 := zcl HB.out hx398_1; have HR398_0 := zk hi398_0; have HC398_0 := zk hl398_0; clear hi398_0 hl398_0; replace p398 := eq_true p398; replace q398 := eq_true q398; go_wp2_with (first | ((with_reducible refine Al (f := 30) rfl ?_); refine Bz (some 20) rfl rfl Tryz.func30 zz rfl #[.agg #[.slice A398_0 ((Ad l0_0 x3_1).f0).length c398_0, .int .i64 ((Ad l0_0 x3_1).f1)]] rfl zM ?_; (with_reducible refine (Af.calls k1 _ _ ((Ad l0_0 x3_1).f0) ((Ad l0_0 x3_1).f1) true _ ?side1 ?side2 A9.out).mono ?_); (case side1 => exact zc (Kd.C_below HR398_0.out HB.out)); (case side2 => exact HC398_0.out); rintro e w18 ⟨rfl, hb⟩; refine ⟨_, rfl, ?_⟩; replace BK397 := zk (zbb BK397.out hb); replace HB := zs HB hb;  (try clear hb); (try clear hb2); (try clear hk); (try clear hi); have hcz19_0 : w18.cell? ⟨gb397, 0, none⟩ = some (.slice (some ad398) l0_0.length c0_0) := zh BK397.out 0; have hfz19_0 := Ac BK397.out 0) | (go_at_call 31; (with_reducible refine (Au.calls k1 _ _ l0_0 x3_1 false _ ?side1 ?side2 A11.out).mono ?_); (case side1 => exact zc (Kd.C_below HR0_0.out HB.out)); (case side2 => exact HC0_0.out); rintro e w20 ⟨rfl, hb⟩; replace BK397 := zk (zbb BK397.out hb); replace HB := zs HB hb;  (try clear hb); (try clear hb2); (try clear hk); (try clear hi)))
        go_roundg k1
        case measure => have := HK1.out; omega
        case rel => exact ⟨(wrap64 (x3_1 + 1)), zR, H', ⟨by have := HK1.out; omega⟩, ⟨zb BK397.out⟩, ⟨zU HB.out⟩⟩
      ·replace c10 := Bool.eq_false_iff.mpr c10; subst c10; have H1 : (some false) = some r := by rw [if_neg (show ¬ (false = true) by decide)] at H; exact H
       clear H; have H := H1; clear H1; obtain rfl := Option.some.inj H; have hcz21_0 : wr.cell? ⟨gb397, 0, none⟩ = some (.slice A0_0 l0_0.length c0_0) := zh BK397.out 0; have hfz21_0 := Ac BK397.out 0; have p398 : 0 ≤ (x3_1 : Int) := zT; have q398 : x3_1 < (l0_0.length : Int) := zT; obtain ⟨ad398, A398_0, c398_0, e398, hx398_0, hx398_1, hl398_0, hi398_0⟩ := Cz HR0_0.out x3_1 p398 q398; cases e398; replace hx398_0 := zcl HB.out hx398_0; replace hx398_1 := zcl HB.out hx398_1; have HR398_0 := zk hi398_0; have HC398_0 := zk hl398_0; clear hi398_0 hl398_0; replace p398 := eq_true p398; replace q398 := eq_true q398; go_wp2_with (first | ((with_reducible refine Al (f := 30) rfl ?_); refine Bz (some 20) rfl rfl Tryz.func30 zz rfl #[.agg #[.slice A398_0 ((Ad l0_0 x3_1).f0).length c398_0, .int .i64 ((Ad l0_0 x3_1).f1)]] rfl zM ?_; (with_reducible refine (Af.calls k1 _ _ ((Ad l0_0 x3_1).f0) ((Ad l0_0 x3_1).f1) false _ ?side1 ?side2 A9.out).mono ?_); (case side1 => exact zc (Kd.C_below HR398_0.out HB.out)); (case side2 => exact HC398_0.out); rintro e w22 ⟨rfl, hb⟩; refine ⟨_, rfl, ?_⟩; replace BK397 := zk (zbb BK397.out hb); replace HB := zs HB hb;  (try clear hb); (try clear hb2); (try clear hk); (try clear hi)))
       go_ret
       exact ⟨ze, zU HB.out⟩
     ·rw [if_neg c8] at H; cases H
    ·rw [if_neg c7] at H; have c7b0 : decide (x3_1 < (l0_0.length : Int)) = false := decide_eq_false c7; clear c7; obtain rfl := Option.some.inj H; have hcz23_0 : wr.cell? ⟨gb397, 0, none⟩ = some (.slice A0_0 l0_0.length c0_0) := zh BK397.out 0; have hfz23_0 := Ac BK397.out 0; go_wp2
     go_ret
     exact ⟨ze, zU HB.out⟩
end Go.Proofs.I
