/- Words and walks of this claim, of the text Ix21. -/
import Derived.Test.YtoljcfocgaonpaaGreatKaQW0
import Derived.Test.YtoljcfocgaonpaaGreatKaIx0
import Derived.Test.YtoljcfocgaonpaaGreatKaIx1
namespace Go.Proofs.I
open Go.RowKit Go.Proofs.Zw.PrintWords Go.Proofs.Zw.PrintLast Go.Proofs.Zw.PrintMore
set_option maxHeartbeats 8000000
set_option maxRecDepth 100000
attribute [local go_sem] Dw Ec El Es Dd Dj Dr Eb
set_option linter.unusedVariables false
set_option linter.unusedSimpArgs false
attribute [local go_sem high] eqA58
def Bs.l0 : Nat → List (S58) → List (S58) → Int → Option (Bool)
 | 0, _, _, _ => none
 | k + 1, x0, x1, x5 => if x5 < (x0.length : Int) then (if 0 ≤ x5 then (if x5 < (x1.length : Int) then (if (!(((Ch x0 x5).f0) == ((Ch x1 x5).f0)) || (!(((Ch x0 x5).f1) == ((Ch x1 x5).f1)))) = true then (some false) else (Bs.l0 k x0 x1 (wrap64 (x5 + 1)))) else (none)) else (none)) else (some true)
def Bs.f (k : Nat) (l0 : List (S58)) (l1 : List (S58)) : Option (Bool) := if (l0.length : Int) = (l1.length : Int) then (Bs.l0 k l0 l1 0) else (some false)
theorem Bs.calls (k : Nat) (A0 : Option Addr) (c0 : Nat) (l0 : List (S58)) (A1 : Option Addr) (c1 : Nat) (l1 : List (S58)) (r : Bool) (w : World) (hr0 : Kd.C k58 w A0 l0.length l0) (hc0 : l0.length ≤ c0) (hr1 : Kd.C k58 w A1 l1.length l1) (hc1 : l1.length ≤ c1) (h : Bs.f k l0 l1 = some r) :
 Calls Tryz.prog 43 #[.slice A0 l0.length c0, .slice A1 l1.length c1] w fun e w' => e = .returned (.bool r) ∧ Eg w w' := by
 have hu58 := Tryz.underlying58; have HR0 := zk hr0; have HC0 := zk hc0; clear hr0 hc0; have HR1 := zk hr1; have HC1 := zk hc1; clear hr1 hc1; have H : (if (l0.length : Int) = (l1.length : Int) then (Bs.l0 k l0 l1 0) else (some false)) = some r := h; clear h; by_cases c3 : (l0.length : Int) = (l1.length : Int)
 ·rw [if_pos c3] at H; have c3b0 : ((l0.length : Int) == (l1.length : Int)) = true := beq_iff_eq.mpr c3; have c3b1 : ((l0.length : Int) != (l1.length : Int)) = false := bne_eq_false_iff_eq.mpr c3; have c3b2 : (l0.length == l1.length) = true := by first | simpa using c3 | (simp at c3 ⊢; omega)
  clear c3; have H' := zk H; clear H; go_enter Tryz.func43, Tryz.ntmps43
  go_wp2
  repeat (go_quiet (fail); try go_wp2)
  go_loopg [5] k (fun kq v5 w' => ∃ (x5_1 : Int), v5 = .int .i64 x5_1 ∧ Aa (Bs.l0 kq l0 l1 x5_1 = some r) ∧ Aa (kq ≤ k) ∧ Eg w w')
  case atStart => exact ⟨(0), zR, H', ⟨Nat.le_refl _⟩, by repeat (first | exact Eg.refl _ | apply Eg.step)⟩
  case round =>
   clear H'; (try clear c1); (try clear p2); (try clear c3); (try clear c3b0); (try clear c3b1); (try clear c3b2); obtain ⟨x5_1, rfl, HA, HK1, ⟨m1, rfl⟩⟩ := hrel
   cases gk with
   | zero => exact absurd HA.out (by simp [Bs.l0])
   | succ k1 =>
    have H := HA.out; clear HA; simp only [Bs.l0] at H; by_cases c4 : x5_1 < (l0.length : Int)
    ·rw [if_pos c4] at H; have c4b0 : decide (x5_1 < (l0.length : Int)) = true := decide_eq_true c4; clear c4; by_cases c5 : 0 ≤ x5_1
     ·rw [if_pos c5] at H; have c5b0 : decide (0 ≤ x5_1) = true := decide_eq_true c5; clear c5; by_cases c6 : x5_1 < (l1.length : Int)
      ·rw [if_pos c6] at H; have c6b0 : decide (x5_1 < (l1.length : Int)) = true := decide_eq_true c6; clear c6; by_cases c7 : (!(((Ch l0 x5_1).f0) == ((Ch l1 x5_1).f0)) || (!(((Ch l0 x5_1).f1) == ((Ch l1 x5_1).f1)))) = true
       ·rw [if_pos c7] at H; have c7b0 : (!(((Ch l0 x5_1).f0) == ((Ch l1 x5_1).f0)) || (!(((Ch l0 x5_1).f1) == ((Ch l1 x5_1).f1)))) = true := c7; clear c7; obtain rfl := Option.some.inj H; have p479 : 0 ≤ (x5_1 : Int) := zT; have q479 : x5_1 < (l0.length : Int) := zT; obtain ⟨ad479, e479, hx479_0, hx479_1⟩ := Eo HR0.out x5_1 p479 q479; cases e479; replace p479 := eq_true p479; replace q479 := eq_true q479; have p480 : 0 ≤ (x5_1 : Int) := zT; have q480 : x5_1 < (l1.length : Int) := zT; obtain ⟨ad480, e480, hx480_0, hx480_1⟩ := Eo HR1.out x5_1 p480 q480; cases e480; replace p480 := eq_true p480; replace q480 := eq_true q480; go_wp2
        repeat (go_quiet (fail); try go_wp2)
        go_ret
        exact ⟨by first | rfl | (simp; done) | (simp [*]; done), by repeat (first | exact Eg.refl _ | apply Eg.step)⟩
       ·rw [if_neg c7] at H; have c7b0 : (!(((Ch l0 x5_1).f0) == ((Ch l1 x5_1).f0)) || (!(((Ch l0 x5_1).f1) == ((Ch l1 x5_1).f1)))) = false := by simpa using c7
        clear c7; have H' := zk H; clear H; have p479 : 0 ≤ (x5_1 : Int) := zT; have q479 : x5_1 < (l0.length : Int) := zT; obtain ⟨ad479, e479, hx479_0, hx479_1⟩ := Eo HR0.out x5_1 p479 q479; cases e479; replace p479 := eq_true p479; replace q479 := eq_true q479; have p480 : 0 ≤ (x5_1 : Int) := zT; have q480 : x5_1 < (l1.length : Int) := zT; obtain ⟨ad480, e480, hx480_0, hx480_1⟩ := Eo HR1.out x5_1 p480 q480; cases e480; replace p480 := eq_true p480; replace q480 := eq_true q480; go_wp2
        repeat (go_quiet (fail); try go_wp2)
        go_roundg k1
        case measure => have := HK1.out; omega
        case rel => exact ⟨(wrap64 (x5_1 + 1)), zR, H', ⟨by have := HK1.out; omega⟩, by repeat (first | exact Eg.refl _ | apply Eg.step)⟩
      ·rw [if_neg c6] at H; cases H
     ·rw [if_neg c5] at H; cases H
    ·rw [if_neg c4] at H; have c4b0 : decide (x5_1 < (l0.length : Int)) = false := decide_eq_false c4; clear c4; obtain rfl := Option.some.inj H; go_wp2
     repeat (go_quiet (fail); try go_wp2)
     go_ret
     exact ⟨by first | rfl | (simp; done) | (simp [*]; done), by repeat (first | exact Eg.refl _ | apply Eg.step)⟩
 ·rw [if_neg c3] at H; have c3b0 : ((l0.length : Int) == (l1.length : Int)) = false := beq_eq_false_iff_ne.mpr c3; have c3b1 : ((l0.length : Int) != (l1.length : Int)) = true := bne_iff_ne.mpr c3; have c3b2 : (l0.length == l1.length) = false := by first | simpa using c3 | (simp at c3 ⊢; omega)
  obtain rfl := Option.some.inj H; go_enter Tryz.func43, Tryz.ntmps43
  go_wp2
  repeat (go_quiet (fail); try go_wp2)
  go_ret
  exact ⟨by first | rfl | (simp; done) | (simp [*]; done), by repeat (first | exact Eg.refl _ | apply Eg.step)⟩
mutual
def As.j0 : Nat → Bool → List (List (S58)) → Int → List (List (S58)) → Int → Option (Bool)
 | 0, _, _, _, _, _ => none
 | k + 1, x19, x482000, x482001, x483000, x483001 => if x19 = true then (some false) else (As.l0 k 0 x482000 x482001 x483000 x483001)
def As.l0 : Nat → Int → List (List (S58)) → Int → List (List (S58)) → Int → Option (Bool)
 | 0, _, _, _, _, _ => none
 | k + 1, x5, x482000, x482001, x483000, x483001 => if x5 < (x482000.length : Int) then (if 0 ≤ x5 then (if x5 < (x483000.length : Int) then ((Bs.f k (Co x482000 x5) (Co x483000 x5)).bind fun t485 => (if t485 = true then (As.l0 k (wrap64 (x5 + 1)) x482000 x482001 x483000 x483001) else (some false))) else (none)) else (none)) else (some true)
end
def As.f (k : Nat) (l0_0 : List (List (S58))) (a0_1 : Int) (l1_0 : List (List (S58))) (a1_1 : Int) : Option (Bool) := if a0_1 = a1_1 then (As.j0 k ((l0_0.length : Int) != (l1_0.length : Int)) l0_0 a0_1 l1_0 a1_1) else (As.j0 k true l0_0 a0_1 l1_0 a1_1)
theorem As.calls (k : Nat) (A0_0 : Option Addr) (c0_0 : Nat) (l0_0 : List (List (S58))) (a0_1 : Int) (A1_0 : Option Addr) (c1_0 : Nat) (l1_0 : List (List (S58))) (a1_1 : Int) (r : Bool) (w : World) (hr0_0 : Kd.C (Kd.slice 58 k58) w A0_0 l0_0.length l0_0) (hc0_0 : l0_0.length ≤ c0_0) (hr1_0 : Kd.C (Kd.slice 58 k58) w A1_0 l1_0.length l1_0) (hc1_0 : l1_0.length ≤ c1_0) (h : As.f k l0_0 a0_1 l1_0 a1_1 = some r) :
 Calls Tryz.prog 23 #[.agg #[.slice A0_0 l0_0.length c0_0, .int .i64 a0_1], .agg #[.slice A1_0 l1_0.length c1_0, .int .i64 a1_1]] w fun e w' => e = .returned (.bool r) ∧ Below w.heap.size w w' := by
 have hu44 := Tryz.underlying44; have HR0_0 := zk hr0_0; have HC0_0 := zk hc0_0; clear hr0_0 hc0_0; have HR1_0 := zk hr1_0; have HC1_0 := zk hc1_0; clear hr1_0 hc1_0; have HB := zk (Below.refl w.heap.size w); have H : (if a0_1 = a1_1 then (As.j0 k ((l0_0.length : Int) != (l1_0.length : Int)) l0_0 a0_1 l1_0 a1_1) else (As.j0 k true l0_0 a0_1 l1_0 a1_1)) = some r := h; clear h; have HC3 := zk H; clear H; go_enter Tryz.func23, Tryz.ntmps23
 go_upto_region 1 with (first | ((with_reducible refine Bd (N := 2) rfl ?_); (try (refine Du (by rfl) ?_; dsimp only)); refine Bb ?hg (N := 2) ?hd (cs := #[.slice A0_0 l0_0.length c0_0, .int .i64 a0_1]) (t := 44) ?hr ?_; (case hd => rfl); (case hg => rfl); (case hr => first | (go_simp; done) | (go_simp; rfl)); intro gb481 hg w4 hbox hb; have BK481 := zk (hbox); have GE481 := zk ((zg hg HB.out : w.heap.size ≤ gb481)); replace HB := zs HB hb;  clear hb hbox hg) | ((with_reducible refine Bd (N := 3) rfl ?_); (try (refine Du (by rfl) ?_; dsimp only)); refine Bb ?hg (N := 3) ?hd (cs := #[.slice A1_0 l1_0.length c1_0, .int .i64 a1_1]) (t := 44) ?hr ?_; (case hd => rfl); (case hg => rfl); (case hr => first | (go_simp; done) | (go_simp; rfl)); intro gb482 hg w5 hbox hb; have BK482 := zk (hbox); have GE482 := zk ((zg hg HB.out : w.heap.size ≤ gb482)); replace HB := zs HB hb; have NB481_482 := zk ((zlt hg BK481.out : gb481 ≠ gb482)); have NB482_481 := zk ((zgt hg BK481.out : gb482 ≠ gb481)); replace BK481 := zk (zbb BK481.out hb);  clear hb hbox hg))
 repeat (go_quiet (first | ((with_reducible refine Bd (N := 2) rfl ?_); (try (refine Du (by rfl) ?_; dsimp only)); refine Bb ?hg (N := 2) ?hd (cs := #[.slice A0_0 l0_0.length c0_0, .int .i64 a0_1]) (t := 44) ?hr ?_; (case hd => rfl); (case hg => rfl); (case hr => first | (go_simp; done) | (go_simp; rfl)); intro gb481 hg w4 hbox hb; have BK481 := zk (hbox); have GE481 := zk ((zg hg HB.out : w.heap.size ≤ gb481)); replace HB := zs HB hb;  clear hb hbox hg) | ((with_reducible refine Bd (N := 3) rfl ?_); (try (refine Du (by rfl) ?_; dsimp only)); refine Bb ?hg (N := 3) ?hd (cs := #[.slice A1_0 l1_0.length c1_0, .int .i64 a1_1]) (t := 44) ?hr ?_; (case hd => rfl); (case hg => rfl); (case hr => first | (go_simp; done) | (go_simp; rfl)); intro gb482 hg w5 hbox hb; have BK482 := zk (hbox); have GE482 := zk ((zg hg HB.out : w.heap.size ≤ gb482)); replace HB := zs HB hb; have NB481_482 := zk ((zlt hg BK481.out : gb481 ≠ gb482)); have NB482_481 := zk ((zgt hg BK481.out : gb482 ≠ gb481)); replace BK481 := zk (zbb BK481.out hb);  clear hb hbox hg)); go_upto_region 1 with (first | ((with_reducible refine Bd (N := 2) rfl ?_); (try (refine Du (by rfl) ?_; dsimp only)); refine Bb ?hg (N := 2) ?hd (cs := #[.slice A0_0 l0_0.length c0_0, .int .i64 a0_1]) (t := 44) ?hr ?_; (case hd => rfl); (case hg => rfl); (case hr => first | (go_simp; done) | (go_simp; rfl)); intro gb481 hg w4 hbox hb; have BK481 := zk (hbox); have GE481 := zk ((zg hg HB.out : w.heap.size ≤ gb481)); replace HB := zs HB hb;  clear hb hbox hg) | ((with_reducible refine Bd (N := 3) rfl ?_); (try (refine Du (by rfl) ?_; dsimp only)); refine Bb ?hg (N := 3) ?hd (cs := #[.slice A1_0 l1_0.length c1_0, .int .i64 a1_1]) (t := 44) ?hr ?_; (case hd => rfl); (case hg => rfl); (case hr => first | (go_simp; done) | (go_simp; rfl)); intro gb482 hg w5 hbox hb; have BK482 := zk (hbox); have GE482 := zk ((zg hg HB.out : w.heap.size ≤ gb482)); replace HB := zs HB hb; have NB481_482 := zk ((zlt hg BK481.out : gb481 ≠ gb482)); have NB482_481 := zk ((zgt hg BK481.out : gb482 ≠ gb481)); replace BK481 := zk (zbb BK481.out hb);  clear hb hbox hg)))
 (try simp only [Act.put, List.setIfInBounds_toArray, List.set_cons_zero, List.set_cons_succ])
 go_cut [19] (fun v19 wc => ∃ (kq : Nat) (x19_2 : Bool), v19 = .bool x19_2 ∧ Aa (As.j0 kq x19_2 l0_0 a0_1 l1_0 a1_1 = some r) ∧ Aa (kq ≤ k) ∧ Aa (wc.heap[gb481]? = some (.cells #[(.slice A0_0 l0_0.length c0_0), .int .i64 a0_1] 44 (0, 0))) ∧ Aa (wc.heap[gb482]? = some (.cells #[(.slice A1_0 l1_0.length c1_0), .int .i64 a1_1] 44 (0, 0))) ∧ Aa (Below w.heap.size w wc))
 case first =>
  have H := HC3.out; clear HC3; by_cases c6 : a0_1 = a1_1
  ·rw [if_pos c6] at H; have c6b0 : (a0_1 == a1_1) = true := beq_iff_eq.mpr c6; have c6b1 : (a0_1 != a1_1) = false := bne_eq_false_iff_eq.mpr c6; clear c6
   (first | rw [c6b0] | (simp only [Hu, Ka]; rw [c6b0]) | skip)
   have H' := zk H; clear H; have hnb7 := NB481_482.out; have hnc7 := NB482_481.out; have hcz8_0 : w5.cell? ⟨gb481, 0, none⟩ = some (.slice A0_0 l0_0.length c0_0) := zh BK481.out 0; have hcz8_1 : w5.cell? ⟨gb481, 1, none⟩ = some (.int .i64 a0_1) := zh BK481.out 1; have hfz8_0 := Ac BK481.out 0; have hfz8_1 := Ac BK481.out 1; have hcz9_0 : w5.cell? ⟨gb482, 0, none⟩ = some (.slice A1_0 l1_0.length c1_0) := zh BK482.out 0; have hcz9_1 : w5.cell? ⟨gb482, 1, none⟩ = some (.int .i64 a1_1) := zh BK482.out 1; have hfz9_0 := Ac BK482.out 0; have hfz9_1 := Ac BK482.out 1; go_wp2
   repeat (go_quiet (fail); try go_wp2)
   go_meet
   case rel => exact ⟨_, (((l0_0.length : Int) != (l1_0.length : Int))), zR, H', ⟨by first | omega | exact Nat.le_refl _⟩, ⟨zb BK481.out⟩, ⟨zb BK482.out⟩, ⟨zU HB.out⟩⟩
  ·rw [if_neg c6] at H; have c6b0 : (a0_1 == a1_1) = false := beq_eq_false_iff_ne.mpr c6; have c6b1 : (a0_1 != a1_1) = true := bne_iff_ne.mpr c6
   (first | rw [c6b0] | (simp only [Hu, Ka]; rw [c6b0]) | skip)
   have H' := zk H; clear H; have hnb10 := NB481_482.out; have hnc10 := NB482_481.out; have hcz11_0 : w5.cell? ⟨gb481, 0, none⟩ = some (.slice A0_0 l0_0.length c0_0) := zh BK481.out 0; have hcz11_1 : w5.cell? ⟨gb481, 1, none⟩ = some (.int .i64 a0_1) := zh BK481.out 1; have hfz11_0 := Ac BK481.out 0; have hfz11_1 := Ac BK481.out 1; have hcz12_0 : w5.cell? ⟨gb482, 0, none⟩ = some (.slice A1_0 l1_0.length c1_0) := zh BK482.out 0; have hcz12_1 : w5.cell? ⟨gb482, 1, none⟩ = some (.int .i64 a1_1) := zh BK482.out 1; have hfz12_0 := Ac BK482.out 0; have hfz12_1 := Ac BK482.out 1; go_wp2
   repeat (go_quiet (fail); try go_wp2)
   go_meet
   case rel => exact ⟨_, (true), zR, H', ⟨by first | omega | exact Nat.le_refl _⟩, ⟨zb BK481.out⟩, ⟨zb BK482.out⟩, ⟨zU HB.out⟩⟩
 case rest =>
  clear HC3; (try clear c1); (try clear c2); (try clear p2); (try clear c6); (try clear c6b0); (try clear c6b1); (try clear c7); (try clear c10); (try clear hcz11_0); (try clear hcz11_1); (try clear hcz12_0); (try clear hcz12_1); (try clear hcz8_0); (try clear hcz8_1); (try clear hcz9_0); (try clear hcz9_1); (try clear hfz11_0); (try clear hfz11_1); (try clear hfz12_0); (try clear hfz12_1); (try clear hfz8_0); (try clear hfz8_1); (try clear hfz9_0); (try clear hfz9_1); obtain ⟨kq, x19_2, rfl, HA, HJ2, BK481, BK482, HB⟩ := hcut; cases kq with
  | zero => exact absurd HA.out (by simp [As.j0])
  | succ kj2 =>
   have H := HA.out; clear HA; simp only [As.j0] at H; by_cases c13 : x19_2 = true
   ·subst c13; have H1 : (some false) = some r := by rw [if_pos rfl] at H; exact H
    clear H; have H := H1; clear H1; obtain rfl := Option.some.inj H; go_wp2
    repeat (go_quiet (fail); try go_wp2)
    go_ret
    exact ⟨ze, zU HB.out⟩
   ·replace c13 := Bool.eq_false_iff.mpr c13; subst c13; have H1 : (As.l0 kj2 0 l0_0 a0_1 l1_0 a1_1) = some r := by rw [if_neg (show ¬ (false = true) by decide)] at H; exact H
    clear H; have H := H1; clear H1; have H' := zk H; clear H; go_wp2
    repeat (go_quiet (fail); try go_wp2)
    go_loopg [5] kj2 (fun kq v5 w' => ∃ (x5_2 : Int), v5 = .int .i64 x5_2 ∧ Aa (As.l0 kq x5_2 l0_0 a0_1 l1_0 a1_1 = some r) ∧ Aa (kq ≤ kj2) ∧ Aa (w'.heap[gb481]? = some (.cells #[(.slice A0_0 l0_0.length c0_0), .int .i64 a0_1] 44 (0, 0))) ∧ Aa (w'.heap[gb482]? = some (.cells #[(.slice A1_0 l1_0.length c1_0), .int .i64 a1_1] 44 (0, 0))) ∧ Aa (Below w.heap.size w w'))
    case atStart => exact ⟨(0), zR, H', ⟨Nat.le_refl _⟩, ⟨zb BK481.out⟩, ⟨zb BK482.out⟩, ⟨zU HB.out⟩⟩
    case round =>
     clear H'; (try clear c1); (try clear c2); (try clear p2); (try clear c6); (try clear c6b0); (try clear c6b1); (try clear c7); (try clear c10); (try clear c13); (try clear hcz11_0); (try clear hcz11_1); (try clear hcz12_0); (try clear hcz12_1); (try clear hcz8_0); (try clear hcz8_1); (try clear hcz9_0); (try clear hcz9_1); (try clear hfz11_0); (try clear hfz11_1); (try clear hfz12_0); (try clear hfz12_1); (try clear hfz8_0); (try clear hfz8_1); (try clear hfz9_0); (try clear hfz9_1); (try clear p2); obtain ⟨x5_2, rfl, HA, HK2, BK481, BK482, HB⟩ := hrel
     cases gk with
     | zero => exact absurd HA.out (by simp [As.l0])
     | succ k2 =>
      have H := HA.out; clear HA; simp only [As.l0] at H; by_cases c14 : x5_2 < (l0_0.length : Int)
      ·rw [if_pos c14] at H; have c14b0 : decide (x5_2 < (l0_0.length : Int)) = true := decide_eq_true c14; clear c14; by_cases c15 : 0 ≤ x5_2
       ·rw [if_pos c15] at H; have c15b0 : decide (0 ≤ x5_2) = true := decide_eq_true c15; clear c15; by_cases c16 : x5_2 < (l1_0.length : Int)
        ·rw [if_pos c16] at H; have c16b0 : decide (x5_2 < (l1_0.length : Int)) = true := decide_eq_true c16; clear c16; replace H := Option.bind_eq_some_iff.mp H; obtain ⟨t485, A170, H⟩ := H; replace H : (if t485 = true then (As.l0 k2 (wrap64 (x5_2 + 1)) l0_0 a0_1 l1_0 a1_1) else (some false)) = some r := H; have A17 := zk A170; clear A170; by_cases c18 : t485 = true
         ·subst c18; have H1 : (As.l0 k2 (wrap64 (x5_2 + 1)) l0_0 a0_1 l1_0 a1_1) = some r := by rw [if_pos rfl] at H; exact H
          clear H; have H := H1; clear H1; have H' := zk H; clear H; have hnb19 := NB481_482.out; have hnc19 := NB482_481.out; have hcz20_0 : wr.cell? ⟨gb481, 0, none⟩ = some (.slice A0_0 l0_0.length c0_0) := zh BK481.out 0; have hcz20_1 : wr.cell? ⟨gb481, 1, none⟩ = some (.int .i64 a0_1) := zh BK481.out 1; have hfz20_0 := Ac BK481.out 0; have hfz20_1 := Ac BK481.out 1; have p483 : 0 ≤ (x5_2 : Int) := zT; have q483 : x5_2 < (l0_0.length : Int) := zT; obtain ⟨ad483, A483_0, c483_0, e483, hx483_0, hl483_0, hi483_0⟩ := Ha HR0_0.out x5_2 p483 q483; cases e483; replace hx483_0 := zcl HB.out hx483_0; have HR483_0 := zk hi483_0; have HC483_0 := zk hl483_0; clear hi483_0 hl483_0; replace p483 := eq_true p483; replace q483 := eq_true q483; have hcz21_0 : wr.cell? ⟨gb482, 0, none⟩ = some (.slice A1_0 l1_0.length c1_0) := zh BK482.out 0; have hcz21_1 : wr.cell? ⟨gb482, 1, none⟩ = some (.int .i64 a1_1) := zh BK482.out 1; have hfz21_0 := Ac BK482.out 0; have hfz21_1 := Ac BK482.out 1; have p484 : 0 ≤ (x5_2 : Int) := zT; have q484 : x5_2 < (l1_0.length : Int) := zT; obtain ⟨ad484, A484_0, c484_0, e484, hx484_0, hl484_0, hi484_0⟩ := Ha HR1_0.out x5_2 p484 q484; cases e484; replace hx484_0 := zcl HB.out hx484_0; have HR484_0 := zk hi484_0; have HC484_0 := zk hl484_0; clear hi484_0 hl484_0; replace p484 := eq_true p484; replace q484 := eq_true q484; go_wp2_with (first | (go_at_call 43; (with_reducible refine (Bs.calls k2 _ _ (Co l0_0 x5_2) _ _ (Co l1_0 x5_2) true _ ?side1 ?side2 ?side3 ?side4 A17.out).mono ?_); (case side1 => exact zc (Kd.C_below HR483_0.out HB.out)); (case side2 => exact HC483_0.out); (case side3 => exact zc (Kd.C_below HR484_0.out HB.out)); (case side4 => exact HC484_0.out); rintro e w' ⟨rfl, ⟨nd, rfl⟩⟩; (try first | exact ⟨rfl, _, World.drewN_drewN _ _ _⟩ | exact ⟨rfl, _, Eq.trans (World.drewN_drewN _ _ _) (congrArg (World.drewN _) (Nat.add_assoc _ _ _))⟩)))
          repeat (go_quiet (first | (go_at_call 43; (with_reducible refine (Bs.calls k2 _ _ (Co l0_0 x5_2) _ _ (Co l1_0 x5_2) true _ ?side1 ?side2 ?side3 ?side4 A17.out).mono ?_); (case side1 => exact zc (Kd.C_below HR483_0.out HB.out)); (case side2 => exact HC483_0.out); (case side3 => exact zc (Kd.C_below HR484_0.out HB.out)); (case side4 => exact HC484_0.out); rintro e w' ⟨rfl, ⟨nd, rfl⟩⟩; (try first | exact ⟨rfl, _, World.drewN_drewN _ _ _⟩ | exact ⟨rfl, _, Eq.trans (World.drewN_drewN _ _ _) (congrArg (World.drewN _) (Nat.add_assoc _ _ _))⟩))); try go_wp2_with (first | (go_at_call 43; (with_reducible refine (Bs.calls k2 _ _ (Co l0_0 x5_2) _ _ (Co l1_0 x5_2) true _ ?side1 ?side2 ?side3 ?side4 A17.out).mono ?_); (case side1 => exact zc (Kd.C_below HR483_0.out HB.out)); (case side2 => exact HC483_0.out); (case side3 => exact zc (Kd.C_below HR484_0.out HB.out)); (case side4 => exact HC484_0.out); rintro e w' ⟨rfl, ⟨nd, rfl⟩⟩; (try first | exact ⟨rfl, _, World.drewN_drewN _ _ _⟩ | exact ⟨rfl, _, Eq.trans (World.drewN_drewN _ _ _) (congrArg (World.drewN _) (Nat.add_assoc _ _ _))⟩))))
          go_roundg k2
          case measure => have := HJ2.out; have := HK2.out; omega
          case rel => exact ⟨(wrap64 (x5_2 + 1)), zR, H', ⟨by have := HJ2.out; have := HK2.out; omega⟩, ⟨zb BK481.out⟩, ⟨zb BK482.out⟩, ⟨zU HB.out⟩⟩
         ·replace c18 := Bool.eq_false_iff.mpr c18; subst c18; have H1 : (some false) = some r := by rw [if_neg (show ¬ (false = true) by decide)] at H; exact H
          clear H; have H := H1; clear H1; obtain rfl := Option.some.inj H; have hnb22 := NB481_482.out; have hnc22 := NB482_481.out; have hcz23_0 : wr.cell? ⟨gb481, 0, none⟩ = some (.slice A0_0 l0_0.length c0_0) := zh BK481.out 0; have hcz23_1 : wr.cell? ⟨gb481, 1, none⟩ = some (.int .i64 a0_1) := zh BK481.out 1; have hfz23_0 := Ac BK481.out 0; have hfz23_1 := Ac BK481.out 1; have p483 : 0 ≤ (x5_2 : Int) := zT; have q483 : x5_2 < (l0_0.length : Int) := zT; obtain ⟨ad483, A483_0, c483_0, e483, hx483_0, hl483_0, hi483_0⟩ := Ha HR0_0.out x5_2 p483 q483; cases e483; replace hx483_0 := zcl HB.out hx483_0; have HR483_0 := zk hi483_0; have HC483_0 := zk hl483_0; clear hi483_0 hl483_0; replace p483 := eq_true p483; replace q483 := eq_true q483; have hcz24_0 : wr.cell? ⟨gb482, 0, none⟩ = some (.slice A1_0 l1_0.length c1_0) := zh BK482.out 0; have hcz24_1 : wr.cell? ⟨gb482, 1, none⟩ = some (.int .i64 a1_1) := zh BK482.out 1; have hfz24_0 := Ac BK482.out 0; have hfz24_1 := Ac BK482.out 1; have p484 : 0 ≤ (x5_2 : Int) := zT; have q484 : x5_2 < (l1_0.length : Int) := zT; obtain ⟨ad484, A484_0, c484_0, e484, hx484_0, hl484_0, hi484_0⟩ := Ha HR1_0.out x5_2 p484 q484; cases e484; replace hx484_0 := zcl HB.out hx484_0; have HR484_0 := zk hi484_0; have HC484_0 := zk hl484_0; clear hi484_0 hl484_0; replace p484 := eq_true p484; replace q484 := eq_true q484; go_wp2_with (first | (go_at_call 43; (with_reducible refine (Bs.calls k2 _ _ (Co l0_0 x5_2) _ _ (Co l1_0 x5_2) false _ ?side1 ?side2 ?side3 ?side4 A17.out).mono ?_); (case side1 => exact zc (Kd.C_below HR483_0.out HB.out)); (case side2 => exact HC483_0.out); (case side3 => exact zc (Kd.C_below HR484_0.out HB.out)); (case side4 => exact HC484_0.out); rintro e w' ⟨rfl, ⟨nd, rfl⟩⟩; (try first | exact ⟨rfl, _, World.drewN_drewN _ _ _⟩ | exact ⟨rfl, _, Eq.trans (World.drewN_drewN _ _ _) (congrArg (World.drewN _) (Nat.add_assoc _ _ _))⟩)))
          repeat (go_quiet (first | (go_at_call 43; (with_reducible refine (Bs.calls k2 _ _ (Co l0_0 x5_2) _ _ (Co l1_0 x5_2) false _ ?side1 ?side2 ?side3 ?side4 A17.out).mono ?_); (case side1 => exact zc (Kd.C_below HR483_0.out HB.out)); (case side2 => exact HC483_0.out); (case side3 => exact zc (Kd.C_below HR484_0.out HB.out)); (case side4 => exact HC484_0.out); rintro e w' ⟨rfl, ⟨nd, rfl⟩⟩; (try first | exact ⟨rfl, _, World.drewN_drewN _ _ _⟩ | exact ⟨rfl, _, Eq.trans (World.drewN_drewN _ _ _) (congrArg (World.drewN _) (Nat.add_assoc _ _ _))⟩))); try go_wp2_with (first | (go_at_call 43; (with_reducible refine (Bs.calls k2 _ _ (Co l0_0 x5_2) _ _ (Co l1_0 x5_2) false _ ?side1 ?side2 ?side3 ?side4 A17.out).mono ?_); (case side1 => exact zc (Kd.C_below HR483_0.out HB.out)); (case side2 => exact HC483_0.out); (case side3 => exact zc (Kd.C_below HR484_0.out HB.out)); (case side4 => exact HC484_0.out); rintro e w' ⟨rfl, ⟨nd, rfl⟩⟩; (try first | exact ⟨rfl, _, World.drewN_drewN _ _ _⟩ | exact ⟨rfl, _, Eq.trans (World.drewN_drewN _ _ _) (congrArg (World.drewN _) (Nat.add_assoc _ _ _))⟩))))
          go_ret
          exact ⟨ze, zU HB.out⟩
        ·rw [if_neg c16] at H; cases H
       ·rw [if_neg c15] at H; cases H
      ·rw [if_neg c14] at H; have c14b0 : decide (x5_2 < (l0_0.length : Int)) = false := decide_eq_false c14; clear c14; obtain rfl := Option.some.inj H; have hnb25 := NB481_482.out; have hnc25 := NB482_481.out; have hcz26_0 : wr.cell? ⟨gb481, 0, none⟩ = some (.slice A0_0 l0_0.length c0_0) := zh BK481.out 0; have hcz26_1 : wr.cell? ⟨gb481, 1, none⟩ = some (.int .i64 a0_1) := zh BK481.out 1; have hfz26_0 := Ac BK481.out 0; have hfz26_1 := Ac BK481.out 1; go_wp2
       repeat (go_quiet (fail); try go_wp2)
       go_ret
       exact ⟨ze, zU HB.out⟩
end Go.Proofs.I
