/- Words and walks of this claim, of the text Ix2. -/
import Derived.Test.YtoljcfocgaonpaaGreatKaQW0
import Derived.Test.YtoljcfocgaonpaaGreatKaIx0
namespace Go.Proofs.I
open Go.RowKit Go.Proofs.Zw.PrintWords Go.Proofs.Zw.PrintLast Go.Proofs.Zw.PrintMore
set_option maxHeartbeats 8000000
set_option maxRecDepth 100000
attribute [local go_sem] Dw Ec El Es Dd Dj Dr Eb
set_option linter.unusedVariables false
set_option linter.unusedSimpArgs false
def Cd.l0 : Nat → Int → Int → List (S95) → Int → Int → Option (Bool)
 | 0, _, _, _, _, _ => none
 | k + 1, x1, x5, x8, x9, x10 => if x10 < x9 then (if 0 ≤ x10 then (if x10 < (x8.length : Int) then (if ((Ah x8 x10).f0) < 0 then (some false) else (if ((Ah x8 x10).f0) > ((Ah x8 x10).f1) then (some false) else (if ((Ah x8 x10).f1) > x1 then (some false) else (if (wrap64 (((Ah x8 x10).f0) - 1)) ≤ x5 then (some false) else (Cd.l0 k x1 ((Ah x8 x10).f1) x8 x9 (wrap64 (x10 + 1))))))) else (none)) else (none)) else (some true)
def Cd.f (k : Nat) (l0 : List (S95)) (a1 : Int) : Option (Bool) := Cd.l0 k a1 (-2) l0 (l0.length : Int) 0
theorem Cd.calls (k : Nat) (A0 : Option Addr) (c0 : Nat) (l0 : List (S95)) (a1 : Int) (r : Bool) (w : World) (hr0 : Kd.C k95 w A0 l0.length l0) (hc0 : l0.length ≤ c0) (h : Cd.f k l0 a1 = some r) :
 Calls Tryz.prog 66 #[.slice A0 l0.length c0, .int .i64 a1] w fun e w' => e = .returned (.bool r) ∧ Below w.heap.size w w' := by
 have hu95 := Tryz.underlying95; have HR0 := zk hr0; have HC0 := zk hc0; clear hr0 hc0; have HB := zk (Below.refl w.heap.size w); have H : (Cd.l0 k a1 (-2) l0 (l0.length : Int) 0) = some r := h; clear h; have H' := zk H; clear H; go_enter Tryz.func66, Tryz.ntmps66
 go_wp2
 go_loopg [5, 10] k (fun kq v5 v10 w' => ∃ (x5_1 : Int) (x10_1 : Int), v5 = .int .i64 x5_1 ∧ v10 = .int .i64 x10_1 ∧ Aa (Cd.l0 kq a1 x5_1 l0 (l0.length : Int) x10_1 = some r) ∧ Aa (kq ≤ k) ∧ Aa (Below w.heap.size w w'))
 case atStart => exact ⟨((-2)), (0), zR, zR, H', ⟨Nat.le_refl _⟩, ⟨zU HB.out⟩⟩
 case round =>
  clear H'; (try clear p2); obtain ⟨x5_1, x10_1, rfl, rfl, HA, HK1, HB⟩ := hrel
  cases gk with
  | zero => exact absurd HA.out (by simp [Cd.l0])
  | succ k1 =>
   have H := HA.out; clear HA; simp only [Cd.l0] at H; by_cases c3 : x10_1 < (l0.length : Int)
   ·rw [if_pos c3] at H; have c3b0 : decide (x10_1 < (l0.length : Int)) = true := decide_eq_true c3; clear c3; by_cases c4 : 0 ≤ x10_1
    ·rw [if_pos c4] at H; have c4b0 : decide (0 ≤ x10_1) = true := decide_eq_true c4; clear c4; by_cases c5 : x10_1 < (l0.length : Int)
     ·rw [if_pos c5] at H; have c5b0 : decide (x10_1 < (l0.length : Int)) = true := decide_eq_true c5; clear c5; by_cases c6 : ((Ah l0 x10_1).f0) < 0
      ·rw [if_pos c6] at H; have c6b0 : decide (((Ah l0 x10_1).f0) < 0) = true := decide_eq_true c6; clear c6; obtain rfl := Option.some.inj H; have p101 : 0 ≤ (x10_1 : Int) := zT; have q101 : x10_1 < (l0.length : Int) := zT; obtain ⟨ad101, e101, hx101_0, hx101_1⟩ := Dg HR0.out x10_1 p101 q101; cases e101; replace hx101_0 := zcl HB.out hx101_0; replace hx101_1 := zcl HB.out hx101_1; replace p101 := eq_true p101; replace q101 := eq_true q101; go_wp2_with (first | ((with_reducible refine Bd (N := 7) rfl ?_); refine Bb ?hg (N := 7) ?hd (cs := #[.int .i64 0, .int .i64 0]) (t := 95) ?hr ?_; (case hd => rfl); (case hg => rfl); (case hr => first | (go_simp; done) | (go_simp; rfl)); intro gb102 hg w7 hbox hb; have BK102 := zk (hbox); have GE102 := zk ((zg hg HB.out : w.heap.size ≤ gb102)); replace HB := zs HB hb;  clear hb hbox hg; have hcz8_0 : w7.cell? ⟨gb102, 0, none⟩ = some (.int .i64 0) := zh BK102.out 0; have hcz8_1 : w7.cell? ⟨gb102, 1, none⟩ = some (.int .i64 0) := zh BK102.out 1; have hfz8_0 := Ac BK102.out 0; have hfz8_1 := Ac BK102.out 1))
       go_ret
       exact ⟨ze, zU HB.out⟩
      ·rw [if_neg c6] at H; have c6b0 : decide (((Ah l0 x10_1).f0) < 0) = false := decide_eq_false c6; clear c6; by_cases c9 : ((Ah l0 x10_1).f0) > ((Ah l0 x10_1).f1)
       ·rw [if_pos c9] at H; have c9b0 : decide (((Ah l0 x10_1).f1) < ((Ah l0 x10_1).f0)) = true := decide_eq_true c9; clear c9; obtain rfl := Option.some.inj H; have p101 : 0 ≤ (x10_1 : Int) := zT; have q101 : x10_1 < (l0.length : Int) := zT; obtain ⟨ad101, e101, hx101_0, hx101_1⟩ := Dg HR0.out x10_1 p101 q101; cases e101; replace hx101_0 := zcl HB.out hx101_0; replace hx101_1 := zcl HB.out hx101_1; replace p101 := eq_true p101; replace q101 := eq_true q101; go_wp2_with (first | ((with_reducible refine Bd (N := 7) rfl ?_); refine Bb ?hg (N := 7) ?hd (cs := #[.int .i64 0, .int .i64 0]) (t := 95) ?hr ?_; (case hd => rfl); (case hg => rfl); (case hr => first | (go_simp; done) | (go_simp; rfl)); intro gb102 hg w10 hbox hb; have BK102 := zk (hbox); have GE102 := zk ((zg hg HB.out : w.heap.size ≤ gb102)); replace HB := zs HB hb;  clear hb hbox hg; have hcz11_0 : w10.cell? ⟨gb102, 0, none⟩ = some (.int .i64 0) := zh BK102.out 0; have hcz11_1 : w10.cell? ⟨gb102, 1, none⟩ = some (.int .i64 0) := zh BK102.out 1; have hfz11_0 := Ac BK102.out 0; have hfz11_1 := Ac BK102.out 1))
        go_ret
        exact ⟨ze, zU HB.out⟩
       ·rw [if_neg c9] at H; have c9b0 : decide (((Ah l0 x10_1).f1) < ((Ah l0 x10_1).f0)) = false := decide_eq_false c9; clear c9; by_cases c12 : ((Ah l0 x10_1).f1) > a1
        ·rw [if_pos c12] at H; have c12b0 : decide (a1 < ((Ah l0 x10_1).f1)) = true := decide_eq_true c12; clear c12; obtain rfl := Option.some.inj H; have p101 : 0 ≤ (x10_1 : Int) := zT; have q101 : x10_1 < (l0.length : Int) := zT; obtain ⟨ad101, e101, hx101_0, hx101_1⟩ := Dg HR0.out x10_1 p101 q101; cases e101; replace hx101_0 := zcl HB.out hx101_0; replace hx101_1 := zcl HB.out hx101_1; replace p101 := eq_true p101; replace q101 := eq_true q101; go_wp2_with (first | ((with_reducible refine Bd (N := 7) rfl ?_); refine Bb ?hg (N := 7) ?hd (cs := #[.int .i64 0, .int .i64 0]) (t := 95) ?hr ?_; (case hd => rfl); (case hg => rfl); (case hr => first | (go_simp; done) | (go_simp; rfl)); intro gb102 hg w13 hbox hb; have BK102 := zk (hbox); have GE102 := zk ((zg hg HB.out : w.heap.size ≤ gb102)); replace HB := zs HB hb;  clear hb hbox hg; have hcz14_0 : w13.cell? ⟨gb102, 0, none⟩ = some (.int .i64 0) := zh BK102.out 0; have hcz14_1 : w13.cell? ⟨gb102, 1, none⟩ = some (.int .i64 0) := zh BK102.out 1; have hfz14_0 := Ac BK102.out 0; have hfz14_1 := Ac BK102.out 1))
         go_ret
         exact ⟨ze, zU HB.out⟩
        ·rw [if_neg c12] at H; have c12b0 : decide (a1 < ((Ah l0 x10_1).f1)) = false := decide_eq_false c12; clear c12; by_cases c15 : (wrap64 (((Ah l0 x10_1).f0) - 1)) ≤ x5_1
         ·rw [if_pos c15] at H; have c15b0 : decide ((wrap64 (((Ah l0 x10_1).f0) - 1)) ≤ x5_1) = true := decide_eq_true c15; clear c15; obtain rfl := Option.some.inj H; have p101 : 0 ≤ (x10_1 : Int) := zT; have q101 : x10_1 < (l0.length : Int) := zT; obtain ⟨ad101, e101, hx101_0, hx101_1⟩ := Dg HR0.out x10_1 p101 q101; cases e101; replace hx101_0 := zcl HB.out hx101_0; replace hx101_1 := zcl HB.out hx101_1; replace p101 := eq_true p101; replace q101 := eq_true q101; go_wp2_with (first | ((with_reducible refine Bd (N := 7) rfl ?_); refine Bb ?hg (N := 7) ?hd (cs := #[.int .i64 0, .int .i64 0]) (t := 95) ?hr ?_; (case hd => rfl); (case hg => rfl); (case hr => first | (go_simp; done) | (go_simp; rfl)); intro gb102 hg w16 hbox hb; have BK102 := zk (hbox); have GE102 := zk ((zg hg HB.out : w.heap.size ≤ gb102)); replace HB := zs HB hb;  clear hb hbox hg; have hcz17_0 : w16.cell? ⟨gb102, 0, none⟩ = some (.int .i64 0) := zh BK102.out 0; have hcz17_1 : w16.cell? ⟨gb102, 1, none⟩ = some (.int .i64 0) := zh BK102.out 1; have hfz17_0 := Ac BK102.out 0; have hfz17_1 := Ac BK102.out 1))
          go_ret
          exact ⟨ze, zU HB.out⟩
         ·rw [if_neg c15] at H; have c15b0 : decide ((wrap64 (((Ah l0 x10_1).f0) - 1)) ≤ x5_1) = false := decide_eq_false c15; clear c15; have H' := zk H; clear H; have p101 : 0 ≤ (x10_1 : Int) := zT; have q101 : x10_1 < (l0.length : Int) := zT; obtain ⟨ad101, e101, hx101_0, hx101_1⟩ := Dg HR0.out x10_1 p101 q101; cases e101; replace hx101_0 := zcl HB.out hx101_0; replace hx101_1 := zcl HB.out hx101_1; replace p101 := eq_true p101; replace q101 := eq_true q101; go_wp2_with (first | ((with_reducible refine Bd (N := 7) rfl ?_); refine Bb ?hg (N := 7) ?hd (cs := #[.int .i64 0, .int .i64 0]) (t := 95) ?hr ?_; (case hd => rfl); (case hg => rfl); (case hr => first | (go_simp; done) | (go_simp; rfl)); intro gb102 hg w18 hbox hb; have BK102 := zk (hbox); have GE102 := zk ((zg hg HB.out : w.heap.size ≤ gb102)); replace HB := zs HB hb;  clear hb hbox hg; have hcz19_0 : w18.cell? ⟨gb102, 0, none⟩ = some (.int .i64 0) := zh BK102.out 0; have hcz19_1 : w18.cell? ⟨gb102, 1, none⟩ = some (.int .i64 0) := zh BK102.out 1; have hfz19_0 := Ac BK102.out 0; have hfz19_1 := Ac BK102.out 1))
          go_roundg k1
          case measure => have := HK1.out; omega
          case rel => exact ⟨((Ah l0 x10_1).f1), (wrap64 (x10_1 + 1)), zR, zR, H', ⟨by have := HK1.out; omega⟩, ⟨zU HB.out⟩⟩
     ·rw [if_neg c5] at H; cases H
    ·rw [if_neg c4] at H; cases H
   ·rw [if_neg c3] at H; have c3b0 : decide (x10_1 < (l0.length : Int)) = false := decide_eq_false c3; clear c3; obtain rfl := Option.some.inj H; go_wp2
    go_ret
    exact ⟨ze, zU HB.out⟩
def Cm.l0 : Nat → List (S95) → List (S58) → Int → Int → Option ((List (S95)))
 | 0, _, _, _, _ => none
 | k + 1, x3, x9, x10, x11 => if x11 < x10 then (if 0 ≤ x11 then (if x11 < (x9.length : Int) then (if x3.length < 8796093022208 then (Cm.l0 k (x3 ++ [(⟨(Ch x9 x11).f0, (Ch x9 x11).f1⟩ : S95)]) x9 x10 (wrap64 (x11 + 1))) else (none)) else (none)) else (none)) else (some x3)
def Cm.f (k : Nat) (l0 : List (S58)) : Option ((List (S95))) := if 0 ≤ (l0.length : Int) then (if ((l0.length : Int) : Int).toNat ≤ 17592186044416 then (Cm.l0 k (([] : List (S95))) l0 (l0.length : Int) 0) else (none)) else (none)
theorem Cm.calls (k : Nat) (A0 : Option Addr) (c0 : Nat) (l0 : List (S58)) (r : List (S95)) (w : World) (hr0 : Kd.C k58 w A0 l0.length l0) (hc0 : l0.length ≤ c0) (h : Cm.f k l0 = some r) :
 Calls Tryz.prog 67 #[.slice A0 l0.length c0] w fun e w' => ∃ v0_ : Value, e = .returned (v0_) ∧ Kd.R k95 95 w' w.heap.size (fun _ => True) v0_ r ∧ Below w.heap.size w w' := by
 have hu58 := Tryz.underlying58; have HR0 := zk hr0; have HC0 := zk hc0; clear hr0 hc0; have HB := zk (Below.refl w.heap.size w); have H : (if 0 ≤ (l0.length : Int) then (if ((l0.length : Int) : Int).toNat ≤ 17592186044416 then (Cm.l0 k (([] : List (S95))) l0 (l0.length : Int) 0) else (none)) else (none)) = some r := h; clear h; by_cases c2 : 0 ≤ (l0.length : Int)
 ·rw [if_pos c2] at H; have c2b0 := eq_true c2; have c2b1 : decide (0 ≤ (l0.length : Int)) = true := decide_eq_true c2; clear c2; by_cases c3 : ((l0.length : Int) : Int).toNat ≤ 17592186044416
  ·rw [if_pos c3] at H; have c3b0 := eq_true c3; have c3b1 : decide (((l0.length : Int) : Int).toNat ≤ 17592186044416) = true := decide_eq_true c3; clear c3; obtain ⟨y103, hy103⟩ : ∃ y_ : List (S95), y_ = (([] : List (S95))) := ⟨_, rfl⟩
   replace H : (Cm.l0 k y103 l0 (l0.length : Int) 0) = some r := by first | (rw [hy103]; with_reducible exact H) | (have H2_ := (Option.bind_some _ _).symm.trans H; rw [hy103]; with_reducible exact H2_) | (have H2_ := (Option.bind_some _ _).symm.trans H; with_reducible exact H2_) | with_reducible exact H | (rw [hy103]; exact H) | exact H
   have Ny103 := zk hy103; clear hy103; have H' := zk H; clear H; go_enter Tryz.func67, Tryz.ntmps67
   go_wp2_with (first | ((with_reducible refine Bd (N := 8) rfl ?_); refine KdCap.R_makecap k95 _ 95 rfl (N := 8) rfl 79 _ _ rfl (l0.length : Int) rfl rfl Tryz.underlying79 (.agg #[(.int .i64 0), (.int .i64 0)]) 16 Ga (by decide) (ok := fun _ => True) (okp := fun _ => True) (fun _ hk => hk) trivial zT (Nat.le_trans (Nat.mul_le_mul_right _ (zT : (l0.length : Int).toNat ≤ 17592186044416)) (by omega)) (Below.refl _ _) (Nat.le_refl _) ?_; intro v104 w4 ho5 hb hg_ hnew_; clear hg_ hnew_; (first | rw [← Ny103.out] at ho5 | (simp only [Int.reduceToNat] at ho5; rw [← Ny103.out] at ho5)); have HO105 := zk (Kd.R_lower ho5 (Ar (zU HB.out))); replace HB := zs HB hb;  clear hb ho5))
   go_loopg [3, 11] k (fun kq v3 v11 w' => ∃ (x3_1 : List (S95)) (x11_1 : Int), v11 = .int .i64 x11_1 ∧ Aa (Cm.l0 kq x3_1 l0 (l0.length : Int) x11_1 = some r) ∧ Aa (kq ≤ k) ∧ Aa (Kd.R k95 95 w' w.heap.size (fun _ => True) v3 x3_1) ∧ Aa (Below w.heap.size w w'))
   case atStart => exact ⟨(y103), (0), zR, H', ⟨Nat.le_refl _⟩, ⟨by (with_reducible repeat (first | apply zA | apply zB | apply zC)); exact HO105.out⟩, ⟨zU HB.out⟩⟩
   case round =>
    clear H'; (try clear c2); (try clear c2b0); (try clear c2b1); (try clear p2); (try clear c3); (try clear c3b0); (try clear c3b1); obtain ⟨x3_1, x11_1, rfl, HA, HK1, HO_3, HB⟩ := hrel
    cases gk with
    | zero => exact absurd HA.out (by simp [Cm.l0])
    | succ k1 =>
     have H := HA.out; clear HA; simp only [Cm.l0] at H; by_cases c6 : x11_1 < (l0.length : Int)
     ·rw [if_pos c6] at H; have c6b0 : decide (x11_1 < (l0.length : Int)) = true := decide_eq_true c6; clear c6; by_cases c7 : 0 ≤ x11_1
      ·rw [if_pos c7] at H; have c7b0 : decide (0 ≤ x11_1) = true := decide_eq_true c7; clear c7; by_cases c8 : x11_1 < (l0.length : Int)
       ·rw [if_pos c8] at H; have c8b0 : decide (x11_1 < (l0.length : Int)) = true := decide_eq_true c8; clear c8; by_cases c9 : x3_1.length < 8796093022208
        ·rw [if_pos c9] at H; have LMc9 := zk c9; clear c9; obtain ⟨y108, hy108⟩ : ∃ y_ : List (S95), y_ = (x3_1 ++ [(⟨(Ch l0 x11_1).f0, (Ch l0 x11_1).f1⟩ : S95)]) := ⟨_, rfl⟩
         replace H : (Cm.l0 k1 y108 l0 (l0.length : Int) (wrap64 (x11_1 + 1))) = some r := by first | (rw [hy108]; with_reducible exact H) | (have H2_ := (Option.bind_some _ _).symm.trans H; rw [hy108]; with_reducible exact H2_) | (have H2_ := (Option.bind_some _ _).symm.trans H; with_reducible exact H2_) | with_reducible exact H | (rw [hy108]; exact H) | exact H
         have Ny108 := zk hy108; clear hy108; have H' := zk H; clear H; have p106 : 0 ≤ (x11_1 : Int) := zT; have q106 : x11_1 < (l0.length : Int) := zT; obtain ⟨ad106, e106, hx106_0, hx106_1⟩ := Eo HR0.out x11_1 p106 q106; cases e106; replace hx106_0 := zcl HB.out hx106_0; replace hx106_1 := zcl HB.out hx106_1; replace p106 := eq_true p106; replace q106 := eq_true q106; go_wp2_with (first | ((with_reducible refine Bd (N := 5) rfl ?_); refine Bb ?hg (N := 5) ?hd (cs := #[.int .i64 0, .int .i64 0]) (t := 58) ?hr ?_; (case hd => rfl); (case hg => rfl); (case hr => first | (go_simp; done) | (go_simp; rfl)); intro gb107 hg w10 hbox hb; replace HO_3 := zk (Kd.R_below (zr HO_3.out) hb); have BK107 := zk (hbox); have GE107 := zk ((zg hg HB.out : w.heap.size ≤ gb107)); replace HB := zs HB hb;  clear hb hbox hg; have hcz11_0 : w10.cell? ⟨gb107, 0, none⟩ = some (.int .i64 0) := zh BK107.out 0; have hcz11_1 : w10.cell? ⟨gb107, 1, none⟩ = some (.int .i64 0) := zh BK107.out 1; have hfz11_0 := Ac BK107.out 0; have hfz11_1 := Ac BK107.out 1) | ((with_reducible refine Di (b := .append) (xs := #[.tmp 15, .tmp 17]) rfl ?_); at_builtin; refine Kd.R_append k95 (w0 := w) w.heap.size rfl (.tmp 15) (.tmp 17) 79 95 (.agg #[(.int .i64 0), (.int .i64 0)]) 16 rfl Tryz.underlying79 Ga rfl (by decide) (by omega) u3 x3_1 (⟨(Ch l0 x11_1).f0, (Ch l0 x11_1).f1⟩ : S95) [.int .i64 ((Ch l0 x11_1).f0), .int .i64 ((Ch l0 x11_1).f1)] (fun _ => True) (fun _ => False) rfl (by first | (go_simp; done) | (go_simp; rfl)) ?aP (fun _ hk => hk.elim) ?aF ?aO ?aB ?aS ?aL ?_; (case aP => exact k95_mkM _ _ _ (⟨(Ch l0 x11_1).f0, (Ch l0 x11_1).f1⟩ : S95)); (case aB => exact (zU HB.out)); (case aF => exact (fun _ _ => trivial)); (case aO => exact (by (with_reducible repeat (first | apply zA | apply zB | apply zC)); exact Kd.R_mono (Kd.R_far (p := ⟨gb107, 1, none⟩) (Kd.R_far (p := ⟨gb107, 0, none⟩) (Kd.R_types HO_3.out BK107.out (by decide)) (fun _ hk => hk.2) (.int .i64 ((Ch l0 x11_1).f0))) (fun _ hk => hk.2) (.int .i64 ((Ch l0 x11_1).f1))) (fun _ hk => trivial))); (case aS => exact (Ar (zU HB.out))); (case aL => have := LMc9.out; omega); intro v109 w12 ho hb hg hat; rw [← Ny108.out] at ho; have n0_ := zk (Cp (g := gb107) (o := .cells #[.int .i64 ((Ch l0 x11_1).f0), .int .i64 ((Ch l0 x11_1).f1)] 58 (0, 0)) (by (with_reducible repeat (first | refine Bj ?_ _ | refine Ay ?_ | refine Be ?_ _)); refine Ca (cs := #[.int .i64 ((Ch l0 x11_1).f0), .int .i64 0]) ?_ 1 _ rfl; (with_reducible repeat (first | refine Bj ?_ _ | refine Ay ?_ | refine Be ?_ _)); refine Ca (cs := #[.int .i64 0, .int .i64 0]) ?_ 0 _ rfl; exact zb BK107.out) hg (Kd.R_ne HO_3.out BK107.out (by decide))); have n1_ := zk (hb); have n2_ := zk (ho); clear BK107; clear HB; clear HO_3; have BK107 := n0_; have HB := n1_; have HO110 := n2_; clear n0_ n1_ n2_; clear ho hb hg hat))
         go_roundg k1
         case measure => have := HK1.out; omega
         case rel => exact ⟨(y108), (wrap64 (x11_1 + 1)), zR, H', ⟨by have := HK1.out; omega⟩, ⟨by (with_reducible repeat (first | apply zA | apply zB | apply zC)); exact HO110.out⟩, ⟨zU HB.out⟩⟩
        ·rw [if_neg c9] at H; cases H
       ·rw [if_neg c8] at H; cases H
      ·rw [if_neg c7] at H; cases H
     ·rw [if_neg c6] at H; have c6b0 : decide (x11_1 < (l0.length : Int)) = false := decide_eq_false c6; clear c6; obtain rfl := Option.some.inj H; go_wp2
      go_ret
      exact ⟨_, ze, by (with_reducible repeat (first | apply zA | apply zB | apply zC)); exact HO_3.out, zU HB.out⟩
  ·rw [if_neg c3] at H; cases H
 ·rw [if_neg c2] at H; cases H
def Gx.f (k : Nat) (l0 : List (S58)) : Option (Bool) := (Cm.f k l0).bind fun t111 => ((Cd.f k t111 255).bind fun t114 => (some t114))
theorem Gx.calls (k : Nat) (A0 : Option Addr) (c0 : Nat) (l0 : List (S58)) (r : Bool) (w : World) (hr0 : Kd.C k58 w A0 l0.length l0) (hc0 : l0.length ≤ c0) (h : Gx.f k l0 = some r) :
 Calls Tryz.prog 45 #[.slice A0 l0.length c0] w fun e w' => e = .returned (.bool r) ∧ Below w.heap.size w w' := by
 have HR0 := zk hr0; have HC0 := zk hc0; clear hr0 hc0; have HB := zk (Below.refl w.heap.size w); have H : ((Cm.f k l0).bind fun t111 => ((Cd.f k t111 255).bind fun t114 => (some t114))) = some r := h; clear h; replace H := Option.bind_eq_some_iff.mp H; obtain ⟨t111, A20, H⟩ := H; replace H : ((Cd.f k t111 255).bind fun t114 => (some t114)) = some r := H; have A2 := zk A20; clear A20; replace H := Option.bind_eq_some_iff.mp H; obtain ⟨t114, A30, H⟩ := H; replace H : (some t114) = some r := H; have A3 := zk A30; clear A30; obtain rfl := Option.some.inj H; go_enter Tryz.func45, Tryz.ntmps45
 go_wp2_with (first | ((with_reducible refine Al (f := 67) rfl ?_); refine Bz (some 4) rfl rfl Tryz.func67 zz rfl #[.slice A0 l0.length c0] rfl zM ?_; (with_reducible refine (Cm.calls k _ _ l0 t111 _ ?side1 ?side2 A2.out).mono ?_); (case side1 => exact zc HR0.out); (case side2 => exact HC0.out); rintro e w4 ⟨v112, rfl, ho0, hb⟩; refine ⟨_, rfl, ?_⟩; have HO113 := zk (Kd.R_lower ho0 (Ar (zU HB.out))); replace HB := zs HB hb;  (try clear hb); (try clear hb2); (try clear hk); (try clear hi); (try clear ho0); obtain ⟨Ao5, co5, eo5⟩ := Kd.R_slice HO113.out; subst eo5) | ((with_reducible refine Al (f := 66) rfl ?_); refine Bz (some 5) rfl rfl Tryz.func66 zz rfl #[.slice Ao5 t111.length co5, .int .i64 255] rfl zM ?_; (with_reducible refine (Cd.calls k _ _ t111 255 t114 _ ?side1 ?side2 A3.out).mono ?_); (case side1 => exact zc (Kd.R_reads' HO113.out).2.2); (case side2 => exact (Kd.R_reads' HO113.out).2.1); rintro e w6 ⟨rfl, hb⟩; refine ⟨_, rfl, ?_⟩; replace HO113 := zk (Kd.R_below (zr HO113.out) hb); replace HB := zs HB hb;  (try clear hb); (try clear hb2); (try clear hk); (try clear hi)))
 go_ret
 exact ⟨ze, zU HB.out⟩
def Gd.f (k : Nat) (l0 : List (S58)) : Option (Bool) := if (l0.length : Int) = 0 then (some true) else ((Gx.f k l0).bind fun t115 => (some (!t115)))
theorem Gd.calls (k : Nat) (A0 : Option Addr) (c0 : Nat) (l0 : List (S58)) (r : Bool) (w : World) (hr0 : Kd.C k58 w A0 l0.length l0) (hc0 : l0.length ≤ c0) (h : Gd.f k l0 = some r) :
 Calls Tryz.prog 25 #[.slice A0 l0.length c0] w fun e w' => e = .returned (.bool r) ∧ Below w.heap.size w w' := by
 have HR0 := zk hr0; have HC0 := zk hc0; clear hr0 hc0; have HB := zk (Below.refl w.heap.size w); have H : (if (l0.length : Int) = 0 then (some true) else ((Gx.f k l0).bind fun t115 => (some (!t115)))) = some r := h; clear h; by_cases c2 : (l0.length : Int) = 0
 ·rw [if_pos c2] at H; have c2b0 : ((l0.length : Int) == 0) = true := beq_iff_eq.mpr c2; have c2b1 : ((l0.length : Int) != 0) = false := bne_eq_false_iff_eq.mpr c2; clear c2; obtain rfl := Option.some.inj H; go_enter Tryz.func25, Tryz.ntmps25
  go_wp2
  go_ret
  exact ⟨ze, zU HB.out⟩
 ·rw [if_neg c2] at H; have c2b0 : ((l0.length : Int) == 0) = false := beq_eq_false_iff_ne.mpr c2; have c2b1 : ((l0.length : Int) != 0) = true := bne_iff_ne.mpr c2; have c2b2 : ¬ (l0 = []) := fun h_ => c2 (by rw [h_]; rfl)
  replace H := Option.bind_eq_some_iff.mp H; obtain ⟨t115, A30, H⟩ := H; replace H : (some (!t115)) = some r := H; have A3 := zk A30; clear A30; obtain rfl := Option.some.inj H; go_enter Tryz.func25, Tryz.ntmps25
  go_wp2_with (first | (go_at_call 45; (with_reducible refine (Gx.calls k _ _ l0 t115 _ ?side1 ?side2 A3.out).mono ?_); (case side1 => exact zc HR0.out); (case side2 => exact HC0.out); rintro e w4 ⟨rfl, hb⟩; replace HB := zs HB hb;  (try clear hb); (try clear hb2); (try clear hk); (try clear hi)))
  go_ret
  exact ⟨ze, zU HB.out⟩
def Cv.go (k : Nat) : List (List S58) → Option Bool
 | [] => some false
 | x :: t => (Gd.f k x).bind fun b => if b = true then some true else Cv.go k t
def Cv.f (k : Nat) (l0 : List (List S58)) : Option Bool := if l0.length ≤ 8796093022206 then Cv.go k l0 else none
theorem Cv.index (k : Nat) (A0 : Option Addr) (c0 : Nat) (l0 : List (List S58)) (b : Bool) (w : World) (hr0 : Kd.C (Kd.slice 58 k58) w A0 l0.length l0) (hsm : l0.length ≤ 8796093022206) (h : Cv.go k l0 = some b) :
 Calls Tryz.prog 44 #[.slice A0 l0.length c0, .func (.func 25) #[] #[]] w fun e w' => ∃ i : Int, e = .returned (.int .i64 i) ∧ Aa (b = decide (0 ≤ i) ∧ -1 ≤ i ∧ i ≤ 8796093022206) ∧ Below w.heap.size w w' := by
 have HR0 := zk hr0; have HS := zk hsm; have HG := zk h; clear hr0 hsm h; have HB := zk (Below.refl w.heap.size w); go_enter Tryz.func44, Tryz.ntmps44
 go_wp2
 go_loopg [8] (l0.length + 1) (fun kq v8 w' => ∃ n : Nat, v8 = .int .i64 (n : Int) ∧ Aa (n + kq = l0.length + 1 ∧ n ≤ l0.length) ∧ Aa (Cv.go k (l0.drop n) = some b) ∧ Aa (Below w.heap.size w w'))
 case atStart => exact ⟨0, rfl, ⟨by omega, by omega⟩, HG, HB⟩
 case round =>
  clear HG HB; obtain ⟨n, rfl, HN, HG, HB⟩ := hrel; have hN := HN.out; have hS := HS.out
  cases gk with
  | zero => exact absurd hN (by omega)
  | succ ko =>
  by_cases c : n < l0.length
  ·have c_ := zk c; have p : 0 ≤ (n : Int) := by omega
   have q : (n : Int) < (l0.length : Int) := by omega
   have cb : decide ((n : Int) < (l0.length : Int)) = true := decide_eq_true q; have cb2 : decide (n < l0.length) = true := decide_eq_true c; obtain ⟨ad, cs, rfl, hcl, hK, hcc⟩ := Kd.C_get (Kd.C_below HR0.out HB.out) ([] : List S58) (n : Int) p q; have hx := hcc 0; obtain ⟨A1, c1, rfl, hle, hC⟩ := hK; replace hx := hx _ rfl; have hsz : (Kd.slice 58 k58).sz = 1 := rfl; simp only [hsz, Int.toNat_natCast, Nat.mul_one, Nat.add_zero] at hx hC hle; generalize hxx : l0.getD n [] = x at hx hC hle; have hg := HG.out; rw [List.drop_eq_getElem_cons c] at hg; have hxe : l0[n] = x := by rw [← hxx]; simp [List.getD, c]
   rw [hxe] at hg; have HC1 := zk hC; have HL1 := zk hle; obtain ⟨bx, h1, h2⟩ := Option.bind_eq_some_iff.mp hg; have H1 := zk h1; clear hcc hcl hC hle hg hxx hxe h1 hsz hN hS c HG; replace p := eq_true p; replace q := eq_true q; have HB2 := HB; cases bx with
   | true =>
    simp only [if_true] at h2; obtain rfl := Option.some.inj h2; go_wp2_with (go_at_call 25; refine (Gd.calls k A1 c1 x true _ HC1.out HL1.out H1.out).mono ?_; rintro e w1 ⟨rfl, hb⟩; have HB3 := zk (Dz HB2.out hb); clear hb)
    go_ret
    exact ⟨(n : Int), rfl, ⟨by simp, by omega, by have := HS.out; have := c_.out; omega⟩, HB3.out⟩
   | false =>
    simp only [Bool.false_eq_true, if_false] at h2; have H2 := zk h2; clear h2; go_wp2_with (go_at_call 25; refine (Gd.calls k A1 c1 x false _ HC1.out HL1.out H1.out).mono ?_; rintro e w1 ⟨rfl, hb⟩; have HB3 := zk (Dz HB2.out hb); clear hb)
    have hN := HN.out; have c := c_.out; have hS := HS.out; go_roundg ko
    case measure => omega
    case rel => exact ⟨n + 1, by first | (rw [w64o (by omega) (by omega)]; simp; done) | (simp; done), ⟨by omega, by omega⟩, H2, HB3⟩
  ·have cb : decide ((n : Int) < (l0.length : Int)) = false := decide_eq_false (by omega); have cb2 : decide (n < l0.length) = false := decide_eq_false c; have hg := HG.out; rw [List.drop_of_length_le (by omega)] at hg; obtain rfl : b = false := (Option.some.inj hg).symm; clear c hN hS hg; go_wp2
   go_ret
   exact ⟨-1, rfl, ⟨by simp, by omega, by omega⟩, HB.out⟩
theorem Cv.calls (k : Nat) (A0 : Option Addr) (c0 : Nat) (l0 : List (List S58)) (r : Bool) (w : World) (hr0 : Kd.C (Kd.slice 58 k58) w A0 l0.length l0) (hc0 : l0.length ≤ c0) (h : Cv.f k l0 = some r) :
 Calls Tryz.prog 24 #[.slice A0 l0.length c0, .func (.func 25) #[] #[]] w fun e w' => e = .returned (.bool r) ∧ Below w.heap.size w w' := by
 unfold Cv.f at h; by_cases c : l0.length ≤ 8796093022206
 ·rw [if_pos c] at h; have hI := Cv.index k A0 c0 l0 r w hr0 c h; clear hr0 hc0 h c; go_enter Tryz.func24, Tryz.ntmps24
  go_wp2_with (go_at_call 44; refine hI.mono ?_; rintro e w1 ⟨i, rfl, hi, hb⟩; have HI := hi; clear hi hI; have HB1 := zk hb; clear hb)
  go_ret
  exact ⟨by rw [HI.out.1]; rfl, HB1.out⟩
 ·rw [if_neg c] at h; cases h
def Ee.f (k : Nat) (l0 : List (S58)) : Option ((List (S95))) := (Cm.f k l0).bind fun t116 => ((Cd.f k t116 255).bind fun t119 => (if t119 = true then (some t116) else (some ([] : List (S95)))))
theorem Ee.calls (k : Nat) (A0 : Option Addr) (c0 : Nat) (l0 : List (S58)) (r : List (S95)) (w : World) (hr0 : Kd.C k58 w A0 l0.length l0) (hc0 : l0.length ≤ c0) (h : Ee.f k l0 = some r) :
 Calls Tryz.prog 56 #[.slice A0 l0.length c0] w fun e w' => ∃ v0_ : Value, e = .returned (v0_) ∧ Kd.R k95 95 w' w.heap.size (fun _ => True) v0_ r ∧ Below w.heap.size w w' := by
 have HR0 := zk hr0; have HC0 := zk hc0; clear hr0 hc0; have HB := zk (Below.refl w.heap.size w); have H : ((Cm.f k l0).bind fun t116 => ((Cd.f k t116 255).bind fun t119 => (if t119 = true then (some t116) else (some ([] : List (S95)))))) = some r := h; clear h; replace H := Option.bind_eq_some_iff.mp H; obtain ⟨t116, A20, H⟩ := H; replace H : ((Cd.f k t116 255).bind fun t119 => (if t119 = true then (some t116) else (some ([] : List (S95))))) = some r := H; have A2 := zk A20; clear A20; replace H := Option.bind_eq_some_iff.mp H; obtain ⟨t119, A30, H⟩ := H; replace H : (if t119 = true then (some t116) else (some ([] : List (S95)))) = some r := H; have A3 := zk A30; clear A30; by_cases c4 : t119 = true
 ·subst c4; have H1 : (some t116) = some r := by rw [if_pos rfl] at H; exact H
  clear H; have H := H1; clear H1; obtain rfl := Option.some.inj H; go_enter Tryz.func56, Tryz.ntmps56
  go_wp2_with (first | ((with_reducible refine Al (f := 67) rfl ?_); refine Bz (some 5) rfl rfl Tryz.func67 zz rfl #[.slice A0 l0.length c0] rfl zM ?_; (with_reducible refine (Cm.calls k _ _ l0 t116 _ ?side1 ?side2 A2.out).mono ?_); (case side1 => exact zc HR0.out); (case side2 => exact HC0.out); rintro e w5 ⟨v117, rfl, ho0, hb⟩; refine ⟨_, rfl, ?_⟩; have HO118 := zk (Kd.R_lower ho0 (Ar (zU HB.out))); replace HB := zs HB hb;  (try clear hb); (try clear hb2); (try clear hk); (try clear hi); (try clear ho0); obtain ⟨Ao6, co6, eo6⟩ := Kd.R_slice HO118.out; subst eo6) | ((with_reducible refine Al (f := 66) rfl ?_); refine Bz (some 7) rfl rfl Tryz.func66 zz rfl #[.slice Ao6 t116.length co6, .int .i64 255] rfl zM ?_; (with_reducible refine (Cd.calls k _ _ t116 255 true _ ?side1 ?side2 A3.out).mono ?_); (case side1 => exact zc (Kd.R_reads' HO118.out).2.2); (case side2 => exact (Kd.R_reads' HO118.out).2.1); rintro e w7 ⟨rfl, hb⟩; refine ⟨_, rfl, ?_⟩; replace HO118 := zk (Kd.R_below (zr HO118.out) hb); replace HB := zs HB hb;  (try clear hb); (try clear hb2); (try clear hk); (try clear hi)))
  go_ret
  exact ⟨_, ze, by (with_reducible repeat (first | apply zA | apply zB | apply zC)); exact HO118.out, zU HB.out⟩
 ·replace c4 := Bool.eq_false_iff.mpr c4; subst c4; have H1 : (some ([] : List (S95))) = some r := by rw [if_neg (show ¬ (false = true) by decide)] at H; exact H
  clear H; have H := H1; clear H1; obtain rfl := Option.some.inj H; go_enter Tryz.func56, Tryz.ntmps56
  go_wp2_with (first | ((with_reducible refine Al (f := 67) rfl ?_); refine Bz (some 5) rfl rfl Tryz.func67 zz rfl #[.slice A0 l0.length c0] rfl zM ?_; (with_reducible refine (Cm.calls k _ _ l0 t116 _ ?side1 ?side2 A2.out).mono ?_); (case side1 => exact zc HR0.out); (case side2 => exact HC0.out); rintro e w8 ⟨v117, rfl, ho0, hb⟩; refine ⟨_, rfl, ?_⟩; have HO118 := zk (Kd.R_lower ho0 (Ar (zU HB.out))); replace HB := zs HB hb;  (try clear hb); (try clear hb2); (try clear hk); (try clear hi); (try clear ho0); obtain ⟨Ao9, co9, eo9⟩ := Kd.R_slice HO118.out; subst eo9) | ((with_reducible refine Al (f := 66) rfl ?_); refine Bz (some 7) rfl rfl Tryz.func66 zz rfl #[.slice Ao9 t116.length co9, .int .i64 255] rfl zM ?_; (with_reducible refine (Cd.calls k _ _ t116 255 false _ ?side1 ?side2 A3.out).mono ?_); (case side1 => exact zc (Kd.R_reads' HO118.out).2.2); (case side2 => exact (Kd.R_reads' HO118.out).2.1); rintro e w10 ⟨rfl, hb⟩; refine ⟨_, rfl, ?_⟩; replace HO118 := zk (Kd.R_below (zr HO118.out) hb); replace HB := zs HB hb;  (try clear hb); (try clear hb2); (try clear hk); (try clear hi)))
  go_ret
  exact ⟨_, ze, by first | exact Kd.R_nil _ _ _ _ _ | exact Kd.N_nil _ _ _ _ _ | exact Kd.V_nil _ _ _ _ _ | exact Kd.Q_nil _ _ _ _ _ | exact Kd.S_nil _ _ _ _ _, zU HB.out⟩
def Dk.l0 : Nat → Int → List (S95) → Int → Int → Option (Int)
 | 0, _, _, _, _ => none
 | k + 1, x3, x6, x7, x8 => if x8 < x7 then (if 0 ≤ x8 then (if x8 < (x6.length : Int) then (Dk.l0 k (wrap64 (x3 + (wrap64 ((wrap64 (((Ah x6 x8).f1) - ((Ah x6 x8).f0))) + 1)))) x6 x7 (wrap64 (x8 + 1))) else (none)) else (none)) else (some x3)
def Dk.f (k : Nat) (l0 : List (S95)) : Option (Int) := Dk.l0 k 0 l0 (l0.length : Int) 0
theorem Dk.calls (k : Nat) (A0 : Option Addr) (c0 : Nat) (l0 : List (S95)) (r : Int) (w : World) (hr0 : Kd.C k95 w A0 l0.length l0) (hc0 : l0.length ≤ c0) (h : Dk.f k l0 = some r) :
 Calls Tryz.prog 68 #[.slice A0 l0.length c0] w fun e w' => e = .returned (.int .i64 r) ∧ Below w.heap.size w w' := by
 have hu95 := Tryz.underlying95; have HR0 := zk hr0; have HC0 := zk hc0; clear hr0 hc0; have HB := zk (Below.refl w.heap.size w); have H : (Dk.l0 k 0 l0 (l0.length : Int) 0) = some r := h; clear h; have H' := zk H; clear H; go_enter Tryz.func68, Tryz.ntmps68
 go_wp2
 go_loopg [3, 8] k (fun kq v3 v8 w' => ∃ (x3_1 : Int) (x8_1 : Int), v3 = .int .i64 x3_1 ∧ v8 = .int .i64 x8_1 ∧ Aa (Dk.l0 kq x3_1 l0 (l0.length : Int) x8_1 = some r) ∧ Aa (kq ≤ k) ∧ Aa (Below w.heap.size w w'))
 case atStart => exact ⟨(0), (0), zR, zR, H', ⟨Nat.le_refl _⟩, ⟨zU HB.out⟩⟩
 case round =>
  clear H'; obtain ⟨x3_1, x8_1, rfl, rfl, HA, HK1, HB⟩ := hrel
  cases gk with
  | zero => exact absurd HA.out (by simp [Dk.l0])
  | succ k1 =>
   have H := HA.out; clear HA; simp only [Dk.l0] at H; by_cases c2 : x8_1 < (l0.length : Int)
   ·rw [if_pos c2] at H; have c2b0 : decide (x8_1 < (l0.length : Int)) = true := decide_eq_true c2; clear c2; by_cases c3 : 0 ≤ x8_1
    ·rw [if_pos c3] at H; have c3b0 : decide (0 ≤ x8_1) = true := decide_eq_true c3; clear c3; by_cases c4 : x8_1 < (l0.length : Int)
     ·rw [if_pos c4] at H; have c4b0 : decide (x8_1 < (l0.length : Int)) = true := decide_eq_true c4; clear c4; have H' := zk H; clear H; have p120 : 0 ≤ (x8_1 : Int) := zT; have q120 : x8_1 < (l0.length : Int) := zT; obtain ⟨ad120, e120, hx120_0, hx120_1⟩ := Dg HR0.out x8_1 p120 q120; cases e120; replace hx120_0 := zcl HB.out hx120_0; replace hx120_1 := zcl HB.out hx120_1; replace p120 := eq_true p120; replace q120 := eq_true q120; go_wp2_with (first | ((with_reducible refine Bd (N := 5) rfl ?_); refine Bb ?hg (N := 5) ?hd (cs := #[.int .i64 0, .int .i64 0]) (t := 95) ?hr ?_; (case hd => rfl); (case hg => rfl); (case hr => first | (go_simp; done) | (go_simp; rfl)); intro gb121 hg w5 hbox hb; have BK121 := zk (hbox); have GE121 := zk ((zg hg HB.out : w.heap.size ≤ gb121)); replace HB := zs HB hb;  clear hb hbox hg; have hcz6_0 : w5.cell? ⟨gb121, 0, none⟩ = some (.int .i64 0) := zh BK121.out 0; have hcz6_1 : w5.cell? ⟨gb121, 1, none⟩ = some (.int .i64 0) := zh BK121.out 1; have hfz6_0 := Ac BK121.out 0; have hfz6_1 := Ac BK121.out 1))
      go_roundg k1
      case measure => have := HK1.out; omega
      case rel => exact ⟨(wrap64 (x3_1 + (wrap64 ((wrap64 (((Ah l0 x8_1).f1) - ((Ah l0 x8_1).f0))) + 1)))), (wrap64 (x8_1 + 1)), zR, zR, H', ⟨by have := HK1.out; omega⟩, ⟨zU HB.out⟩⟩
     ·rw [if_neg c4] at H; cases H
    ·rw [if_neg c3] at H; cases H
   ·rw [if_neg c2] at H; have c2b0 : decide (x8_1 < (l0.length : Int)) = false := decide_eq_false c2; clear c2; obtain rfl := Option.some.inj H; go_wp2
    go_ret
    exact ⟨ze, zU HB.out⟩
def Fo.f (k : Nat) (l0 : List (S58)) : Option (Int) := (Ee.f k l0).bind fun t122 => ((Dk.f k t122).bind fun t125 => (some t125))
theorem Fo.calls (k : Nat) (A0 : Option Addr) (c0 : Nat) (l0 : List (S58)) (r : Int) (w : World) (hr0 : Kd.C k58 w A0 l0.length l0) (hc0 : l0.length ≤ c0) (h : Fo.f k l0 = some r) :
 Calls Tryz.prog 46 #[.slice A0 l0.length c0] w fun e w' => e = .returned (.int .i64 r) ∧ Below w.heap.size w w' := by
 have HR0 := zk hr0; have HC0 := zk hc0; clear hr0 hc0; have HB := zk (Below.refl w.heap.size w); have H : ((Ee.f k l0).bind fun t122 => ((Dk.f k t122).bind fun t125 => (some t125))) = some r := h; clear h; replace H := Option.bind_eq_some_iff.mp H; obtain ⟨t122, A20, H⟩ := H; replace H : ((Dk.f k t122).bind fun t125 => (some t125)) = some r := H; have A2 := zk A20; clear A20; replace H := Option.bind_eq_some_iff.mp H; obtain ⟨t125, A30, H⟩ := H; replace H : (some t125) = some r := H; have A3 := zk A30; clear A30; obtain rfl := Option.some.inj H; go_enter Tryz.func46, Tryz.ntmps46
 go_wp2_with (first | ((with_reducible refine Al (f := 56) rfl ?_); refine Bz (some 4) rfl rfl Tryz.func56 zz rfl #[.slice A0 l0.length c0] rfl zM ?_; (with_reducible refine (Ee.calls k _ _ l0 t122 _ ?side1 ?side2 A2.out).mono ?_); (case side1 => exact zc HR0.out); (case side2 => exact HC0.out); rintro e w4 ⟨v123, rfl, ho0, hb⟩; refine ⟨_, rfl, ?_⟩; have HO124 := zk (Kd.R_lower ho0 (Ar (zU HB.out))); replace HB := zs HB hb;  (try clear hb); (try clear hb2); (try clear hk); (try clear hi); (try clear ho0); obtain ⟨Ao5, co5, eo5⟩ := Kd.R_slice HO124.out; subst eo5) | ((with_reducible refine Al (f := 68) rfl ?_); refine Bz (some 5) rfl rfl Tryz.func68 zz rfl #[.slice Ao5 t122.length co5] rfl zM ?_; (with_reducible refine (Dk.calls k _ _ t122 t125 _ ?side1 ?side2 A3.out).mono ?_); (case side1 => exact zc (Kd.R_reads' HO124.out).2.2); (case side2 => exact (Kd.R_reads' HO124.out).2.1); rintro e w6 ⟨rfl, hb⟩; refine ⟨_, rfl, ?_⟩; replace HO124 := zk (Kd.R_below (zr HO124.out) hb); replace HB := zs HB hb;  (try clear hb); (try clear hb2); (try clear hk); (try clear hi)))
 go_ret
 exact ⟨ze, zU HB.out⟩
def Cw.l0 : Nat → Int → List (List (S58)) → Int → Int → List (List (S58)) → Int → Option (Int)
 | 0, _, _, _, _, _, _ => none
 | k + 1, x3, x7, x8, x9, x127000, x127001 => if x9 < x8 then (if 0 ≤ x9 then (if x9 < (x7.length : Int) then ((Fo.f k (Co x7 x9)).bind fun t128 => (Cw.l0 k (mn (wrap64 (x3 * t128)) 1073741825) x7 x8 (wrap64 (x9 + 1)) x127000 x127001)) else (none)) else (none)) else (some (wrap64 ((wrap64 (x127001 + x3)) - 1)))
def Cw.f (k : Nat) (l0_0 : List (List (S58))) (a0_1 : Int) : Option (Int) := Cw.l0 k 1 l0_0 (l0_0.length : Int) 0 l0_0 a0_1
theorem Cw.calls (k : Nat) (A0_0 : Option Addr) (c0_0 : Nat) (l0_0 : List (List (S58))) (a0_1 : Int) (r : Int) (w : World) (hr0_0 : Kd.C (Kd.slice 58 k58) w A0_0 l0_0.length l0_0) (hc0_0 : l0_0.length ≤ c0_0) (h : Cw.f k l0_0 a0_1 = some r) :
 Calls Tryz.prog 26 #[.agg #[.slice A0_0 l0_0.length c0_0, .int .i64 a0_1]] w fun e w' => e = .returned (.int .i64 r) ∧ Below w.heap.size w w' := by
 have hu44 := Tryz.underlying44; have HR0_0 := zk hr0_0; have HC0_0 := zk hc0_0; clear hr0_0 hc0_0; have HB := zk (Below.refl w.heap.size w); have H : (Cw.l0 k 1 l0_0 (l0_0.length : Int) 0 l0_0 a0_1) = some r := h; clear h; have H' := zk H; clear H; go_enter Tryz.func26, Tryz.ntmps26
 go_wp2_with (first | ((with_reducible refine Bd (N := 1) rfl ?_); refine Bb ?hg (N := 1) ?hd (cs := #[.slice A0_0 l0_0.length c0_0, .int .i64 a0_1]) (t := 44) ?hr ?_; (case hd => rfl); (case hg => rfl); (case hr => first | (go_simp; done) | (go_simp; rfl)); intro gb126 hg w2 hbox hb; have BK126 := zk (hbox); have GE126 := zk ((zg hg HB.out : w.heap.size ≤ gb126)); replace HB := zs HB hb;  clear hb hbox hg; have hcz3_0 : w2.cell? ⟨gb126, 0, none⟩ = some (.slice A0_0 l0_0.length c0_0) := zh BK126.out 0; have hcz3_1 : w2.cell? ⟨gb126, 1, none⟩ = some (.int .i64 a0_1) := zh BK126.out 1; have hfz3_0 := Ac BK126.out 0; have hfz3_1 := Ac BK126.out 1))
 go_loopg [3, 9] k (fun kq v3 v9 w' => ∃ (x3_1 : Int) (x9_1 : Int), v3 = .int .i64 x3_1 ∧ v9 = .int .i64 x9_1 ∧ Aa (Cw.l0 kq x3_1 l0_0 (l0_0.length : Int) x9_1 l0_0 a0_1 = some r) ∧ Aa (kq ≤ k) ∧ Aa (w'.heap[gb126]? = some (.cells #[(.slice A0_0 l0_0.length c0_0), .int .i64 a0_1] 44 (0, 0))) ∧ Aa (Below w.heap.size w w'))
 case atStart => exact ⟨(1), (0), zR, zR, H', ⟨Nat.le_refl _⟩, ⟨zb BK126.out⟩, ⟨zU HB.out⟩⟩
 case round =>
  clear H'; (try clear c2); (try clear p2); (try clear hcz3_0); (try clear hcz3_1); (try clear hfz3_0); (try clear hfz3_1); obtain ⟨x3_1, x9_1, rfl, rfl, HA, HK1, BK126, HB⟩ := hrel
  cases gk with
  | zero => exact absurd HA.out (by simp [Cw.l0])
  | succ k1 =>
   have H := HA.out; clear HA; simp only [Cw.l0] at H; by_cases c4 : x9_1 < (l0_0.length : Int)
   ·rw [if_pos c4] at H; have c4b0 : decide (x9_1 < (l0_0.length : Int)) = true := decide_eq_true c4; clear c4; by_cases c5 : 0 ≤ x9_1
    ·rw [if_pos c5] at H; have c5b0 : decide (0 ≤ x9_1) = true := decide_eq_true c5; clear c5; by_cases c6 : x9_1 < (l0_0.length : Int)
     ·rw [if_pos c6] at H; have c6b0 : decide (x9_1 < (l0_0.length : Int)) = true := decide_eq_true c6; clear c6; replace H := Option.bind_eq_some_iff.mp H; obtain ⟨t128, A70, H⟩ := H; replace H : (Cw.l0 k1 (mn (wrap64 (x3_1 * t128)) 1073741825) l0_0 (l0_0.length : Int) (wrap64 (x9_1 + 1)) l0_0 a0_1) = some r := H; have A7 := zk A70; clear A70; obtain ⟨ji8, hji8⟩ : ∃ j_ : Int, (mn (wrap64 (x3_1 * t128)) 1073741825) = j_ := ⟨_, rfl⟩
      replace H : (Cw.l0 k1 ji8 l0_0 (l0_0.length : Int) (wrap64 (x9_1 + 1)) l0_0 a0_1) = some r := by first | (rw [hji8] at H; exact H) | (simp only [hji8] at H ⊢; exact H)
      (try rw [hji8] at A7)
      have hji8_ : (if 1073741825 < (wrap64 (x3_1 * t128)) then 1073741825 else (wrap64 (x3_1 * t128))) = ji8 := hji8; have H' := zk H; clear H; have p127 : 0 ≤ (x9_1 : Int) := zT; have q127 : x9_1 < (l0_0.length : Int) := zT; obtain ⟨ad127, A127_0, c127_0, e127, hx127_0, hl127_0, hi127_0⟩ := Ha HR0_0.out x9_1 p127 q127; cases e127; replace hx127_0 := zcl HB.out hx127_0; have HR127_0 := zk hi127_0; have HC127_0 := zk hl127_0; clear hi127_0 hl127_0; replace p127 := eq_true p127; replace q127 := eq_true q127; go_wp2_with (first | ((with_reducible refine Al (f := 46) rfl ?_); refine Bz (some 15) rfl rfl Tryz.func46 zz rfl #[.slice A127_0 (Co l0_0 x9_1).length c127_0] rfl zM ?_; (with_reducible refine (Fo.calls k1 _ _ (Co l0_0 x9_1) t128 _ ?side1 ?side2 A7.out).mono ?_); (case side1 => exact zc (Kd.C_below HR127_0.out HB.out)); (case side2 => exact HC127_0.out); rintro e w9 ⟨rfl, hb⟩; refine ⟨_, rfl, ?_⟩; replace BK126 := zk (zbb BK126.out hb); replace HB := zs HB hb;  (try clear hb); (try clear hb2); (try clear hk); (try clear hi)))
      go_roundg k1
      case measure => have := HK1.out; omega
      case rel => exact ⟨(ji8), (wrap64 (x9_1 + 1)), (by first | rfl | (simp; done) | (rw [← hji8_, if_pos (by omega)]; first | done | rfl) | (rw [← hji8_, if_neg (by omega)]; first | done | rfl) | (simp only [← hji8] <;> (first | rfl | simp)) | (simp [*]; done)), zR, H', ⟨by have := HK1.out; omega⟩, ⟨zb BK126.out⟩, ⟨zU HB.out⟩⟩
     ·rw [if_neg c6] at H; cases H
    ·rw [if_neg c5] at H; cases H
   ·rw [if_neg c4] at H; have c4b0 : decide (x9_1 < (l0_0.length : Int)) = false := decide_eq_false c4; clear c4; obtain rfl := Option.some.inj H; have hcz10_0 : wr.cell? ⟨gb126, 0, none⟩ = some (.slice A0_0 l0_0.length c0_0) := zh BK126.out 0; have hcz10_1 : wr.cell? ⟨gb126, 1, none⟩ = some (.int .i64 a0_1) := zh BK126.out 1; have hfz10_0 := Ac BK126.out 0; have hfz10_1 := Ac BK126.out 1; go_wp2
    go_ret
    exact ⟨ze, zU HB.out⟩
end Go.Proofs.I
