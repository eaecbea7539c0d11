/- Words and walks of this claim, of the text Bx4. -/
import Derived.Test.YtkcklnmbeinfkaaKrQW0
import Derived.Test.YtkcklnmbeinfkaaKrBx0
namespace Go.Proofs.Ytkcklnmbeinfkaa.B
open Go.RowKit Go.Proofs.YtkcklnmbeinfkaaW.PrintWords Go.Proofs.YtkcklnmbeinfkaaW.PrintLast Go.Proofs.YtkcklnmbeinfkaaW.PrintMore
attribute [local go_sem] max2_int min2_int max_two min_two max_three min_three max_four min_four
set_option linter.unusedVariables false
set_option linter.unusedSimpArgs false
def sets_Run_140.l0 : Nat → List (S102) → List (S139) → Int → Int → Option ((List (S102)))
 | 0, _, _, _, _ => none
 | k + 1, x3, x9, x10, x11 => if x11 < x10 then (if 0 ≤ x11 then (if x11 < (x9.length : Int) then (if x3.length < 8796093022208 then (sets_Run_140.l0 k (x3 ++ [(⟨(rd_T139 x9 x11).f0, (rd_T139 x9 x11).f1⟩ : S102)]) x9 x10 (wrap64 (x11 + 1))) else (none)) else (none)) else (none)) else (some x3)
def sets_Run_140.f (k : Nat) (l0 : List (S139)) : Option ((List (S102))) := if 0 ≤ (l0.length : Int) then (if ((l0.length : Int) : Int).toNat ≤ 17592186044416 then (sets_Run_140.l0 k (([] : List (S102))) l0 (l0.length : Int) 0) else (none)) else (none)
theorem sets_Run_140.mono_l : ∀ k, (∀ y0 y1 y2 y3, LeO (sets_Run_140.l0 k y0 y1 y2 y3) (sets_Run_140.l0 (k + 1) y0 y1 y2 y3))
 | 0 => fun _ _ _ _ r h => by simp [sets_Run_140.l0] at h
 | k + 1 => by
  have ih0 := sets_Run_140.mono_l k
  ·intro y0 y1 y2 y3; unfold sets_Run_140.l0; repeat' first
   | (with_reducible exact ih0 _ _ _ _)
   | (with_reducible exact LeO.refl _)
   | (with_reducible exact LeO.none _)
   | (with_reducible refine LeO.ite ?_ ?_)
   | (with_reducible refine LeO.bind ?_ (fun _ => ?_))
   | exact ih0 _ _ _ _
   | exact LeO.none _
   | refine LeO.ite ?_ ?_
   | refine LeO.bind ?_ (fun _ => ?_)
theorem sets_Run_140.mono : ∀ a0 k, LeO (sets_Run_140.f k a0) (sets_Run_140.f (k + 1) a0) := by
 intro a0 k; have ih0 := sets_Run_140.mono_l k; unfold sets_Run_140.f; repeat' first
  | (with_reducible exact ih0 _ _ _ _)
  | (with_reducible exact LeO.refl _)
  | (with_reducible exact LeO.none _)
  | (with_reducible refine LeO.ite ?_ ?_)
  | (with_reducible refine LeO.bind ?_ (fun _ => ?_))
  | exact ih0 _ _ _ _
  | exact LeO.none _
  | refine LeO.ite ?_ ?_
  | refine LeO.bind ?_ (fun _ => ?_)
set_option maxHeartbeats 8000000 in
set_option maxRecDepth 100000 in
theorem sets_Run_140.calls (k : Nat) (A0 : Option Addr) (c0 : Nat) (l0 : List (S139)) (r : List (S102)) (w : World) (hr0 : Kd.C k139 w A0 l0.length l0) (hc0 : l0.length ≤ c0) (h : sets_Run_140.f k l0 = some r) :
 Calls Try.prog 140 #[.slice A0 l0.length c0] w fun e w' => ∃ v0_ : Value, e = .returned (v0_) ∧ Kd.R k102 102 w' w.heap.size (fun _ => True) v0_ r ∧ Below w.heap.size w w' := by
 have hu139 := Try.underlying139; have HR0 := zk hr0; have HC0 := zk hc0; clear hr0 hc0; have HB := zk (Below.refl w.heap.size w); have H : (if 0 ≤ (l0.length : Int) then (if ((l0.length : Int) : Int).toNat ≤ 17592186044416 then (sets_Run_140.l0 k (([] : List (S102))) l0 (l0.length : Int) 0) else (none)) else (none)) = some r := h; clear h; by_cases c2 : 0 ≤ (l0.length : Int)
 ·rw [if_pos c2] at H; have c2b0 := eq_true c2; have c2b1 : decide (0 ≤ (l0.length : Int)) = true := decide_eq_true c2; clear c2; by_cases c3 : ((l0.length : Int) : Int).toNat ≤ 17592186044416
  ·rw [if_pos c3] at H; have c3b0 := eq_true c3; have c3b1 : decide (((l0.length : Int) : Int).toNat ≤ 17592186044416) = true := decide_eq_true c3; clear c3; obtain ⟨y101, hy101⟩ : ∃ y_ : List (S102), y_ = (([] : List (S102))) := ⟨_, rfl⟩
   replace H : (sets_Run_140.l0 k y101 l0 (l0.length : Int) 0) = some r := by first | (rw [hy101]; with_reducible exact H) | (have H2_ := (Option.bind_some _ _).symm.trans H; rw [hy101]; with_reducible exact H2_) | (have H2_ := (Option.bind_some _ _).symm.trans H; with_reducible exact H2_) | with_reducible exact H | (rw [hy101]; exact H) | exact H
   have Ny101 := zk hy101; clear hy101; have H' := zk H; clear H; go_enter Try.func140, Try.ntmps140
   go_wp2_with (first | ((with_reducible refine gate_dst (N := 8) rfl ?_); refine KdCap.R_makecap k102 _ 102 rfl (N := 8) rfl 27 _ _ rfl (l0.length : Int) rfl rfl Try.underlying27 (.agg #[(.int .i64 0), (.int .i64 0)]) 16 info102 (by decide) (ok := fun _ => True) (okp := fun _ => True) (fun _ hk => hk) trivial zT (Nat.le_trans (Nat.mul_le_mul_right _ (zT : (l0.length : Int).toNat ≤ 17592186044416)) (by omega)) (Below.refl _ _) (Nat.le_refl _) ?_; intro v102 w4 ho5 hb hg_ hnew_; clear hg_ hnew_; (first | rw [← Ny101.out] at ho5 | (simp only [Int.reduceToNat] at ho5; rw [← Ny101.out] at ho5)); have HO103 := zk (Kd.R_lower ho5 (below_size (zU HB.out))); replace HB := zk (below_step (zU HB.out) hb);  clear hb ho5))
   go_loopg [3, 11] k (fun kq v3 v11 w' => ∃ (x3_1 : List (S102)) (x11_1 : Int), v11 = .int .i64 x11_1 ∧ Aside0 (sets_Run_140.l0 kq x3_1 l0 (l0.length : Int) x11_1 = some r) ∧ Aside0 (kq ≤ k) ∧ Aside0 (Kd.R k102 102 w' w.heap.size (fun _ => True) v3 x3_1) ∧ Aside0 (Below w.heap.size w w'))
   case atStart => exact ⟨(y101), (0), zR, H', ⟨Nat.le_refl _⟩, ⟨by (with_reducible repeat (first | apply zA | apply zB | apply zC)); exact HO103.out⟩, ⟨zU HB.out⟩⟩
   case round =>
    clear H'; (try clear c1); (try clear c2); (try clear c2b0); (try clear c2b1); (try clear p2); (try clear c3); (try clear c3b0); (try clear c3b1); obtain ⟨x3_1, x11_1, rfl, HA, HK1, HO_3, HB⟩ := hrel
    cases gk with
    | zero => exact absurd HA.out (by simp [sets_Run_140.l0])
    | succ k1 =>
     have H := HA.out; clear HA; simp only [sets_Run_140.l0] at H; by_cases c6 : x11_1 < (l0.length : Int)
     ·rw [if_pos c6] at H; have c6b0 : decide (x11_1 < (l0.length : Int)) = true := decide_eq_true c6; clear c6; by_cases c7 : 0 ≤ x11_1
      ·rw [if_pos c7] at H; have c7b0 : decide (0 ≤ x11_1) = true := decide_eq_true c7; clear c7; by_cases c8 : x11_1 < (l0.length : Int)
       ·rw [if_pos c8] at H; have c8b0 : decide (x11_1 < (l0.length : Int)) = true := decide_eq_true c8; clear c8; by_cases c9 : x3_1.length < 8796093022208
        ·rw [if_pos c9] at H; have LMc9 := zk c9; clear c9; obtain ⟨y106, hy106⟩ : ∃ y_ : List (S102), y_ = (x3_1 ++ [(⟨(rd_T139 l0 x11_1).f0, (rd_T139 l0 x11_1).f1⟩ : S102)]) := ⟨_, rfl⟩
         replace H : (sets_Run_140.l0 k1 y106 l0 (l0.length : Int) (wrap64 (x11_1 + 1))) = some r := by first | (rw [hy106]; with_reducible exact H) | (have H2_ := (Option.bind_some _ _).symm.trans H; rw [hy106]; with_reducible exact H2_) | (have H2_ := (Option.bind_some _ _).symm.trans H; with_reducible exact H2_) | with_reducible exact H | (rw [hy106]; exact H) | exact H
         have Ny106 := zk hy106; clear hy106; have H' := zk H; clear H; have p104 : 0 ≤ (x11_1 : Int) := zT; have q104 : x11_1 < (l0.length : Int) := zT; obtain ⟨ad104, e104, hx104_0, hx104_1⟩ := at_T139 HR0.out x11_1 p104 q104; cases e104; replace hx104_0 := zcl HB.out hx104_0; replace hx104_1 := zcl HB.out hx104_1; replace p104 := eq_true p104; replace q104 := eq_true q104; go_wp2_with (first | ((with_reducible refine gate_dst (N := 5) rfl ?_); refine box_event ?hg (N := 5) ?hd (cs := #[.int .i64 0, .int .i64 0]) (t := 139) ?hr ?_; (case hd => rfl); (case hg => rfl); (case hr => first | (go_simp; done) | (go_simp; rfl)); intro gb105 hg w10 hbox hb; replace HO_3 := zk (Kd.R_below (zr HO_3.out) hb); have BK105 := zk (hbox); have GE105 := zk ((zg hg HB.out : w.heap.size ≤ gb105)); replace HB := zk (below_step (zU HB.out) hb);  clear hb hbox hg; have hcz11_0 : w10.cell? ⟨gb105, 0, none⟩ = some (.int .i64 0) := zh BK105.out 0; have hcz11_1 : w10.cell? ⟨gb105, 1, none⟩ = some (.int .i64 0) := zh BK105.out 1; have hfz11_0 := blk_frozen BK105.out 0; have hfz11_1 := blk_frozen BK105.out 1) | ((with_reducible refine gate_builtin (b := .append) (xs := #[.tmp 15, .tmp 17]) rfl ?_); at_builtin; refine Kd.R_append k102 (w0 := w) w.heap.size rfl (.tmp 15) (.tmp 17) 27 102 (.agg #[(.int .i64 0), (.int .i64 0)]) 16 rfl Try.underlying27 info102 rfl (by decide) (by omega) u3 x3_1 (⟨(rd_T139 l0 x11_1).f0, (rd_T139 l0 x11_1).f1⟩ : S102) [.int .i64 ((rd_T139 l0 x11_1).f0), .int .i64 ((rd_T139 l0 x11_1).f1)] (fun _ => True) (fun _ => False) rfl (by first | (go_simp; done) | (go_simp; rfl)) ?aP (fun _ hk => hk.elim) ?aF ?aO ?aB ?aS ?aL ?_; (case aP => exact k102_mkM _ _ _ (⟨(rd_T139 l0 x11_1).f0, (rd_T139 l0 x11_1).f1⟩ : S102)); (case aB => exact (zU HB.out)); (case aF => exact (fun _ _ => trivial)); (case aO => exact (by (with_reducible repeat (first | apply zA | apply zB | apply zC)); exact Kd.R_mono (Kd.R_far (p := ⟨gb105, 1, none⟩) (Kd.R_far (p := ⟨gb105, 0, none⟩) (Kd.R_types HO_3.out BK105.out (by decide)) (fun _ hk => hk.2) (.int .i64 ((rd_T139 l0 x11_1).f0))) (fun _ hk => hk.2) (.int .i64 ((rd_T139 l0 x11_1).f1))) (fun _ hk => trivial))); (case aS => exact (below_size (zU HB.out))); (case aL => have := LMc9.out; omega); intro v107 w12 ho hb hg hat; rw [← Ny106.out] at ho; have n0_ := zk (blk_grown (g := gb105) (o := .cells #[.int .i64 ((rd_T139 l0 x11_1).f0), .int .i64 ((rd_T139 l0 x11_1).f1)] 139 (0, 0)) (by (with_reducible repeat (first | refine blk_drewN ?_ _ | refine blk_drew ?_ | refine blk_alloc ?_ _)); refine blk_put (cs := #[.int .i64 ((rd_T139 l0 x11_1).f0), .int .i64 0]) ?_ 1 _ rfl; (with_reducible repeat (first | refine blk_drewN ?_ _ | refine blk_drew ?_ | refine blk_alloc ?_ _)); refine blk_put (cs := #[.int .i64 0, .int .i64 0]) ?_ 0 _ rfl; exact zb BK105.out) hg (Kd.R_ne HO_3.out BK105.out (by decide))); have n1_ := zk (hb); have n2_ := zk (ho); clear BK105; clear HB; clear HO_3; have BK105 := n0_; have HB := n1_; have HO108 := n2_; clear n0_ n1_ n2_; clear ho hb hg hat))
         go_roundg k1
         case measure => have := HK1.out; omega
         case rel => exact ⟨(y106), (wrap64 (x11_1 + 1)), zR, H', ⟨by have := HK1.out; omega⟩, ⟨by (with_reducible repeat (first | apply zA | apply zB | apply zC)); exact HO108.out⟩, ⟨zU HB.out⟩⟩
        ·rw [if_neg c9] at H; exact absurd H (by simp)
       ·rw [if_neg c8] at H; exact absurd H (by simp)
      ·rw [if_neg c7] at H; exact absurd H (by simp)
     ·rw [if_neg c6] at H; have c6b0 : decide (x11_1 < (l0.length : Int)) = false := decide_eq_false c6; clear c6; obtain rfl := Option.some.inj H; go_wp2
      go_ret
      exact ⟨_, ze, by (with_reducible repeat (first | apply zA | apply zB | apply zC)); exact HO_3.out, zU HB.out⟩
  ·rw [if_neg c3] at H; exact absurd H (by simp)
 ·rw [if_neg c2] at H; exact absurd H (by simp)
def scalars_back.f (k : Nat) (l0 : List (S139)) : Option ((List (S102))) := (sets_Run_140.f k l0).bind fun t109 => (some t109)
theorem scalars_back.mono : ∀ a0 k, LeO (scalars_back.f k a0) (scalars_back.f (k + 1) a0) := by
 intro a0 k; unfold scalars_back.f; repeat' first
  | (with_reducible exact sets_Run_140.mono _ _)
  | (with_reducible exact LeO.refl _)
  | (with_reducible exact LeO.none _)
  | (with_reducible refine LeO.ite ?_ ?_)
  | (with_reducible refine LeO.bind ?_ (fun _ => ?_))
  | exact sets_Run_140.mono _ _
  | exact LeO.none _
  | refine LeO.ite ?_ ?_
  | refine LeO.bind ?_ (fun _ => ?_)
set_option maxHeartbeats 8000000 in
set_option maxRecDepth 100000 in
theorem scalars_back.calls (k : Nat) (A0 : Option Addr) (c0 : Nat) (l0 : List (S139)) (r : List (S102)) (w : World) (hr0 : Kd.C k139 w A0 l0.length l0) (hc0 : l0.length ≤ c0) (h : scalars_back.f k l0 = some r) :
 Calls Try.prog 118 #[.slice A0 l0.length c0] w fun e w' => ∃ v0_ : Value, e = .returned (v0_) ∧ Kd.R k102 102 w' w.heap.size (fun _ => True) v0_ r ∧ Below w.heap.size w w' := by
 have HR0 := zk hr0; have HC0 := zk hc0; clear hr0 hc0; have HB := zk (Below.refl w.heap.size w); have H : ((sets_Run_140.f k l0).bind fun t109 => (some t109)) = some r := h; clear h; replace H := Option.bind_eq_some_iff.mp H; obtain ⟨t109, A20, H⟩ := H; replace H : (some t109) = some r := H; have A2 := zk A20; clear A20; obtain rfl := Option.some.inj H; go_enter Try.func118, Try.ntmps118
 go_wp2_with (first | ((with_reducible refine gate_callee (f := 140) rfl ?_); refine goesL_ (some 4) rfl rfl Try.func140 zz rfl #[.slice A0 l0.length c0] rfl zM ?_; (with_reducible refine (sets_Run_140.calls k _ _ l0 t109 _ ?side1 ?side2 A2.out).mono ?_); (case side1 => exact zc HR0.out); (case side2 => exact HC0.out); rintro e w3 ⟨v110, rfl, ho0, hb⟩; refine ⟨_, rfl, ?_⟩; have HO111 := zk (Kd.R_lower ho0 (below_size (zU HB.out))); replace HB := zk (below_step (zU HB.out) hb);  (try clear hb); (try clear hb2); (try clear hk); (try clear hi); (try clear ho0)))
 go_ret
 exact ⟨_, ze, by (with_reducible repeat (first | apply zA | apply zB | apply zC)); exact HO111.out, zU HB.out⟩
mutual
def sets_Meet.l0 : Nat → List (S139) → List (S139) → List (S139) → Option ((List (S139)))
 | 0, _, _, _ => none
 | k + 1, x0, x1, x5 => if (x0.length : Int) > 0 then (sets_Meet.j1 k x0 x1 x5 (decide ((x1.length : Int) > 0))) else (sets_Meet.j1 k x0 x1 x5 false)
def sets_Meet.j1 : Nat → List (S139) → List (S139) → List (S139) → Bool → Option ((List (S139)))
 | 0, _, _, _, _ => none
 | k + 1, x0, x1, x5, x15 => if x15 = true then (if 0 < (x0.length : Int) then (if 0 < (x1.length : Int) then (if (mx ((rd_T139 x0 0).f0) ((rd_T139 x1 0).f0)) ≤ (mn ((rd_T139 x0 0).f1) ((rd_T139 x1 0).f1)) then (if x5.length < 8796093022208 then ((some (x5 ++ [(⟨mx ((rd_T139 x0 0).f0) ((rd_T139 x1 0).f0), mn ((rd_T139 x0 0).f1) ((rd_T139 x1 0).f1)⟩ : S139)] : List (S139))).bind fun y116 => (if ((rd_T139 x0 0).f1) < ((rd_T139 x1 0).f1) then (if 1 ≤ (x0.length : Int) then (sets_Meet.l0 k (x0.drop 1) x1 y116) else (none)) else (if 1 ≤ (x1.length : Int) then (sets_Meet.l0 k x0 (x1.drop 1) y116) else (none)))) else (none)) else (if ((rd_T139 x0 0).f1) < ((rd_T139 x1 0).f1) then (if 1 ≤ (x0.length : Int) then (sets_Meet.l0 k (x0.drop 1) x1 x5) else (none)) else (if 1 ≤ (x1.length : Int) then (sets_Meet.l0 k x0 (x1.drop 1) x5) else (none)))) else (none)) else (none)) else (some x5)
end
def sets_Meet.f (k : Nat) (l0 : List (S139)) (l1 : List (S139)) : Option ((List (S139))) := sets_Meet.l0 k l0 l1 ([] : List (S139))
theorem sets_Meet.mono_l : ∀ k, (∀ y0 y1 y2, LeO (sets_Meet.l0 k y0 y1 y2) (sets_Meet.l0 (k + 1) y0 y1 y2)) ∧ (∀ y0 y1 y2 y3, LeO (sets_Meet.j1 k y0 y1 y2 y3) (sets_Meet.j1 (k + 1) y0 y1 y2 y3))
 | 0 => ⟨fun _ _ _ r h => by simp [sets_Meet.l0] at h, fun _ _ _ _ r h => by simp [sets_Meet.j1] at h⟩
 | k + 1 => by
  obtain ⟨ih0, ih1⟩ := sets_Meet.mono_l k; refine ⟨?_, ?_⟩
  ·intro y0 y1 y2; unfold sets_Meet.l0; repeat' first
   | (with_reducible exact ih0 _ _ _)
   | (with_reducible exact ih1 _ _ _ _)
   | (with_reducible exact LeO.refl _)
   | (with_reducible exact LeO.none _)
   | (with_reducible refine LeO.ite ?_ ?_)
   | (with_reducible refine LeO.bind ?_ (fun _ => ?_))
   | exact ih0 _ _ _
   | exact ih1 _ _ _ _
   | exact LeO.none _
   | refine LeO.ite ?_ ?_
   | refine LeO.bind ?_ (fun _ => ?_)
  ·intro y0 y1 y2 y3; unfold sets_Meet.j1; repeat' first
   | (with_reducible exact ih0 _ _ _)
   | (with_reducible exact ih1 _ _ _ _)
   | (with_reducible exact LeO.refl _)
   | (with_reducible exact LeO.none _)
   | (with_reducible refine LeO.ite ?_ ?_)
   | (with_reducible refine LeO.bind ?_ (fun _ => ?_))
   | exact ih0 _ _ _
   | exact ih1 _ _ _ _
   | exact LeO.none _
   | refine LeO.ite ?_ ?_
   | refine LeO.bind ?_ (fun _ => ?_)
theorem sets_Meet.mono : ∀ a0 a1 k, LeO (sets_Meet.f k a0 a1) (sets_Meet.f (k + 1) a0 a1) := by
 intro a0 a1 k; obtain ⟨ih0, ih1⟩ := sets_Meet.mono_l k; unfold sets_Meet.f; repeat' first
  | (with_reducible exact ih0 _ _ _)
  | (with_reducible exact ih1 _ _ _ _)
  | (with_reducible exact LeO.refl _)
  | (with_reducible exact LeO.none _)
  | (with_reducible refine LeO.ite ?_ ?_)
  | (with_reducible refine LeO.bind ?_ (fun _ => ?_))
  | exact ih0 _ _ _
  | exact ih1 _ _ _ _
  | exact LeO.none _
  | refine LeO.ite ?_ ?_
  | refine LeO.bind ?_ (fun _ => ?_)
set_option maxHeartbeats 8000000 in
set_option maxRecDepth 100000 in
theorem sets_Meet.calls (k : Nat) (P0_ : Nat → Prop) (A0 : Option Addr) (c0 : Nat) (l0 : List (S139)) (P1_ : Nat → Prop) (A1 : Option Addr) (c1 : Nat) (l1 : List (S139)) (r : List (S139)) (w : World) (hs0 : Kd.V k139 139 w w.heap.size (fun k_ => P0_ k_) (.slice A0 l0.length c0) l0) (hs1 : Kd.V k139 139 w w.heap.size (fun k_ => P1_ k_) (.slice A1 l1.length c1) l1) (h : sets_Meet.f k l0 l1 = some r) :
 Calls Try.prog 131 #[.slice A0 l0.length c0, .slice A1 l1.length c1] w fun e w' => ∃ v0_ : Value, e = .returned (v0_) ∧ Kd.R k139 139 w' w.heap.size (fun k_ => (w.heap.size ≤ k_)) v0_ r ∧ Below w.heap.size w w' := by
 have hu139 := Try.underlying139; have HO0 := zk (show Kd.V k139 139 w w.heap.size (fun k_ => ((P0_ k_ ∨ P1_ k_) ∨ w.heap.size ≤ k_)) (.slice A0 l0.length c0) l0 from Kd.V_mono hs0 (fun k_ hk => .inl (.inl hk))); have HO1 := zk (show Kd.V k139 139 w w.heap.size (fun k_ => ((P0_ k_ ∨ P1_ k_) ∨ w.heap.size ≤ k_)) (.slice A1 l1.length c1) l1 from Kd.V_mono hs1 (fun k_ hk => .inl (.inr hk))); have HB := zk (Below.refl w.heap.size w); have H : (sets_Meet.l0 k l0 l1 ([] : List (S139))) = some r := h; clear h; have H' := zk H; clear H; go_enter Try.func131, Try.ntmps131
 go_wp2
 repeat (go_quiet (fail); try go_wp2)
 go_loopg [0, 1, 5] k (fun kq v0 v1 v5 w' => ∃ (x0_1 : List (S139)) (x1_1 : List (S139)) (x5_1 : List (S139)), Aside0 (sets_Meet.l0 kq x0_1 x1_1 x5_1 = some r) ∧ Aside0 (kq ≤ k) ∧ Aside0 (Kd.V k139 139 w' w.heap.size (fun k_ => ((P0_ k_ ∨ P1_ k_) ∨ w.heap.size ≤ k_) ∧ some k_ ≠ (v5 : Value).ownBlock) v0 x0_1) ∧ Aside0 (Kd.V k139 139 w' w.heap.size (fun k_ => ((P0_ k_ ∨ P1_ k_) ∨ w.heap.size ≤ k_) ∧ some k_ ≠ (v5 : Value).ownBlock) v1 x1_1) ∧ Aside0 (Kd.R k139 139 w' w.heap.size (fun k_ => (w.heap.size ≤ k_)) v5 x5_1) ∧ Aside0 (Below w.heap.size w w'))
 case atStart => exact ⟨(l0), (l1), (([] : List (S139))), H', ⟨Nat.le_refl _⟩, ⟨by (with_reducible repeat (first | apply Kd.V_alloc | apply Kd.V_drewN | apply Kd.V_drew)); exact Kd.V_mono HO0.out (fun _ hk => ⟨hk, (by simp [Value.ownBlock])⟩)⟩, ⟨by (with_reducible repeat (first | apply Kd.V_alloc | apply Kd.V_drewN | apply Kd.V_drew)); exact Kd.V_mono HO1.out (fun _ hk => ⟨hk, (by simp [Value.ownBlock])⟩)⟩, ⟨by first | exact Kd.R_nil _ _ _ _ _ | exact Kd.N_nil _ _ _ _ _ | exact Kd.V_nil _ _ _ _ _ | exact Kd.Q_nil _ _ _ _ _ | exact Kd.S_nil _ _ _ _ _⟩, ⟨zU HB.out⟩⟩
 case round =>
  clear H'; (try clear c1); (try clear p2); obtain ⟨x0_1, x1_1, x5_1, HA, HK1, HO_0, HO_1, HO_5, HB⟩ := hrel
  cases gk with
  | zero => exact absurd HA.out (by simp [sets_Meet.l0])
  | succ k1 =>
   have H := HA.out; clear HA; simp only [sets_Meet.l0] at H; have HC3 := zk H; clear H; go_upto_region 2 with (fail)
   repeat (go_quiet (fail); go_upto_region 2 with (fail))
   go_cut [15] (fun v15 wc => ∃ (kq : Nat) (x15_2 : Bool), v15 = .bool x15_2 ∧ Aside0 (sets_Meet.j1 kq x0_1 x1_1 x5_1 x15_2 = some r) ∧ Aside0 (kq ≤ k1) ∧ Aside0 (Kd.V k139 139 wc w.heap.size (fun k_ => ((P0_ k_ ∨ P1_ k_) ∨ w.heap.size ≤ k_) ∧ some k_ ≠ (u5 : Value).ownBlock) u0 x0_1) ∧ Aside0 (Kd.V k139 139 wc w.heap.size (fun k_ => ((P0_ k_ ∨ P1_ k_) ∨ w.heap.size ≤ k_) ∧ some k_ ≠ (u5 : Value).ownBlock) u1 x1_1) ∧ Aside0 (Kd.R k139 139 wc w.heap.size (fun k_ => (w.heap.size ≤ k_)) u5 x5_1) ∧ Aside0 (Below w.heap.size w wc))
   case first =>
    have H := HC3.out; clear HC3; by_cases c4 : (x0_1.length : Int) > 0
    ·rw [if_pos c4] at H; have c4b0 : decide (0 < (x0_1.length : Int)) = true := decide_eq_true c4; have c4b1 : decide (0 < x0_1.length) = true := decide_eq_true (by omega); clear c4
     (first | rw [c4b0] | (simp only [i64_w, i32_w]; rw [c4b0]) | skip)
     have H' := zk H; clear H; obtain ⟨Ao5, co5, eo5⟩ := Kd.V_slice HO_0.out; subst eo5; obtain ⟨Ao6, co6, eo6⟩ := Kd.V_slice HO_1.out; subst eo6; go_wp2
     repeat (go_quiet (fail); try go_wp2)
     go_meet
     case rel => exact ⟨_, (decide ((x1_1.length : Int) > 0)), zR, H', ⟨by have := HK1.out; first | omega | exact Nat.le_refl _⟩, ⟨by (with_reducible repeat (first | apply Kd.V_alloc | apply Kd.V_drewN | apply Kd.V_drew)); exact HO_0.out⟩, ⟨by (with_reducible repeat (first | apply Kd.V_alloc | apply Kd.V_drewN | apply Kd.V_drew)); exact HO_1.out⟩, ⟨by (with_reducible repeat (first | apply zA | apply zB | apply zC)); exact HO_5.out⟩, ⟨zU HB.out⟩⟩
    ·rw [if_neg c4] at H; have c4b0 : decide (0 < (x0_1.length : Int)) = false := decide_eq_false c4; have c4b1 : decide (0 < x0_1.length) = false := decide_eq_false (by omega); clear c4
     (first | rw [c4b0] | (simp only [i64_w, i32_w]; rw [c4b0]) | skip)
     have H' := zk H; clear H; obtain ⟨Ao7, co7, eo7⟩ := Kd.V_slice HO_0.out; subst eo7; go_wp2
     repeat (go_quiet (fail); try go_wp2)
     go_meet
     case rel => exact ⟨_, (false), zR, H', ⟨by have := HK1.out; first | omega | exact Nat.le_refl _⟩, ⟨by (with_reducible repeat (first | apply Kd.V_alloc | apply Kd.V_drewN | apply Kd.V_drew)); exact HO_0.out⟩, ⟨by (with_reducible repeat (first | apply Kd.V_alloc | apply Kd.V_drewN | apply Kd.V_drew)); exact HO_1.out⟩, ⟨by (with_reducible repeat (first | apply zA | apply zB | apply zC)); exact HO_5.out⟩, ⟨zU HB.out⟩⟩
   case rest =>
    clear HC3; (try clear c1); (try clear p2); (try clear c4); (try clear c4b0); (try clear c4b1); (try clear p2); obtain ⟨kq, x15_2, rfl, HA, HJ2, HO_0, HO_1, HO_5, HB⟩ := hcut; cases kq with
    | zero => exact absurd HA.out (by simp [sets_Meet.j1])
    | succ kj2 =>
     have H := HA.out; clear HA; simp only [sets_Meet.j1] at H; by_cases c8 : x15_2 = true
     ·subst c8; have H1 : (if 0 < (x0_1.length : Int) then (if 0 < (x1_1.length : Int) then (if (mx ((rd_T139 x0_1 0).f0) ((rd_T139 x1_1 0).f0)) ≤ (mn ((rd_T139 x0_1 0).f1) ((rd_T139 x1_1 0).f1)) then (if x5_1.length < 8796093022208 then ((some (x5_1 ++ [(⟨mx ((rd_T139 x0_1 0).f0) ((rd_T139 x1_1 0).f0), mn ((rd_T139 x0_1 0).f1) ((rd_T139 x1_1 0).f1)⟩ : S139)] : List (S139))).bind fun y116 => (if ((rd_T139 x0_1 0).f1) < ((rd_T139 x1_1 0).f1) then (if 1 ≤ (x0_1.length : Int) then (sets_Meet.l0 kj2 (x0_1.drop 1) x1_1 y116) else (none)) else (if 1 ≤ (x1_1.length : Int) then (sets_Meet.l0 kj2 x0_1 (x1_1.drop 1) y116) else (none)))) else (none)) else (if ((rd_T139 x0_1 0).f1) < ((rd_T139 x1_1 0).f1) then (if 1 ≤ (x0_1.length : Int) then (sets_Meet.l0 kj2 (x0_1.drop 1) x1_1 x5_1) else (none)) else (if 1 ≤ (x1_1.length : Int) then (sets_Meet.l0 kj2 x0_1 (x1_1.drop 1) x5_1) else (none)))) else (none)) else (none)) = some r := by rw [if_pos rfl] at H; exact H
      clear H; have H := H1; clear H1; by_cases c9 : 0 < (x0_1.length : Int)
      ·rw [if_pos c9] at H; have c9b0 : decide (0 < (x0_1.length : Int)) = true := decide_eq_true c9; have c9b1 : decide (0 < x0_1.length) = true := decide_eq_true (by omega); clear c9; by_cases c10 : 0 < (x1_1.length : Int)
       ·rw [if_pos c10] at H; have c10b0 : decide (0 < (x1_1.length : Int)) = true := decide_eq_true c10; have c10b1 : decide (0 < x1_1.length) = true := decide_eq_true (by omega); clear c10; obtain ⟨ji11, hji11⟩ : ∃ j_ : Int, (mx ((rd_T139 x0_1 0).f0) ((rd_T139 x1_1 0).f0)) = j_ := ⟨_, rfl⟩
        replace H : (if (ji11) ≤ (mn ((rd_T139 x0_1 0).f1) ((rd_T139 x1_1 0).f1)) then (if x5_1.length < 8796093022208 then ((some (x5_1 ++ [(⟨ji11, mn ((rd_T139 x0_1 0).f1) ((rd_T139 x1_1 0).f1)⟩ : S139)] : List (S139))).bind fun y116 => (if ((rd_T139 x0_1 0).f1) < ((rd_T139 x1_1 0).f1) then (if 1 ≤ (x0_1.length : Int) then (sets_Meet.l0 kj2 (x0_1.drop 1) x1_1 y116) else (none)) else (if 1 ≤ (x1_1.length : Int) then (sets_Meet.l0 kj2 x0_1 (x1_1.drop 1) y116) else (none)))) else (none)) else (if ((rd_T139 x0_1 0).f1) < ((rd_T139 x1_1 0).f1) then (if 1 ≤ (x0_1.length : Int) then (sets_Meet.l0 kj2 (x0_1.drop 1) x1_1 x5_1) else (none)) else (if 1 ≤ (x1_1.length : Int) then (sets_Meet.l0 kj2 x0_1 (x1_1.drop 1) x5_1) else (none)))) = some r := by first | (rw [hji11] at H; exact H) | (simp only [hji11] at H ⊢; exact H)
        have hji11_ : (if ((rd_T139 x0_1 0).f0) < ((rd_T139 x1_1 0).f0) then ((rd_T139 x1_1 0).f0) else ((rd_T139 x0_1 0).f0)) = ji11 := hji11; obtain ⟨ji12, hji12⟩ : ∃ j_ : Int, (mn ((rd_T139 x0_1 0).f1) ((rd_T139 x1_1 0).f1)) = j_ := ⟨_, rfl⟩
        replace H : (if (ji11) ≤ (ji12) then (if x5_1.length < 8796093022208 then ((some (x5_1 ++ [(⟨ji11, ji12⟩ : S139)] : List (S139))).bind fun y116 => (if ((rd_T139 x0_1 0).f1) < ((rd_T139 x1_1 0).f1) then (if 1 ≤ (x0_1.length : Int) then (sets_Meet.l0 kj2 (x0_1.drop 1) x1_1 y116) else (none)) else (if 1 ≤ (x1_1.length : Int) then (sets_Meet.l0 kj2 x0_1 (x1_1.drop 1) y116) else (none)))) else (none)) else (if ((rd_T139 x0_1 0).f1) < ((rd_T139 x1_1 0).f1) then (if 1 ≤ (x0_1.length : Int) then (sets_Meet.l0 kj2 (x0_1.drop 1) x1_1 x5_1) else (none)) else (if 1 ≤ (x1_1.length : Int) then (sets_Meet.l0 kj2 x0_1 (x1_1.drop 1) x5_1) else (none)))) = some r := by first | (rw [hji12] at H; exact H) | (simp only [hji12] at H ⊢; exact H)
        have hji12_ : (if ((rd_T139 x1_1 0).f1) < ((rd_T139 x0_1 0).f1) then ((rd_T139 x1_1 0).f1) else ((rd_T139 x0_1 0).f1)) = ji12 := hji12; by_cases c13 : (ji11) ≤ (ji12)
        ·rw [if_pos c13] at H; have c13b0 : decide ((ji11) ≤ (ji12)) = true := decide_eq_true c13; clear c13; by_cases c14 : x5_1.length < 8796093022208
         ·rw [if_pos c14] at H; have LMc14 := zk c14; clear c14; obtain ⟨y116, hy116⟩ : ∃ y_ : List (S139), y_ = (x5_1 ++ [(⟨ji11, ji12⟩ : S139)]) := ⟨_, rfl⟩
          replace H : (if ((rd_T139 x0_1 0).f1) < ((rd_T139 x1_1 0).f1) then (if 1 ≤ (x0_1.length : Int) then (sets_Meet.l0 kj2 (x0_1.drop 1) x1_1 y116) else (none)) else (if 1 ≤ (x1_1.length : Int) then (sets_Meet.l0 kj2 x0_1 (x1_1.drop 1) y116) else (none))) = some r := by first | (rw [hy116]; with_reducible exact H) | (have H2_ := (Option.bind_some _ _).symm.trans H; rw [hy116]; with_reducible exact H2_) | (have H2_ := (Option.bind_some _ _).symm.trans H; with_reducible exact H2_) | with_reducible exact H | (rw [hy116]; exact H) | exact H
          have Ny116 := zk hy116; clear hy116; by_cases c15 : ((rd_T139 x0_1 0).f1) < ((rd_T139 x1_1 0).f1)
          ·rw [if_pos c15] at H; have c15b0 : decide (((rd_T139 x0_1 0).f1) < ((rd_T139 x1_1 0).f1)) = true := decide_eq_true c15; clear c15; by_cases c16 : 1 ≤ (x0_1.length : Int)
           ·rw [if_pos c16] at H; have c16b0 := eq_true c16; have c16b1 : decide (1 ≤ (x0_1.length : Int)) = true := decide_eq_true c16; clear c16; obtain ⟨y121, hy121⟩ : ∃ y_ : List (S139), y_ = (x0_1.drop 1) := ⟨_, rfl⟩
            replace H : (sets_Meet.l0 kj2 y121 x1_1 y116) = some r := by first | (rw [hy121]; with_reducible exact H) | (have H2_ := (Option.bind_some _ _).symm.trans H; rw [hy121]; with_reducible exact H2_) | (have H2_ := (Option.bind_some _ _).symm.trans H; with_reducible exact H2_) | with_reducible exact H | (rw [hy121]; exact H) | exact H
            have Ny121 := zk hy121; clear hy121; have H' := zk H; clear H; obtain ⟨Ao17, co17, eo17⟩ := Kd.V_slice HO_0.out; subst eo17; have p112 : 0 ≤ (0 : Int) := (by omega); have q112 : 0 < (x0_1.length : Int) := zT; obtain ⟨ad112, e112, hx112_0, hx112_1⟩ := at_T139 (Kd.V_reads' HO_0.out).2.2 0 p112 q112; cases e112; have qi112 : (0 < x0_1.length) = True := eq_true (by omega); (try rw [show ((0 : Int)).toNat = 0 from rfl] at hx112_0)
            (try rw [show 0 * 2 = 0 from rfl] at hx112_0)
            (try rw [Addr.add_zero'] at hx112_0)
            (try rw [show ((0 : Int)).toNat = 0 from rfl] at hx112_1)
            (try rw [show 0 * 2 = 0 from rfl] at hx112_1)
            (try rw [Addr.add_zero'] at hx112_1)
            replace p112 := eq_true p112; replace q112 := eq_true q112; obtain ⟨Ao18, co18, eo18⟩ := Kd.V_slice HO_1.out; subst eo18; have p113 : 0 ≤ (0 : Int) := (by omega); have q113 : 0 < (x1_1.length : Int) := zT; obtain ⟨ad113, e113, hx113_0, hx113_1⟩ := at_T139 (Kd.V_reads' HO_1.out).2.2 0 p113 q113; cases e113; have qi113 : (0 < x1_1.length) = True := eq_true (by omega); (try rw [show ((0 : Int)).toNat = 0 from rfl] at hx113_0)
            (try rw [show 0 * 2 = 0 from rfl] at hx113_0)
            (try rw [Addr.add_zero'] at hx113_0)
            (try rw [show ((0 : Int)).toNat = 0 from rfl] at hx113_1)
            (try rw [show 0 * 2 = 0 from rfl] at hx113_1)
            (try rw [Addr.add_zero'] at hx113_1)
            replace p113 := eq_true p113; replace q113 := eq_true q113; have p114 : 0 ≤ (0 : Int) := (by omega); have q114 : 0 < (x0_1.length : Int) := zT; obtain ⟨ad114, e114, hx114_0, hx114_1⟩ := at_T139 (Kd.V_reads' HO_0.out).2.2 0 p114 q114; obtain rfl : ad112 = ad114 := (by injection e114); have qi114 : (0 < x0_1.length) = True := eq_true (by omega); (try rw [show ((0 : Int)).toNat = 0 from rfl] at hx114_0)
            (try rw [show 0 * 2 = 0 from rfl] at hx114_0)
            (try rw [Addr.add_zero'] at hx114_0)
            (try rw [show ((0 : Int)).toNat = 0 from rfl] at hx114_1)
            (try rw [show 0 * 2 = 0 from rfl] at hx114_1)
            (try rw [Addr.add_zero'] at hx114_1)
            replace p114 := eq_true p114; replace q114 := eq_true q114; have p115 : 0 ≤ (0 : Int) := (by omega); have q115 : 0 < (x1_1.length : Int) := zT; obtain ⟨ad115, e115, hx115_0, hx115_1⟩ := at_T139 (Kd.V_reads' HO_1.out).2.2 0 p115 q115; obtain rfl : ad113 = ad115 := (by injection e115); have qi115 : (0 < x1_1.length) = True := eq_true (by omega); (try rw [show ((0 : Int)).toNat = 0 from rfl] at hx115_0)
            (try rw [show 0 * 2 = 0 from rfl] at hx115_0)
            (try rw [Addr.add_zero'] at hx115_0)
            (try rw [show ((0 : Int)).toNat = 0 from rfl] at hx115_1)
            (try rw [show 0 * 2 = 0 from rfl] at hx115_1)
            (try rw [Addr.add_zero'] at hx115_1)
            replace p115 := eq_true p115; replace q115 := eq_true q115; go_wp2_with (first | ((with_reducible refine gate_builtin (b := .append) (xs := #[.tmp 37, .tmp 41]) rfl ?_); (try (refine gate_guard (by rfl) ?_; dsimp only)); at_builtin; refine Kd.R_append k139 (w0 := w) w.heap.size rfl (.tmp 37) (.tmp 41) 136 139 (.agg #[(.int .i64 0), (.int .i64 0)]) 16 rfl Try.underlying136 info139 rfl (by decide) (by omega) u5 x5_1 (⟨ji11, ji12⟩ : S139) [.int .i64 ji11, .int .i64 ji12] (fun k_ => (w.heap.size ≤ k_)) (fun _ => False) rfl rfl ?aP (fun _ hk => hk.elim) ?aF ?aO ?aB ?aS ?aL ?_; (case aP => exact k139_mkM _ _ _ (⟨ji11, ji12⟩ : S139)); (case aB => exact (zU HB.out)); (case aF => exact (fun k_ hk => (Nat.le_trans (below_size (zU HB.out)) hk))); (case aO => exact (zr HO_5.out)); (case aS => exact (below_size (zU HB.out))); (case aL => have := LMc14.out; omega); intro v117 w19 ho hb hg hat; rw [← Ny116.out] at ho; have n0_ := zk (Kd.V_afterv (ok := (fun k_ => ((P0_ k_ ∨ P1_ k_) ∨ w.heap.size ≤ k_))) (by (with_reducible repeat (first | apply Kd.V_alloc | apply Kd.V_drewN | apply Kd.V_drew)); exact HO_0.out) hg hat); have n1_ := zk (Kd.V_afterv (ok := (fun k_ => ((P0_ k_ ∨ P1_ k_) ∨ w.heap.size ≤ k_))) (by (with_reducible repeat (first | apply Kd.V_alloc | apply Kd.V_drewN | apply Kd.V_drew)); exact HO_1.out) hg hat); have n2_ := zk (hb); have n3_ := zk (ho); clear HO_0; clear HO_1; clear HB; clear HO_5; have HO_0 := n0_; have HO_1 := n1_; have HB := n2_; have HO118 := n3_; clear n0_ n1_ n2_ n3_; clear ho hb hg hat; have p119 : 0 ≤ (0 : Int) := (by omega); have q119 : 0 < (x0_1.length : Int) := zT; obtain ⟨ad119, e119, hx119_0, hx119_1⟩ := at_T139 (Kd.V_reads' HO_0.out).2.2 0 p119 q119; obtain rfl : ad112 = ad119 := (by injection e119); have qi119 : (0 < x0_1.length) = True := eq_true (by omega); (try rw [show ((0 : Int)).toNat = 0 from rfl] at hx119_0); (try rw [show 0 * 2 = 0 from rfl] at hx119_0); (try rw [Addr.add_zero'] at hx119_0); (try rw [show ((0 : Int)).toNat = 0 from rfl] at hx119_1); (try rw [show 0 * 2 = 0 from rfl] at hx119_1); (try rw [Addr.add_zero'] at hx119_1); replace p119 := eq_true p119; replace q119 := eq_true q119; have p120 : 0 ≤ (0 : Int) := (by omega); have q120 : 0 < (x1_1.length : Int) := zT; obtain ⟨ad120, e120, hx120_0, hx120_1⟩ := at_T139 (Kd.V_reads' HO_1.out).2.2 0 p120 q120; obtain rfl : ad113 = ad120 := (by injection e120); have qi120 : (0 < x1_1.length) = True := eq_true (by omega); (try rw [show ((0 : Int)).toNat = 0 from rfl] at hx120_0); (try rw [show 0 * 2 = 0 from rfl] at hx120_0); (try rw [Addr.add_zero'] at hx120_0); (try rw [show ((0 : Int)).toNat = 0 from rfl] at hx120_1); (try rw [show 0 * 2 = 0 from rfl] at hx120_1); (try rw [Addr.add_zero'] at hx120_1); replace p120 := eq_true p120; replace q120 := eq_true q120; have q20 : (1 : Int) ≤ ((x0_1.length : Int) : Int) := zT; obtain ⟨i020, hi020, _, hsz20, _⟩ := info_parts info139; have hroom20 : x0_1.length ≤ co17 := (Kd.V_reads' HO_0.out).2.1; have hC20 : Kd.F k139 _ _ (some ad112) x0_1.length x0_1 := (Kd.V_at (base := w.heap.size) HO_0.out).2.2; have hcut20 := cut_from (P := Try.prog) 136 139 .i64 Try.underlying136 hi020 2 hsz20 (some ad112) x0_1.length co17 1 (by omega) q20; have hr20 := Kd.F_cut (m := (1 : Int).toNat) (c := co17) hC20 (by omega) hroom20; obtain ⟨A20, hA20⟩ : ∃ A1, A1 = (if co17 = (1 : Int).toNat then (some ad112) else ((some ad112) : Option Addr).map (·.add ((1 : Int).toNat * 2))) := ⟨_, rfl⟩; obtain ⟨c20, hc20⟩ : ∃ c1, c1 = co17 - (1 : Int).toNat := ⟨_, rfl⟩; have hy20 : y121.length = x0_1.length - (1 : Int).toNat := (by rw [Ny121.out, List.length_drop] <;> omega); rw [show (x0_1).drop (1 : Int).toNat = y121 from Ny121.out.symm] at hr20; replace hr20 : Kd.F k139 _ _ A20 y121.length y121 := (by rw [hA20]; exact hr20); rw [← hy20, ← hA20, ← hc20] at hcut20; have HO125 := zk (show Kd.V k139 139 _ w.heap.size _ (.slice A20 y121.length c20) y121 from Kd.V_mk (by rw [hy20, hc20]; exact Nat.sub_le_sub_right hroom20 _) hr20); have HC125 := zk (show y121.length ≤ c20 from by rw [hy20, hc20]; exact Nat.sub_le_sub_right hroom20 _); clear hr20 hC20 hroom20 hi020 hsz20 hc20; have KY20 := zk hy20; have KA20 := zk hA20; clear hy20 hA20; replace q20 := eq_true q20))
            repeat (go_quiet (first | ((with_reducible refine gate_builtin (b := .append) (xs := #[.tmp 37, .tmp 41]) rfl ?_); (try (refine gate_guard (by rfl) ?_; dsimp only)); at_builtin; refine Kd.R_append k139 (w0 := w) w.heap.size rfl (.tmp 37) (.tmp 41) 136 139 (.agg #[(.int .i64 0), (.int .i64 0)]) 16 rfl Try.underlying136 info139 rfl (by decide) (by omega) u5 x5_1 (⟨ji11, ji12⟩ : S139) [.int .i64 ji11, .int .i64 ji12] (fun k_ => (w.heap.size ≤ k_)) (fun _ => False) rfl rfl ?aP (fun _ hk => hk.elim) ?aF ?aO ?aB ?aS ?aL ?_; (case aP => exact k139_mkM _ _ _ (⟨ji11, ji12⟩ : S139)); (case aB => exact (zU HB.out)); (case aF => exact (fun k_ hk => (Nat.le_trans (below_size (zU HB.out)) hk))); (case aO => exact (zr HO_5.out)); (case aS => exact (below_size (zU HB.out))); (case aL => have := LMc14.out; omega); intro v117 w19 ho hb hg hat; rw [← Ny116.out] at ho; have n0_ := zk (Kd.V_afterv (ok := (fun k_ => ((P0_ k_ ∨ P1_ k_) ∨ w.heap.size ≤ k_))) (by (with_reducible repeat (first | apply Kd.V_alloc | apply Kd.V_drewN | apply Kd.V_drew)); exact HO_0.out) hg hat); have n1_ := zk (Kd.V_afterv (ok := (fun k_ => ((P0_ k_ ∨ P1_ k_) ∨ w.heap.size ≤ k_))) (by (with_reducible repeat (first | apply Kd.V_alloc | apply Kd.V_drewN | apply Kd.V_drew)); exact HO_1.out) hg hat); have n2_ := zk (hb); have n3_ := zk (ho); clear HO_0; clear HO_1; clear HB; clear HO_5; have HO_0 := n0_; have HO_1 := n1_; have HB := n2_; have HO118 := n3_; clear n0_ n1_ n2_ n3_; clear ho hb hg hat; have p119 : 0 ≤ (0 : Int) := (by omega); have q119 : 0 < (x0_1.length : Int) := zT; obtain ⟨ad119, e119, hx119_0, hx119_1⟩ := at_T139 (Kd.V_reads' HO_0.out).2.2 0 p119 q119; obtain rfl : ad112 = ad119 := (by injection e119); have qi119 : (0 < x0_1.length) = True := eq_true (by omega); (try rw [show ((0 : Int)).toNat = 0 from rfl] at hx119_0); (try rw [show 0 * 2 = 0 from rfl] at hx119_0); (try rw [Addr.add_zero'] at hx119_0); (try rw [show ((0 : Int)).toNat = 0 from rfl] at hx119_1); (try rw [show 0 * 2 = 0 from rfl] at hx119_1); (try rw [Addr.add_zero'] at hx119_1); replace p119 := eq_true p119; replace q119 := eq_true q119; have p120 : 0 ≤ (0 : Int) := (by omega); have q120 : 0 < (x1_1.length : Int) := zT; obtain ⟨ad120, e120, hx120_0, hx120_1⟩ := at_T139 (Kd.V_reads' HO_1.out).2.2 0 p120 q120; obtain rfl : ad113 = ad120 := (by injection e120); have qi120 : (0 < x1_1.length) = True := eq_true (by omega); (try rw [show ((0 : Int)).toNat = 0 from rfl] at hx120_0); (try rw [show 0 * 2 = 0 from rfl] at hx120_0); (try rw [Addr.add_zero'] at hx120_0); (try rw [show ((0 : Int)).toNat = 0 from rfl] at hx120_1); (try rw [show 0 * 2 = 0 from rfl] at hx120_1); (try rw [Addr.add_zero'] at hx120_1); replace p120 := eq_true p120; replace q120 := eq_true q120; have q20 : (1 : Int) ≤ ((x0_1.length : Int) : Int) := zT; obtain ⟨i020, hi020, _, hsz20, _⟩ := info_parts info139; have hroom20 : x0_1.length ≤ co17 := (Kd.V_reads' HO_0.out).2.1; have hC20 : Kd.F k139 _ _ (some ad112) x0_1.length x0_1 := (Kd.V_at (base := w.heap.size) HO_0.out).2.2; have hcut20 := cut_from (P := Try.prog) 136 139 .i64 Try.underlying136 hi020 2 hsz20 (some ad112) x0_1.length co17 1 (by omega) q20; have hr20 := Kd.F_cut (m := (1 : Int).toNat) (c := co17) hC20 (by omega) hroom20; obtain ⟨A20, hA20⟩ : ∃ A1, A1 = (if co17 = (1 : Int).toNat then (some ad112) else ((some ad112) : Option Addr).map (·.add ((1 : Int).toNat * 2))) := ⟨_, rfl⟩; obtain ⟨c20, hc20⟩ : ∃ c1, c1 = co17 - (1 : Int).toNat := ⟨_, rfl⟩; have hy20 : y121.length = x0_1.length - (1 : Int).toNat := (by rw [Ny121.out, List.length_drop] <;> omega); rw [show (x0_1).drop (1 : Int).toNat = y121 from Ny121.out.symm] at hr20; replace hr20 : Kd.F k139 _ _ A20 y121.length y121 := (by rw [hA20]; exact hr20); rw [← hy20, ← hA20, ← hc20] at hcut20; have HO125 := zk (show Kd.V k139 139 _ w.heap.size _ (.slice A20 y121.length c20) y121 from Kd.V_mk (by rw [hy20, hc20]; exact Nat.sub_le_sub_right hroom20 _) hr20); have HC125 := zk (show y121.length ≤ c20 from by rw [hy20, hc20]; exact Nat.sub_le_sub_right hroom20 _); clear hr20 hC20 hroom20 hi020 hsz20 hc20; have KY20 := zk hy20; have KA20 := zk hA20; clear hy20 hA20; replace q20 := eq_true q20)); try go_wp2_with (first | ((with_reducible refine gate_builtin (b := .append) (xs := #[.tmp 37, .tmp 41]) rfl ?_); (try (refine gate_guard (by rfl) ?_; dsimp only)); at_builtin; refine Kd.R_append k139 (w0 := w) w.heap.size rfl (.tmp 37) (.tmp 41) 136 139 (.agg #[(.int .i64 0), (.int .i64 0)]) 16 rfl Try.underlying136 info139 rfl (by decide) (by omega) u5 x5_1 (⟨ji11, ji12⟩ : S139) [.int .i64 ji11, .int .i64 ji12] (fun k_ => (w.heap.size ≤ k_)) (fun _ => False) rfl rfl ?aP (fun _ hk => hk.elim) ?aF ?aO ?aB ?aS ?aL ?_; (case aP => exact k139_mkM _ _ _ (⟨ji11, ji12⟩ : S139)); (case aB => exact (zU HB.out)); (case aF => exact (fun k_ hk => (Nat.le_trans (below_size (zU HB.out)) hk))); (case aO => exact (zr HO_5.out)); (case aS => exact (below_size (zU HB.out))); (case aL => have := LMc14.out; omega); intro v117 w19 ho hb hg hat; rw [← Ny116.out] at ho; have n0_ := zk (Kd.V_afterv (ok := (fun k_ => ((P0_ k_ ∨ P1_ k_) ∨ w.heap.size ≤ k_))) (by (with_reducible repeat (first | apply Kd.V_alloc | apply Kd.V_drewN | apply Kd.V_drew)); exact HO_0.out) hg hat); have n1_ := zk (Kd.V_afterv (ok := (fun k_ => ((P0_ k_ ∨ P1_ k_) ∨ w.heap.size ≤ k_))) (by (with_reducible repeat (first | apply Kd.V_alloc | apply Kd.V_drewN | apply Kd.V_drew)); exact HO_1.out) hg hat); have n2_ := zk (hb); have n3_ := zk (ho); clear HO_0; clear HO_1; clear HB; clear HO_5; have HO_0 := n0_; have HO_1 := n1_; have HB := n2_; have HO118 := n3_; clear n0_ n1_ n2_ n3_; clear ho hb hg hat; have p119 : 0 ≤ (0 : Int) := (by omega); have q119 : 0 < (x0_1.length : Int) := zT; obtain ⟨ad119, e119, hx119_0, hx119_1⟩ := at_T139 (Kd.V_reads' HO_0.out).2.2 0 p119 q119; obtain rfl : ad112 = ad119 := (by injection e119); have qi119 : (0 < x0_1.length) = True := eq_true (by omega); (try rw [show ((0 : Int)).toNat = 0 from rfl] at hx119_0); (try rw [show 0 * 2 = 0 from rfl] at hx119_0); (try rw [Addr.add_zero'] at hx119_0); (try rw [show ((0 : Int)).toNat = 0 from rfl] at hx119_1); (try rw [show 0 * 2 = 0 from rfl] at hx119_1); (try rw [Addr.add_zero'] at hx119_1); replace p119 := eq_true p119; replace q119 := eq_true q119; have p120 : 0 ≤ (0 : Int) := (by omega); have q120 : 0 < (x1_1.length : Int) := zT; obtain ⟨ad120, e120, hx120_0, hx120_1⟩ := at_T139 (Kd.V_reads' HO_1.out).2.2 0 p120 q120; obtain rfl : ad113 = ad120 := (by injection e120); have qi120 : (0 < x1_1.length) = True := eq_true (by omega); (try rw [show ((0 : Int)).toNat = 0 from rfl] at hx120_0); (try rw [show 0 * 2 = 0 from rfl] at hx120_0); (try rw [Addr.add_zero'] at hx120_0); (try rw [show ((0 : Int)).toNat = 0 from rfl] at hx120_1); (try rw [show 0 * 2 = 0 from rfl] at hx120_1); (try rw [Addr.add_zero'] at hx120_1); replace p120 := eq_true p120; replace q120 := eq_true q120; have q20 : (1 : Int) ≤ ((x0_1.length : Int) : Int) := zT; obtain ⟨i020, hi020, _, hsz20, _⟩ := info_parts info139; have hroom20 : x0_1.length ≤ co17 := (Kd.V_reads' HO_0.out).2.1; have hC20 : Kd.F k139 _ _ (some ad112) x0_1.length x0_1 := (Kd.V_at (base := w.heap.size) HO_0.out).2.2; have hcut20 := cut_from (P := Try.prog) 136 139 .i64 Try.underlying136 hi020 2 hsz20 (some ad112) x0_1.length co17 1 (by omega) q20; have hr20 := Kd.F_cut (m := (1 : Int).toNat) (c := co17) hC20 (by omega) hroom20; obtain ⟨A20, hA20⟩ : ∃ A1, A1 = (if co17 = (1 : Int).toNat then (some ad112) else ((some ad112) : Option Addr).map (·.add ((1 : Int).toNat * 2))) := ⟨_, rfl⟩; obtain ⟨c20, hc20⟩ : ∃ c1, c1 = co17 - (1 : Int).toNat := ⟨_, rfl⟩; have hy20 : y121.length = x0_1.length - (1 : Int).toNat := (by rw [Ny121.out, List.length_drop] <;> omega); rw [show (x0_1).drop (1 : Int).toNat = y121 from Ny121.out.symm] at hr20; replace hr20 : Kd.F k139 _ _ A20 y121.length y121 := (by rw [hA20]; exact hr20); rw [← hy20, ← hA20, ← hc20] at hcut20; have HO125 := zk (show Kd.V k139 139 _ w.heap.size _ (.slice A20 y121.length c20) y121 from Kd.V_mk (by rw [hy20, hc20]; exact Nat.sub_le_sub_right hroom20 _) hr20); have HC125 := zk (show y121.length ≤ c20 from by rw [hy20, hc20]; exact Nat.sub_le_sub_right hroom20 _); clear hr20 hC20 hroom20 hi020 hsz20 hc20; have KY20 := zk hy20; have KA20 := zk hA20; clear hy20 hA20; replace q20 := eq_true q20)))
            go_roundg kj2
            case measure => have := HK1.out; have := HJ2.out; omega
            case rel => exact ⟨(y121), (x1_1), (y116), H', ⟨by have := HK1.out; have := HJ2.out; omega⟩, ⟨by (with_reducible repeat (first | apply Kd.V_alloc | apply Kd.V_drewN | apply Kd.V_drew)); exact HO125.out⟩, ⟨by (with_reducible repeat (first | apply Kd.V_alloc | apply Kd.V_drewN | apply Kd.V_drew)); exact HO_1.out⟩, ⟨by (with_reducible repeat (first | apply zA | apply zB | apply zC)); exact HO118.out⟩, ⟨zU HB.out⟩⟩
           ·rw [if_neg c16] at H; exact absurd H (by simp)
          ·rw [if_neg c15] at H; have c15b0 : decide (((rd_T139 x0_1 0).f1) < ((rd_T139 x1_1 0).f1)) = false := decide_eq_false c15; clear c15; by_cases c21 : 1 ≤ (x1_1.length : Int)
           ·rw [if_pos c21] at H; have c21b0 := eq_true c21; have c21b1 : decide (1 ≤ (x1_1.length : Int)) = true := decide_eq_true c21; clear c21; obtain ⟨y126, hy126⟩ : ∃ y_ : List (S139), y_ = (x1_1.drop 1) := ⟨_, rfl⟩
            replace H : (sets_Meet.l0 kj2 x0_1 y126 y116) = some r := by first | (rw [hy126]; with_reducible exact H) | (have H2_ := (Option.bind_some _ _).symm.trans H; rw [hy126]; with_reducible exact H2_) | (have H2_ := (Option.bind_some _ _).symm.trans H; with_reducible exact H2_) | with_reducible exact H | (rw [hy126]; exact H) | exact H
            have Ny126 := zk hy126; clear hy126; have H' := zk H; clear H; obtain ⟨Ao22, co22, eo22⟩ := Kd.V_slice HO_0.out; subst eo22; have p112 : 0 ≤ (0 : Int) := (by omega); have q112 : 0 < (x0_1.length : Int) := zT; obtain ⟨ad112, e112, hx112_0, hx112_1⟩ := at_T139 (Kd.V_reads' HO_0.out).2.2 0 p112 q112; cases e112; have qi112 : (0 < x0_1.length) = True := eq_true (by omega); (try rw [show ((0 : Int)).toNat = 0 from rfl] at hx112_0)
            (try rw [show 0 * 2 = 0 from rfl] at hx112_0)
            (try rw [Addr.add_zero'] at hx112_0)
            (try rw [show ((0 : Int)).toNat = 0 from rfl] at hx112_1)
            (try rw [show 0 * 2 = 0 from rfl] at hx112_1)
            (try rw [Addr.add_zero'] at hx112_1)
            replace p112 := eq_true p112; replace q112 := eq_true q112; obtain ⟨Ao23, co23, eo23⟩ := Kd.V_slice HO_1.out; subst eo23; have p113 : 0 ≤ (0 : Int) := (by omega); have q113 : 0 < (x1_1.length : Int) := zT; obtain ⟨ad113, e113, hx113_0, hx113_1⟩ := at_T139 (Kd.V_reads' HO_1.out).2.2 0 p113 q113; cases e113; have qi113 : (0 < x1_1.length) = True := eq_true (by omega); (try rw [show ((0 : Int)).toNat = 0 from rfl] at hx113_0)
            (try rw [show 0 * 2 = 0 from rfl] at hx113_0)
            (try rw [Addr.add_zero'] at hx113_0)
            (try rw [show ((0 : Int)).toNat = 0 from rfl] at hx113_1)
            (try rw [show 0 * 2 = 0 from rfl] at hx113_1)
            (try rw [Addr.add_zero'] at hx113_1)
            replace p113 := eq_true p113; replace q113 := eq_true q113; have p114 : 0 ≤ (0 : Int) := (by omega); have q114 : 0 < (x0_1.length : Int) := zT; obtain ⟨ad114, e114, hx114_0, hx114_1⟩ := at_T139 (Kd.V_reads' HO_0.out).2.2 0 p114 q114; obtain rfl : ad112 = ad114 := (by injection e114); have qi114 : (0 < x0_1.length) = True := eq_true (by omega); (try rw [show ((0 : Int)).toNat = 0 from rfl] at hx114_0)
            (try rw [show 0 * 2 = 0 from rfl] at hx114_0)
            (try rw [Addr.add_zero'] at hx114_0)
            (try rw [show ((0 : Int)).toNat = 0 from rfl] at hx114_1)
            (try rw [show 0 * 2 = 0 from rfl] at hx114_1)
            (try rw [Addr.add_zero'] at hx114_1)
            replace p114 := eq_true p114; replace q114 := eq_true q114; have p115 : 0 ≤ (0 : Int) := (by omega); have q115 : 0 < (x1_1.length : Int) := zT; obtain ⟨ad115, e115, hx115_0, hx115_1⟩ := at_T139 (Kd.V_reads' HO_1.out).2.2 0 p115 q115; obtain rfl : ad113 = ad115 := (by injection e115); have qi115 : (0 < x1_1.length) = True := eq_true (by omega); (try rw [show ((0 : Int)).toNat = 0 from rfl] at hx115_0)
            (try rw [show 0 * 2 = 0 from rfl] at hx115_0)
            (try rw [Addr.add_zero'] at hx115_0)
            (try rw [show ((0 : Int)).toNat = 0 from rfl] at hx115_1)
            (try rw [show 0 * 2 = 0 from rfl] at hx115_1)
            (try rw [Addr.add_zero'] at hx115_1)
            replace p115 := eq_true p115; replace q115 := eq_true q115; go_wp2_with (first | ((with_reducible refine gate_builtin (b := .append) (xs := #[.tmp 37, .tmp 41]) rfl ?_); (try (refine gate_guard (by rfl) ?_; dsimp only)); at_builtin; refine Kd.R_append k139 (w0 := w) w.heap.size rfl (.tmp 37) (.tmp 41) 136 139 (.agg #[(.int .i64 0), (.int .i64 0)]) 16 rfl Try.underlying136 info139 rfl (by decide) (by omega) u5 x5_1 (⟨ji11, ji12⟩ : S139) [.int .i64 ji11, .int .i64 ji12] (fun k_ => (w.heap.size ≤ k_)) (fun _ => False) rfl rfl ?aP (fun _ hk => hk.elim) ?aF ?aO ?aB ?aS ?aL ?_; (case aP => exact k139_mkM _ _ _ (⟨ji11, ji12⟩ : S139)); (case aB => exact (zU HB.out)); (case aF => exact (fun k_ hk => (Nat.le_trans (below_size (zU HB.out)) hk))); (case aO => exact (zr HO_5.out)); (case aS => exact (below_size (zU HB.out))); (case aL => have := LMc14.out; omega); intro v117 w24 ho hb hg hat; rw [← Ny116.out] at ho; have n0_ := zk (Kd.V_afterv (ok := (fun k_ => ((P0_ k_ ∨ P1_ k_) ∨ w.heap.size ≤ k_))) (by (with_reducible repeat (first | apply Kd.V_alloc | apply Kd.V_drewN | apply Kd.V_drew)); exact HO_0.out) hg hat); have n1_ := zk (Kd.V_afterv (ok := (fun k_ => ((P0_ k_ ∨ P1_ k_) ∨ w.heap.size ≤ k_))) (by (with_reducible repeat (first | apply Kd.V_alloc | apply Kd.V_drewN | apply Kd.V_drew)); exact HO_1.out) hg hat); have n2_ := zk (hb); have n3_ := zk (ho); clear HO_0; clear HO_1; clear HB; clear HO_5; have HO_0 := n0_; have HO_1 := n1_; have HB := n2_; have HO118 := n3_; clear n0_ n1_ n2_ n3_; clear ho hb hg hat; have p119 : 0 ≤ (0 : Int) := (by omega); have q119 : 0 < (x0_1.length : Int) := zT; obtain ⟨ad119, e119, hx119_0, hx119_1⟩ := at_T139 (Kd.V_reads' HO_0.out).2.2 0 p119 q119; obtain rfl : ad112 = ad119 := (by injection e119); have qi119 : (0 < x0_1.length) = True := eq_true (by omega); (try rw [show ((0 : Int)).toNat = 0 from rfl] at hx119_0); (try rw [show 0 * 2 = 0 from rfl] at hx119_0); (try rw [Addr.add_zero'] at hx119_0); (try rw [show ((0 : Int)).toNat = 0 from rfl] at hx119_1); (try rw [show 0 * 2 = 0 from rfl] at hx119_1); (try rw [Addr.add_zero'] at hx119_1); replace p119 := eq_true p119; replace q119 := eq_true q119; have p120 : 0 ≤ (0 : Int) := (by omega); have q120 : 0 < (x1_1.length : Int) := zT; obtain ⟨ad120, e120, hx120_0, hx120_1⟩ := at_T139 (Kd.V_reads' HO_1.out).2.2 0 p120 q120; obtain rfl : ad113 = ad120 := (by injection e120); have qi120 : (0 < x1_1.length) = True := eq_true (by omega); (try rw [show ((0 : Int)).toNat = 0 from rfl] at hx120_0); (try rw [show 0 * 2 = 0 from rfl] at hx120_0); (try rw [Addr.add_zero'] at hx120_0); (try rw [show ((0 : Int)).toNat = 0 from rfl] at hx120_1); (try rw [show 0 * 2 = 0 from rfl] at hx120_1); (try rw [Addr.add_zero'] at hx120_1); replace p120 := eq_true p120; replace q120 := eq_true q120; have q25 : (1 : Int) ≤ ((x1_1.length : Int) : Int) := zT; obtain ⟨i025, hi025, _, hsz25, _⟩ := info_parts info139; have hroom25 : x1_1.length ≤ co23 := (Kd.V_reads' HO_1.out).2.1; have hC25 : Kd.F k139 _ _ (some ad113) x1_1.length x1_1 := (Kd.V_at (base := w.heap.size) HO_1.out).2.2; have hcut25 := cut_from (P := Try.prog) 136 139 .i64 Try.underlying136 hi025 2 hsz25 (some ad113) x1_1.length co23 1 (by omega) q25; have hr25 := Kd.F_cut (m := (1 : Int).toNat) (c := co23) hC25 (by omega) hroom25; obtain ⟨A25, hA25⟩ : ∃ A1, A1 = (if co23 = (1 : Int).toNat then (some ad113) else ((some ad113) : Option Addr).map (·.add ((1 : Int).toNat * 2))) := ⟨_, rfl⟩; obtain ⟨c25, hc25⟩ : ∃ c1, c1 = co23 - (1 : Int).toNat := ⟨_, rfl⟩; have hy25 : y126.length = x1_1.length - (1 : Int).toNat := (by rw [Ny126.out, List.length_drop] <;> omega); rw [show (x1_1).drop (1 : Int).toNat = y126 from Ny126.out.symm] at hr25; replace hr25 : Kd.F k139 _ _ A25 y126.length y126 := (by rw [hA25]; exact hr25); rw [← hy25, ← hA25, ← hc25] at hcut25; have HO130 := zk (show Kd.V k139 139 _ w.heap.size _ (.slice A25 y126.length c25) y126 from Kd.V_mk (by rw [hy25, hc25]; exact Nat.sub_le_sub_right hroom25 _) hr25); have HC130 := zk (show y126.length ≤ c25 from by rw [hy25, hc25]; exact Nat.sub_le_sub_right hroom25 _); clear hr25 hC25 hroom25 hi025 hsz25 hc25; have KY25 := zk hy25; have KA25 := zk hA25; clear hy25 hA25; replace q25 := eq_true q25))
            repeat (go_quiet (first | ((with_reducible refine gate_builtin (b := .append) (xs := #[.tmp 37, .tmp 41]) rfl ?_); (try (refine gate_guard (by rfl) ?_; dsimp only)); at_builtin; refine Kd.R_append k139 (w0 := w) w.heap.size rfl (.tmp 37) (.tmp 41) 136 139 (.agg #[(.int .i64 0), (.int .i64 0)]) 16 rfl Try.underlying136 info139 rfl (by decide) (by omega) u5 x5_1 (⟨ji11, ji12⟩ : S139) [.int .i64 ji11, .int .i64 ji12] (fun k_ => (w.heap.size ≤ k_)) (fun _ => False) rfl rfl ?aP (fun _ hk => hk.elim) ?aF ?aO ?aB ?aS ?aL ?_; (case aP => exact k139_mkM _ _ _ (⟨ji11, ji12⟩ : S139)); (case aB => exact (zU HB.out)); (case aF => exact (fun k_ hk => (Nat.le_trans (below_size (zU HB.out)) hk))); (case aO => exact (zr HO_5.out)); (case aS => exact (below_size (zU HB.out))); (case aL => have := LMc14.out; omega); intro v117 w24 ho hb hg hat; rw [← Ny116.out] at ho; have n0_ := zk (Kd.V_afterv (ok := (fun k_ => ((P0_ k_ ∨ P1_ k_) ∨ w.heap.size ≤ k_))) (by (with_reducible repeat (first | apply Kd.V_alloc | apply Kd.V_drewN | apply Kd.V_drew)); exact HO_0.out) hg hat); have n1_ := zk (Kd.V_afterv (ok := (fun k_ => ((P0_ k_ ∨ P1_ k_) ∨ w.heap.size ≤ k_))) (by (with_reducible repeat (first | apply Kd.V_alloc | apply Kd.V_drewN | apply Kd.V_drew)); exact HO_1.out) hg hat); have n2_ := zk (hb); have n3_ := zk (ho); clear HO_0; clear HO_1; clear HB; clear HO_5; have HO_0 := n0_; have HO_1 := n1_; have HB := n2_; have HO118 := n3_; clear n0_ n1_ n2_ n3_; clear ho hb hg hat; have p119 : 0 ≤ (0 : Int) := (by omega); have q119 : 0 < (x0_1.length : Int) := zT; obtain ⟨ad119, e119, hx119_0, hx119_1⟩ := at_T139 (Kd.V_reads' HO_0.out).2.2 0 p119 q119; obtain rfl : ad112 = ad119 := (by injection e119); have qi119 : (0 < x0_1.length) = True := eq_true (by omega); (try rw [show ((0 : Int)).toNat = 0 from rfl] at hx119_0); (try rw [show 0 * 2 = 0 from rfl] at hx119_0); (try rw [Addr.add_zero'] at hx119_0); (try rw [show ((0 : Int)).toNat = 0 from rfl] at hx119_1); (try rw [show 0 * 2 = 0 from rfl] at hx119_1); (try rw [Addr.add_zero'] at hx119_1); replace p119 := eq_true p119; replace q119 := eq_true q119; have p120 : 0 ≤ (0 : Int) := (by omega); have q120 : 0 < (x1_1.length : Int) := zT; obtain ⟨ad120, e120, hx120_0, hx120_1⟩ := at_T139 (Kd.V_reads' HO_1.out).2.2 0 p120 q120; obtain rfl : ad113 = ad120 := (by injection e120); have qi120 : (0 < x1_1.length) = True := eq_true (by omega); (try rw [show ((0 : Int)).toNat = 0 from rfl] at hx120_0); (try rw [show 0 * 2 = 0 from rfl] at hx120_0); (try rw [Addr.add_zero'] at hx120_0); (try rw [show ((0 : Int)).toNat = 0 from rfl] at hx120_1); (try rw [show 0 * 2 = 0 from rfl] at hx120_1); (try rw [Addr.add_zero'] at hx120_1); replace p120 := eq_true p120; replace q120 := eq_true q120; have q25 : (1 : Int) ≤ ((x1_1.length : Int) : Int) := zT; obtain ⟨i025, hi025, _, hsz25, _⟩ := info_parts info139; have hroom25 : x1_1.length ≤ co23 := (Kd.V_reads' HO_1.out).2.1; have hC25 : Kd.F k139 _ _ (some ad113) x1_1.length x1_1 := (Kd.V_at (base := w.heap.size) HO_1.out).2.2; have hcut25 := cut_from (P := Try.prog) 136 139 .i64 Try.underlying136 hi025 2 hsz25 (some ad113) x1_1.length co23 1 (by omega) q25; have hr25 := Kd.F_cut (m := (1 : Int).toNat) (c := co23) hC25 (by omega) hroom25; obtain ⟨A25, hA25⟩ : ∃ A1, A1 = (if co23 = (1 : Int).toNat then (some ad113) else ((some ad113) : Option Addr).map (·.add ((1 : Int).toNat * 2))) := ⟨_, rfl⟩; obtain ⟨c25, hc25⟩ : ∃ c1, c1 = co23 - (1 : Int).toNat := ⟨_, rfl⟩; have hy25 : y126.length = x1_1.length - (1 : Int).toNat := (by rw [Ny126.out, List.length_drop] <;> omega); rw [show (x1_1).drop (1 : Int).toNat = y126 from Ny126.out.symm] at hr25; replace hr25 : Kd.F k139 _ _ A25 y126.length y126 := (by rw [hA25]; exact hr25); rw [← hy25, ← hA25, ← hc25] at hcut25; have HO130 := zk (show Kd.V k139 139 _ w.heap.size _ (.slice A25 y126.length c25) y126 from Kd.V_mk (by rw [hy25, hc25]; exact Nat.sub_le_sub_right hroom25 _) hr25); have HC130 := zk (show y126.length ≤ c25 from by rw [hy25, hc25]; exact Nat.sub_le_sub_right hroom25 _); clear hr25 hC25 hroom25 hi025 hsz25 hc25; have KY25 := zk hy25; have KA25 := zk hA25; clear hy25 hA25; replace q25 := eq_true q25)); try go_wp2_with (first | ((with_reducible refine gate_builtin (b := .append) (xs := #[.tmp 37, .tmp 41]) rfl ?_); (try (refine gate_guard (by rfl) ?_; dsimp only)); at_builtin; refine Kd.R_append k139 (w0 := w) w.heap.size rfl (.tmp 37) (.tmp 41) 136 139 (.agg #[(.int .i64 0), (.int .i64 0)]) 16 rfl Try.underlying136 info139 rfl (by decide) (by omega) u5 x5_1 (⟨ji11, ji12⟩ : S139) [.int .i64 ji11, .int .i64 ji12] (fun k_ => (w.heap.size ≤ k_)) (fun _ => False) rfl rfl ?aP (fun _ hk => hk.elim) ?aF ?aO ?aB ?aS ?aL ?_; (case aP => exact k139_mkM _ _ _ (⟨ji11, ji12⟩ : S139)); (case aB => exact (zU HB.out)); (case aF => exact (fun k_ hk => (Nat.le_trans (below_size (zU HB.out)) hk))); (case aO => exact (zr HO_5.out)); (case aS => exact (below_size (zU HB.out))); (case aL => have := LMc14.out; omega); intro v117 w24 ho hb hg hat; rw [← Ny116.out] at ho; have n0_ := zk (Kd.V_afterv (ok := (fun k_ => ((P0_ k_ ∨ P1_ k_) ∨ w.heap.size ≤ k_))) (by (with_reducible repeat (first | apply Kd.V_alloc | apply Kd.V_drewN | apply Kd.V_drew)); exact HO_0.out) hg hat); have n1_ := zk (Kd.V_afterv (ok := (fun k_ => ((P0_ k_ ∨ P1_ k_) ∨ w.heap.size ≤ k_))) (by (with_reducible repeat (first | apply Kd.V_alloc | apply Kd.V_drewN | apply Kd.V_drew)); exact HO_1.out) hg hat); have n2_ := zk (hb); have n3_ := zk (ho); clear HO_0; clear HO_1; clear HB; clear HO_5; have HO_0 := n0_; have HO_1 := n1_; have HB := n2_; have HO118 := n3_; clear n0_ n1_ n2_ n3_; clear ho hb hg hat; have p119 : 0 ≤ (0 : Int) := (by omega); have q119 : 0 < (x0_1.length : Int) := zT; obtain ⟨ad119, e119, hx119_0, hx119_1⟩ := at_T139 (Kd.V_reads' HO_0.out).2.2 0 p119 q119; obtain rfl : ad112 = ad119 := (by injection e119); have qi119 : (0 < x0_1.length) = True := eq_true (by omega); (try rw [show ((0 : Int)).toNat = 0 from rfl] at hx119_0); (try rw [show 0 * 2 = 0 from rfl] at hx119_0); (try rw [Addr.add_zero'] at hx119_0); (try rw [show ((0 : Int)).toNat = 0 from rfl] at hx119_1); (try rw [show 0 * 2 = 0 from rfl] at hx119_1); (try rw [Addr.add_zero'] at hx119_1); replace p119 := eq_true p119; replace q119 := eq_true q119; have p120 : 0 ≤ (0 : Int) := (by omega); have q120 : 0 < (x1_1.length : Int) := zT; obtain ⟨ad120, e120, hx120_0, hx120_1⟩ := at_T139 (Kd.V_reads' HO_1.out).2.2 0 p120 q120; obtain rfl : ad113 = ad120 := (by injection e120); have qi120 : (0 < x1_1.length) = True := eq_true (by omega); (try rw [show ((0 : Int)).toNat = 0 from rfl] at hx120_0); (try rw [show 0 * 2 = 0 from rfl] at hx120_0); (try rw [Addr.add_zero'] at hx120_0); (try rw [show ((0 : Int)).toNat = 0 from rfl] at hx120_1); (try rw [show 0 * 2 = 0 from rfl] at hx120_1); (try rw [Addr.add_zero'] at hx120_1); replace p120 := eq_true p120; replace q120 := eq_true q120; have q25 : (1 : Int) ≤ ((x1_1.length : Int) : Int) := zT; obtain ⟨i025, hi025, _, hsz25, _⟩ := info_parts info139; have hroom25 : x1_1.length ≤ co23 := (Kd.V_reads' HO_1.out).2.1; have hC25 : Kd.F k139 _ _ (some ad113) x1_1.length x1_1 := (Kd.V_at (base := w.heap.size) HO_1.out).2.2; have hcut25 := cut_from (P := Try.prog) 136 139 .i64 Try.underlying136 hi025 2 hsz25 (some ad113) x1_1.length co23 1 (by omega) q25; have hr25 := Kd.F_cut (m := (1 : Int).toNat) (c := co23) hC25 (by omega) hroom25; obtain ⟨A25, hA25⟩ : ∃ A1, A1 = (if co23 = (1 : Int).toNat then (some ad113) else ((some ad113) : Option Addr).map (·.add ((1 : Int).toNat * 2))) := ⟨_, rfl⟩; obtain ⟨c25, hc25⟩ : ∃ c1, c1 = co23 - (1 : Int).toNat := ⟨_, rfl⟩; have hy25 : y126.length = x1_1.length - (1 : Int).toNat := (by rw [Ny126.out, List.length_drop] <;> omega); rw [show (x1_1).drop (1 : Int).toNat = y126 from Ny126.out.symm] at hr25; replace hr25 : Kd.F k139 _ _ A25 y126.length y126 := (by rw [hA25]; exact hr25); rw [← hy25, ← hA25, ← hc25] at hcut25; have HO130 := zk (show Kd.V k139 139 _ w.heap.size _ (.slice A25 y126.length c25) y126 from Kd.V_mk (by rw [hy25, hc25]; exact Nat.sub_le_sub_right hroom25 _) hr25); have HC130 := zk (show y126.length ≤ c25 from by rw [hy25, hc25]; exact Nat.sub_le_sub_right hroom25 _); clear hr25 hC25 hroom25 hi025 hsz25 hc25; have KY25 := zk hy25; have KA25 := zk hA25; clear hy25 hA25; replace q25 := eq_true q25)))
            go_roundg kj2
            case measure => have := HK1.out; have := HJ2.out; omega
            case rel => exact ⟨(x0_1), (y126), (y116), H', ⟨by have := HK1.out; have := HJ2.out; omega⟩, ⟨by (with_reducible repeat (first | apply Kd.V_alloc | apply Kd.V_drewN | apply Kd.V_drew)); exact HO_0.out⟩, ⟨by (with_reducible repeat (first | apply Kd.V_alloc | apply Kd.V_drewN | apply Kd.V_drew)); exact HO130.out⟩, ⟨by (with_reducible repeat (first | apply zA | apply zB | apply zC)); exact HO118.out⟩, ⟨zU HB.out⟩⟩
           ·rw [if_neg c21] at H; exact absurd H (by simp)
         ·rw [if_neg c14] at H; exact absurd H (by simp)
        ·rw [if_neg c13] at H; have c13b0 : decide ((ji11) ≤ (ji12)) = false := decide_eq_false c13; clear c13; by_cases c26 : ((rd_T139 x0_1 0).f1) < ((rd_T139 x1_1 0).f1)
         ·rw [if_pos c26] at H; have c26b0 : decide (((rd_T139 x0_1 0).f1) < ((rd_T139 x1_1 0).f1)) = true := decide_eq_true c26; clear c26; by_cases c27 : 1 ≤ (x0_1.length : Int)
          ·rw [if_pos c27] at H; have c27b0 := eq_true c27; have c27b1 : decide (1 ≤ (x0_1.length : Int)) = true := decide_eq_true c27; clear c27; obtain ⟨y133, hy133⟩ : ∃ y_ : List (S139), y_ = (x0_1.drop 1) := ⟨_, rfl⟩
           replace H : (sets_Meet.l0 kj2 y133 x1_1 x5_1) = some r := by first | (rw [hy133]; with_reducible exact H) | (have H2_ := (Option.bind_some _ _).symm.trans H; rw [hy133]; with_reducible exact H2_) | (have H2_ := (Option.bind_some _ _).symm.trans H; with_reducible exact H2_) | with_reducible exact H | (rw [hy133]; exact H) | exact H
           have Ny133 := zk hy133; clear hy133; have H' := zk H; clear H; obtain ⟨Ao28, co28, eo28⟩ := Kd.V_slice HO_0.out; subst eo28; have p112 : 0 ≤ (0 : Int) := (by omega); have q112 : 0 < (x0_1.length : Int) := zT; obtain ⟨ad112, e112, hx112_0, hx112_1⟩ := at_T139 (Kd.V_reads' HO_0.out).2.2 0 p112 q112; cases e112; have qi112 : (0 < x0_1.length) = True := eq_true (by omega); (try rw [show ((0 : Int)).toNat = 0 from rfl] at hx112_0)
           (try rw [show 0 * 2 = 0 from rfl] at hx112_0)
           (try rw [Addr.add_zero'] at hx112_0)
           (try rw [show ((0 : Int)).toNat = 0 from rfl] at hx112_1)
           (try rw [show 0 * 2 = 0 from rfl] at hx112_1)
           (try rw [Addr.add_zero'] at hx112_1)
           replace p112 := eq_true p112; replace q112 := eq_true q112; obtain ⟨Ao29, co29, eo29⟩ := Kd.V_slice HO_1.out; subst eo29; have p113 : 0 ≤ (0 : Int) := (by omega); have q113 : 0 < (x1_1.length : Int) := zT; obtain ⟨ad113, e113, hx113_0, hx113_1⟩ := at_T139 (Kd.V_reads' HO_1.out).2.2 0 p113 q113; cases e113; have qi113 : (0 < x1_1.length) = True := eq_true (by omega); (try rw [show ((0 : Int)).toNat = 0 from rfl] at hx113_0)
           (try rw [show 0 * 2 = 0 from rfl] at hx113_0)
           (try rw [Addr.add_zero'] at hx113_0)
           (try rw [show ((0 : Int)).toNat = 0 from rfl] at hx113_1)
           (try rw [show 0 * 2 = 0 from rfl] at hx113_1)
           (try rw [Addr.add_zero'] at hx113_1)
           replace p113 := eq_true p113; replace q113 := eq_true q113; have p114 : 0 ≤ (0 : Int) := (by omega); have q114 : 0 < (x0_1.length : Int) := zT; obtain ⟨ad114, e114, hx114_0, hx114_1⟩ := at_T139 (Kd.V_reads' HO_0.out).2.2 0 p114 q114; obtain rfl : ad112 = ad114 := (by injection e114); have qi114 : (0 < x0_1.length) = True := eq_true (by omega); (try rw [show ((0 : Int)).toNat = 0 from rfl] at hx114_0)
           (try rw [show 0 * 2 = 0 from rfl] at hx114_0)
           (try rw [Addr.add_zero'] at hx114_0)
           (try rw [show ((0 : Int)).toNat = 0 from rfl] at hx114_1)
           (try rw [show 0 * 2 = 0 from rfl] at hx114_1)
           (try rw [Addr.add_zero'] at hx114_1)
           replace p114 := eq_true p114; replace q114 := eq_true q114; have p115 : 0 ≤ (0 : Int) := (by omega); have q115 : 0 < (x1_1.length : Int) := zT; obtain ⟨ad115, e115, hx115_0, hx115_1⟩ := at_T139 (Kd.V_reads' HO_1.out).2.2 0 p115 q115; obtain rfl : ad113 = ad115 := (by injection e115); have qi115 : (0 < x1_1.length) = True := eq_true (by omega); (try rw [show ((0 : Int)).toNat = 0 from rfl] at hx115_0)
           (try rw [show 0 * 2 = 0 from rfl] at hx115_0)
           (try rw [Addr.add_zero'] at hx115_0)
           (try rw [show ((0 : Int)).toNat = 0 from rfl] at hx115_1)
           (try rw [show 0 * 2 = 0 from rfl] at hx115_1)
           (try rw [Addr.add_zero'] at hx115_1)
           replace p115 := eq_true p115; replace q115 := eq_true q115; have p131 : 0 ≤ (0 : Int) := (by omega); have q131 : 0 < (x0_1.length : Int) := zT; obtain ⟨ad131, e131, hx131_0, hx131_1⟩ := at_T139 (Kd.V_reads' HO_0.out).2.2 0 p131 q131; obtain rfl : ad112 = ad131 := (by injection e131); have qi131 : (0 < x0_1.length) = True := eq_true (by omega); (try rw [show ((0 : Int)).toNat = 0 from rfl] at hx131_0)
           (try rw [show 0 * 2 = 0 from rfl] at hx131_0)
           (try rw [Addr.add_zero'] at hx131_0)
           (try rw [show ((0 : Int)).toNat = 0 from rfl] at hx131_1)
           (try rw [show 0 * 2 = 0 from rfl] at hx131_1)
           (try rw [Addr.add_zero'] at hx131_1)
           replace p131 := eq_true p131; replace q131 := eq_true q131; have p132 : 0 ≤ (0 : Int) := (by omega); have q132 : 0 < (x1_1.length : Int) := zT; obtain ⟨ad132, e132, hx132_0, hx132_1⟩ := at_T139 (Kd.V_reads' HO_1.out).2.2 0 p132 q132; obtain rfl : ad113 = ad132 := (by injection e132); have qi132 : (0 < x1_1.length) = True := eq_true (by omega); (try rw [show ((0 : Int)).toNat = 0 from rfl] at hx132_0)
           (try rw [show 0 * 2 = 0 from rfl] at hx132_0)
           (try rw [Addr.add_zero'] at hx132_0)
           (try rw [show ((0 : Int)).toNat = 0 from rfl] at hx132_1)
           (try rw [show 0 * 2 = 0 from rfl] at hx132_1)
           (try rw [Addr.add_zero'] at hx132_1)
           replace p132 := eq_true p132; replace q132 := eq_true q132; have q30 : (1 : Int) ≤ ((x0_1.length : Int) : Int) := zT; obtain ⟨i030, hi030, _, hsz30, _⟩ := info_parts info139; have hroom30 : x0_1.length ≤ co28 := (Kd.V_reads' HO_0.out).2.1; have hC30 : Kd.F k139 _ _ (some ad112) x0_1.length x0_1 := (Kd.V_at (base := w.heap.size) HO_0.out).2.2; have hcut30 := cut_from (P := Try.prog) 136 139 .i64 Try.underlying136 hi030 2 hsz30 (some ad112) x0_1.length co28 1 (by omega) q30; have hr30 := Kd.F_cut (m := (1 : Int).toNat) (c := co28) hC30 (by omega) hroom30; obtain ⟨A30, hA30⟩ : ∃ A1, A1 = (if co28 = (1 : Int).toNat then (some ad112) else ((some ad112) : Option Addr).map (·.add ((1 : Int).toNat * 2))) := ⟨_, rfl⟩
           obtain ⟨c30, hc30⟩ : ∃ c1, c1 = co28 - (1 : Int).toNat := ⟨_, rfl⟩
           have hy30 : y133.length = x0_1.length - (1 : Int).toNat := (by rw [Ny133.out, List.length_drop] <;> omega); rw [show (x0_1).drop (1 : Int).toNat = y133 from Ny133.out.symm] at hr30; replace hr30 : Kd.F k139 _ _ A30 y133.length y133 := (by rw [hA30]; exact hr30); rw [← hy30, ← hA30, ← hc30] at hcut30; have HO137 := zk (show Kd.V k139 139 _ w.heap.size _ (.slice A30 y133.length c30) y133 from Kd.V_mk (by rw [hy30, hc30]; exact Nat.sub_le_sub_right hroom30 _) hr30); have HC137 := zk (show y133.length ≤ c30 from by rw [hy30, hc30]; exact Nat.sub_le_sub_right hroom30 _); clear hr30 hC30 hroom30 hi030 hsz30 hc30; have KY30 := zk hy30; have KA30 := zk hA30; clear hy30 hA30; replace q30 := eq_true q30; go_wp2
           repeat (go_quiet (fail); try go_wp2)
           go_roundg kj2
           case measure => have := HK1.out; have := HJ2.out; omega
           case rel => exact ⟨(y133), (x1_1), (x5_1), H', ⟨by have := HK1.out; have := HJ2.out; omega⟩, ⟨by (with_reducible repeat (first | apply Kd.V_alloc | apply Kd.V_drewN | apply Kd.V_drew)); exact HO137.out⟩, ⟨by (with_reducible repeat (first | apply Kd.V_alloc | apply Kd.V_drewN | apply Kd.V_drew)); exact HO_1.out⟩, ⟨by (with_reducible repeat (first | apply zA | apply zB | apply zC)); exact HO_5.out⟩, ⟨zU HB.out⟩⟩
          ·rw [if_neg c27] at H; exact absurd H (by simp)
         ·rw [if_neg c26] at H; have c26b0 : decide (((rd_T139 x0_1 0).f1) < ((rd_T139 x1_1 0).f1)) = false := decide_eq_false c26; clear c26; by_cases c31 : 1 ≤ (x1_1.length : Int)
          ·rw [if_pos c31] at H; have c31b0 := eq_true c31; have c31b1 : decide (1 ≤ (x1_1.length : Int)) = true := decide_eq_true c31; clear c31; obtain ⟨y138, hy138⟩ : ∃ y_ : List (S139), y_ = (x1_1.drop 1) := ⟨_, rfl⟩
           replace H : (sets_Meet.l0 kj2 x0_1 y138 x5_1) = some r := by first | (rw [hy138]; with_reducible exact H) | (have H2_ := (Option.bind_some _ _).symm.trans H; rw [hy138]; with_reducible exact H2_) | (have H2_ := (Option.bind_some _ _).symm.trans H; with_reducible exact H2_) | with_reducible exact H | (rw [hy138]; exact H) | exact H
           have Ny138 := zk hy138; clear hy138; have H' := zk H; clear H; obtain ⟨Ao32, co32, eo32⟩ := Kd.V_slice HO_0.out; subst eo32; have p112 : 0 ≤ (0 : Int) := (by omega); have q112 : 0 < (x0_1.length : Int) := zT; obtain ⟨ad112, e112, hx112_0, hx112_1⟩ := at_T139 (Kd.V_reads' HO_0.out).2.2 0 p112 q112; cases e112; have qi112 : (0 < x0_1.length) = True := eq_true (by omega); (try rw [show ((0 : Int)).toNat = 0 from rfl] at hx112_0)
           (try rw [show 0 * 2 = 0 from rfl] at hx112_0)
           (try rw [Addr.add_zero'] at hx112_0)
           (try rw [show ((0 : Int)).toNat = 0 from rfl] at hx112_1)
           (try rw [show 0 * 2 = 0 from rfl] at hx112_1)
           (try rw [Addr.add_zero'] at hx112_1)
           replace p112 := eq_true p112; replace q112 := eq_true q112; obtain ⟨Ao33, co33, eo33⟩ := Kd.V_slice HO_1.out; subst eo33; have p113 : 0 ≤ (0 : Int) := (by omega); have q113 : 0 < (x1_1.length : Int) := zT; obtain ⟨ad113, e113, hx113_0, hx113_1⟩ := at_T139 (Kd.V_reads' HO_1.out).2.2 0 p113 q113; cases e113; have qi113 : (0 < x1_1.length) = True := eq_true (by omega); (try rw [show ((0 : Int)).toNat = 0 from rfl] at hx113_0)
           (try rw [show 0 * 2 = 0 from rfl] at hx113_0)
           (try rw [Addr.add_zero'] at hx113_0)
           (try rw [show ((0 : Int)).toNat = 0 from rfl] at hx113_1)
           (try rw [show 0 * 2 = 0 from rfl] at hx113_1)
           (try rw [Addr.add_zero'] at hx113_1)
           replace p113 := eq_true p113; replace q113 := eq_true q113; have p114 : 0 ≤ (0 : Int) := (by omega); have q114 : 0 < (x0_1.length : Int) := zT; obtain ⟨ad114, e114, hx114_0, hx114_1⟩ := at_T139 (Kd.V_reads' HO_0.out).2.2 0 p114 q114; obtain rfl : ad112 = ad114 := (by injection e114); have qi114 : (0 < x0_1.length) = True := eq_true (by omega); (try rw [show ((0 : Int)).toNat = 0 from rfl] at hx114_0)
           (try rw [show 0 * 2 = 0 from rfl] at hx114_0)
           (try rw [Addr.add_zero'] at hx114_0)
           (try rw [show ((0 : Int)).toNat = 0 from rfl] at hx114_1)
           (try rw [show 0 * 2 = 0 from rfl] at hx114_1)
           (try rw [Addr.add_zero'] at hx114_1)
           replace p114 := eq_true p114; replace q114 := eq_true q114; have p115 : 0 ≤ (0 : Int) := (by omega); have q115 : 0 < (x1_1.length : Int) := zT; obtain ⟨ad115, e115, hx115_0, hx115_1⟩ := at_T139 (Kd.V_reads' HO_1.out).2.2 0 p115 q115; obtain rfl : ad113 = ad115 := (by injection e115); have qi115 : (0 < x1_1.length) = True := eq_true (by omega); (try rw [show ((0 : Int)).toNat = 0 from rfl] at hx115_0)
           (try rw [show 0 * 2 = 0 from rfl] at hx115_0)
           (try rw [Addr.add_zero'] at hx115_0)
           (try rw [show ((0 : Int)).toNat = 0 from rfl] at hx115_1)
           (try rw [show 0 * 2 = 0 from rfl] at hx115_1)
           (try rw [Addr.add_zero'] at hx115_1)
           replace p115 := eq_true p115; replace q115 := eq_true q115; have p131 : 0 ≤ (0 : Int) := (by omega); have q131 : 0 < (x0_1.length : Int) := zT; obtain ⟨ad131, e131, hx131_0, hx131_1⟩ := at_T139 (Kd.V_reads' HO_0.out).2.2 0 p131 q131; obtain rfl : ad112 = ad131 := (by injection e131); have qi131 : (0 < x0_1.length) = True := eq_true (by omega); (try rw [show ((0 : Int)).toNat = 0 from rfl] at hx131_0)
           (try rw [show 0 * 2 = 0 from rfl] at hx131_0)
           (try rw [Addr.add_zero'] at hx131_0)
           (try rw [show ((0 : Int)).toNat = 0 from rfl] at hx131_1)
           (try rw [show 0 * 2 = 0 from rfl] at hx131_1)
           (try rw [Addr.add_zero'] at hx131_1)
           replace p131 := eq_true p131; replace q131 := eq_true q131; have p132 : 0 ≤ (0 : Int) := (by omega); have q132 : 0 < (x1_1.length : Int) := zT; obtain ⟨ad132, e132, hx132_0, hx132_1⟩ := at_T139 (Kd.V_reads' HO_1.out).2.2 0 p132 q132; obtain rfl : ad113 = ad132 := (by injection e132); have qi132 : (0 < x1_1.length) = True := eq_true (by omega); (try rw [show ((0 : Int)).toNat = 0 from rfl] at hx132_0)
           (try rw [show 0 * 2 = 0 from rfl] at hx132_0)
           (try rw [Addr.add_zero'] at hx132_0)
           (try rw [show ((0 : Int)).toNat = 0 from rfl] at hx132_1)
           (try rw [show 0 * 2 = 0 from rfl] at hx132_1)
           (try rw [Addr.add_zero'] at hx132_1)
           replace p132 := eq_true p132; replace q132 := eq_true q132; have q34 : (1 : Int) ≤ ((x1_1.length : Int) : Int) := zT; obtain ⟨i034, hi034, _, hsz34, _⟩ := info_parts info139; have hroom34 : x1_1.length ≤ co33 := (Kd.V_reads' HO_1.out).2.1; have hC34 : Kd.F k139 _ _ (some ad113) x1_1.length x1_1 := (Kd.V_at (base := w.heap.size) HO_1.out).2.2; have hcut34 := cut_from (P := Try.prog) 136 139 .i64 Try.underlying136 hi034 2 hsz34 (some ad113) x1_1.length co33 1 (by omega) q34; have hr34 := Kd.F_cut (m := (1 : Int).toNat) (c := co33) hC34 (by omega) hroom34; obtain ⟨A34, hA34⟩ : ∃ A1, A1 = (if co33 = (1 : Int).toNat then (some ad113) else ((some ad113) : Option Addr).map (·.add ((1 : Int).toNat * 2))) := ⟨_, rfl⟩
           obtain ⟨c34, hc34⟩ : ∃ c1, c1 = co33 - (1 : Int).toNat := ⟨_, rfl⟩
           have hy34 : y138.length = x1_1.length - (1 : Int).toNat := (by rw [Ny138.out, List.length_drop] <;> omega); rw [show (x1_1).drop (1 : Int).toNat = y138 from Ny138.out.symm] at hr34; replace hr34 : Kd.F k139 _ _ A34 y138.length y138 := (by rw [hA34]; exact hr34); rw [← hy34, ← hA34, ← hc34] at hcut34; have HO142 := zk (show Kd.V k139 139 _ w.heap.size _ (.slice A34 y138.length c34) y138 from Kd.V_mk (by rw [hy34, hc34]; exact Nat.sub_le_sub_right hroom34 _) hr34); have HC142 := zk (show y138.length ≤ c34 from by rw [hy34, hc34]; exact Nat.sub_le_sub_right hroom34 _); clear hr34 hC34 hroom34 hi034 hsz34 hc34; have KY34 := zk hy34; have KA34 := zk hA34; clear hy34 hA34; replace q34 := eq_true q34; go_wp2
           repeat (go_quiet (fail); try go_wp2)
           go_roundg kj2
           case measure => have := HK1.out; have := HJ2.out; omega
           case rel => exact ⟨(x0_1), (y138), (x5_1), H', ⟨by have := HK1.out; have := HJ2.out; omega⟩, ⟨by (with_reducible repeat (first | apply Kd.V_alloc | apply Kd.V_drewN | apply Kd.V_drew)); exact HO_0.out⟩, ⟨by (with_reducible repeat (first | apply Kd.V_alloc | apply Kd.V_drewN | apply Kd.V_drew)); exact HO142.out⟩, ⟨by (with_reducible repeat (first | apply zA | apply zB | apply zC)); exact HO_5.out⟩, ⟨zU HB.out⟩⟩
          ·rw [if_neg c31] at H; exact absurd H (by simp)
       ·rw [if_neg c10] at H; exact absurd H (by simp)
      ·rw [if_neg c9] at H; exact absurd H (by simp)
     ·replace c8 := Bool.eq_false_iff.mpr c8; subst c8; have H1 : (some x5_1) = some r := by rw [if_neg (show ¬ (false = true) by decide)] at H; exact H
      clear H; have H := H1; clear H1; obtain rfl := Option.some.inj H; go_wp2
      repeat (go_quiet (fail); try go_wp2)
      go_ret
      exact ⟨_, ze, by (with_reducible repeat (first | apply zA | apply zB | apply zC)); exact HO_5.out, zU HB.out⟩
def api_Range.l0 : Nat → List (S139) → List (S102) → Int → Int → Option ((List (S139)))
 | 0, _, _, _, _ => none
 | k + 1, x3, x9, x10, x11 => if x11 < x10 then (if 0 ≤ x11 then (if x11 < (x9.length : Int) then (if x3.length < 8796093022208 then (api_Range.l0 k (x3 ++ [(⟨(rd_T102 x9 x11).f0, (rd_T102 x9 x11).f1⟩ : S139)]) x9 x10 (wrap64 (x11 + 1))) else (none)) else (none)) else (none)) else (some x3)
def api_Range.f (k : Nat) (l0 : List (S102)) : Option ((List (S139))) := if 0 ≤ (l0.length : Int) then (if ((l0.length : Int) : Int).toNat ≤ 17592186044416 then (api_Range.l0 k (([] : List (S139))) l0 (l0.length : Int) 0) else (none)) else (none)
theorem api_Range.mono_l : ∀ k, (∀ y0 y1 y2 y3, LeO (api_Range.l0 k y0 y1 y2 y3) (api_Range.l0 (k + 1) y0 y1 y2 y3))
 | 0 => fun _ _ _ _ r h => by simp [api_Range.l0] at h
 | k + 1 => by
  have ih0 := api_Range.mono_l k
  ·intro y0 y1 y2 y3; unfold api_Range.l0; repeat' first
   | (with_reducible exact ih0 _ _ _ _)
   | (with_reducible exact LeO.refl _)
   | (with_reducible exact LeO.none _)
   | (with_reducible refine LeO.ite ?_ ?_)
   | (with_reducible refine LeO.bind ?_ (fun _ => ?_))
   | exact ih0 _ _ _ _
   | exact LeO.none _
   | refine LeO.ite ?_ ?_
   | refine LeO.bind ?_ (fun _ => ?_)
theorem api_Range.mono : ∀ a0 k, LeO (api_Range.f k a0) (api_Range.f (k + 1) a0) := by
 intro a0 k; have ih0 := api_Range.mono_l k; unfold api_Range.f; repeat' first
  | (with_reducible exact ih0 _ _ _ _)
  | (with_reducible exact LeO.refl _)
  | (with_reducible exact LeO.none _)
  | (with_reducible refine LeO.ite ?_ ?_)
  | (with_reducible refine LeO.bind ?_ (fun _ => ?_))
  | exact ih0 _ _ _ _
  | exact LeO.none _
  | refine LeO.ite ?_ ?_
  | refine LeO.bind ?_ (fun _ => ?_)
set_option maxHeartbeats 8000000 in
set_option maxRecDepth 100000 in
theorem api_Range.calls (k : Nat) (A0 : Option Addr) (c0 : Nat) (l0 : List (S102)) (r : List (S139)) (w : World) (hr0 : Kd.C k102 w A0 l0.length l0) (hc0 : l0.length ≤ c0) (h : api_Range.f k l0 = some r) :
 Calls Try.prog 120 #[.slice A0 l0.length c0] w fun e w' => ∃ v0_ : Value, e = .returned (v0_) ∧ Kd.R k139 139 w' w.heap.size (fun _ => True) v0_ r ∧ Below w.heap.size w w' := by
 have hu102 := Try.underlying102; have HR0 := zk hr0; have HC0 := zk hc0; clear hr0 hc0; have HB := zk (Below.refl w.heap.size w); have H : (if 0 ≤ (l0.length : Int) then (if ((l0.length : Int) : Int).toNat ≤ 17592186044416 then (api_Range.l0 k (([] : List (S139))) l0 (l0.length : Int) 0) else (none)) else (none)) = some r := h; clear h; by_cases c2 : 0 ≤ (l0.length : Int)
 ·rw [if_pos c2] at H; have c2b0 := eq_true c2; have c2b1 : decide (0 ≤ (l0.length : Int)) = true := decide_eq_true c2; clear c2; by_cases c3 : ((l0.length : Int) : Int).toNat ≤ 17592186044416
  ·rw [if_pos c3] at H; have c3b0 := eq_true c3; have c3b1 : decide (((l0.length : Int) : Int).toNat ≤ 17592186044416) = true := decide_eq_true c3; clear c3; obtain ⟨y143, hy143⟩ : ∃ y_ : List (S139), y_ = (([] : List (S139))) := ⟨_, rfl⟩
   replace H : (api_Range.l0 k y143 l0 (l0.length : Int) 0) = some r := by first | (rw [hy143]; with_reducible exact H) | (have H2_ := (Option.bind_some _ _).symm.trans H; rw [hy143]; with_reducible exact H2_) | (have H2_ := (Option.bind_some _ _).symm.trans H; with_reducible exact H2_) | with_reducible exact H | (rw [hy143]; exact H) | exact H
   have Ny143 := zk hy143; clear hy143; have H' := zk H; clear H; go_enter Try.func120, Try.ntmps120
   go_wp2_with (first | ((with_reducible refine gate_dst (N := 8) rfl ?_); refine KdCap.R_makecap k139 _ 139 rfl (N := 8) rfl 136 _ _ rfl (l0.length : Int) rfl rfl Try.underlying136 (.agg #[(.int .i64 0), (.int .i64 0)]) 16 info139 (by decide) (ok := fun _ => True) (okp := fun _ => True) (fun _ hk => hk) trivial zT (Nat.le_trans (Nat.mul_le_mul_right _ (zT : (l0.length : Int).toNat ≤ 17592186044416)) (by omega)) (Below.refl _ _) (Nat.le_refl _) ?_; intro v144 w4 ho5 hb hg_ hnew_; clear hg_ hnew_; (first | rw [← Ny143.out] at ho5 | (simp only [Int.reduceToNat] at ho5; rw [← Ny143.out] at ho5)); have HO145 := zk (Kd.R_lower ho5 (below_size (zU HB.out))); replace HB := zk (below_step (zU HB.out) hb);  clear hb ho5))
   go_loopg [3, 11] k (fun kq v3 v11 w' => ∃ (x3_1 : List (S139)) (x11_1 : Int), v11 = .int .i64 x11_1 ∧ Aside0 (api_Range.l0 kq x3_1 l0 (l0.length : Int) x11_1 = some r) ∧ Aside0 (kq ≤ k) ∧ Aside0 (Kd.R k139 139 w' w.heap.size (fun _ => True) v3 x3_1) ∧ Aside0 (Below w.heap.size w w'))
   case atStart => exact ⟨(y143), (0), zR, H', ⟨Nat.le_refl _⟩, ⟨by (with_reducible repeat (first | apply zA | apply zB | apply zC)); exact HO145.out⟩, ⟨zU HB.out⟩⟩
   case round =>
    clear H'; (try clear c1); (try clear c2); (try clear c2b0); (try clear c2b1); (try clear p2); (try clear c3); (try clear c3b0); (try clear c3b1); obtain ⟨x3_1, x11_1, rfl, HA, HK1, HO_3, HB⟩ := hrel
    cases gk with
    | zero => exact absurd HA.out (by simp [api_Range.l0])
    | succ k1 =>
     have H := HA.out; clear HA; simp only [api_Range.l0] at H; by_cases c6 : x11_1 < (l0.length : Int)
     ·rw [if_pos c6] at H; have c6b0 : decide (x11_1 < (l0.length : Int)) = true := decide_eq_true c6; clear c6; by_cases c7 : 0 ≤ x11_1
      ·rw [if_pos c7] at H; have c7b0 : decide (0 ≤ x11_1) = true := decide_eq_true c7; clear c7; by_cases c8 : x11_1 < (l0.length : Int)
       ·rw [if_pos c8] at H; have c8b0 : decide (x11_1 < (l0.length : Int)) = true := decide_eq_true c8; clear c8; by_cases c9 : x3_1.length < 8796093022208
        ·rw [if_pos c9] at H; have LMc9 := zk c9; clear c9; obtain ⟨y148, hy148⟩ : ∃ y_ : List (S139), y_ = (x3_1 ++ [(⟨(rd_T102 l0 x11_1).f0, (rd_T102 l0 x11_1).f1⟩ : S139)]) := ⟨_, rfl⟩
         replace H : (api_Range.l0 k1 y148 l0 (l0.length : Int) (wrap64 (x11_1 + 1))) = some r := by first | (rw [hy148]; with_reducible exact H) | (have H2_ := (Option.bind_some _ _).symm.trans H; rw [hy148]; with_reducible exact H2_) | (have H2_ := (Option.bind_some _ _).symm.trans H; with_reducible exact H2_) | with_reducible exact H | (rw [hy148]; exact H) | exact H
         have Ny148 := zk hy148; clear hy148; have H' := zk H; clear H; have p146 : 0 ≤ (x11_1 : Int) := zT; have q146 : x11_1 < (l0.length : Int) := zT; obtain ⟨ad146, e146, hx146_0, hx146_1⟩ := at_T102 HR0.out x11_1 p146 q146; cases e146; replace hx146_0 := zcl HB.out hx146_0; replace hx146_1 := zcl HB.out hx146_1; replace p146 := eq_true p146; replace q146 := eq_true q146; go_wp2_with (first | ((with_reducible refine gate_dst (N := 5) rfl ?_); refine box_event ?hg (N := 5) ?hd (cs := #[.int .i64 0, .int .i64 0]) (t := 102) ?hr ?_; (case hd => rfl); (case hg => rfl); (case hr => first | (go_simp; done) | (go_simp; rfl)); intro gb147 hg w10 hbox hb; replace HO_3 := zk (Kd.R_below (zr HO_3.out) hb); have BK147 := zk (hbox); have GE147 := zk ((zg hg HB.out : w.heap.size ≤ gb147)); replace HB := zk (below_step (zU HB.out) hb);  clear hb hbox hg; have hcz11_0 : w10.cell? ⟨gb147, 0, none⟩ = some (.int .i64 0) := zh BK147.out 0; have hcz11_1 : w10.cell? ⟨gb147, 1, none⟩ = some (.int .i64 0) := zh BK147.out 1; have hfz11_0 := blk_frozen BK147.out 0; have hfz11_1 := blk_frozen BK147.out 1) | ((with_reducible refine gate_builtin (b := .append) (xs := #[.tmp 15, .tmp 17]) rfl ?_); at_builtin; refine Kd.R_append k139 (w0 := w) w.heap.size rfl (.tmp 15) (.tmp 17) 136 139 (.agg #[(.int .i64 0), (.int .i64 0)]) 16 rfl Try.underlying136 info139 rfl (by decide) (by omega) u3 x3_1 (⟨(rd_T102 l0 x11_1).f0, (rd_T102 l0 x11_1).f1⟩ : S139) [.int .i64 ((rd_T102 l0 x11_1).f0), .int .i64 ((rd_T102 l0 x11_1).f1)] (fun _ => True) (fun _ => False) rfl (by first | (go_simp; done) | (go_simp; rfl)) ?aP (fun _ hk => hk.elim) ?aF ?aO ?aB ?aS ?aL ?_; (case aP => exact k139_mkM _ _ _ (⟨(rd_T102 l0 x11_1).f0, (rd_T102 l0 x11_1).f1⟩ : S139)); (case aB => exact (zU HB.out)); (case aF => exact (fun _ _ => trivial)); (case aO => exact (by (with_reducible repeat (first | apply zA | apply zB | apply zC)); exact Kd.R_mono (Kd.R_far (p := ⟨gb147, 1, none⟩) (Kd.R_far (p := ⟨gb147, 0, none⟩) (Kd.R_types HO_3.out BK147.out (by decide)) (fun _ hk => hk.2) (.int .i64 ((rd_T102 l0 x11_1).f0))) (fun _ hk => hk.2) (.int .i64 ((rd_T102 l0 x11_1).f1))) (fun _ hk => trivial))); (case aS => exact (below_size (zU HB.out))); (case aL => have := LMc9.out; omega); intro v149 w12 ho hb hg hat; rw [← Ny148.out] at ho; have n0_ := zk (blk_grown (g := gb147) (o := .cells #[.int .i64 ((rd_T102 l0 x11_1).f0), .int .i64 ((rd_T102 l0 x11_1).f1)] 102 (0, 0)) (by (with_reducible repeat (first | refine blk_drewN ?_ _ | refine blk_drew ?_ | refine blk_alloc ?_ _)); refine blk_put (cs := #[.int .i64 ((rd_T102 l0 x11_1).f0), .int .i64 0]) ?_ 1 _ rfl; (with_reducible repeat (first | refine blk_drewN ?_ _ | refine blk_drew ?_ | refine blk_alloc ?_ _)); refine blk_put (cs := #[.int .i64 0, .int .i64 0]) ?_ 0 _ rfl; exact zb BK147.out) hg (Kd.R_ne HO_3.out BK147.out (by decide))); have n1_ := zk (hb); have n2_ := zk (ho); clear BK147; clear HB; clear HO_3; have BK147 := n0_; have HB := n1_; have HO150 := n2_; clear n0_ n1_ n2_; clear ho hb hg hat))
         go_roundg k1
         case measure => have := HK1.out; omega
         case rel => exact ⟨(y148), (wrap64 (x11_1 + 1)), zR, H', ⟨by have := HK1.out; omega⟩, ⟨by (with_reducible repeat (first | apply zA | apply zB | apply zC)); exact HO150.out⟩, ⟨zU HB.out⟩⟩
        ·rw [if_neg c9] at H; exact absurd H (by simp)
       ·rw [if_neg c8] at H; exact absurd H (by simp)
      ·rw [if_neg c7] at H; exact absurd H (by simp)
     ·rw [if_neg c6] at H; have c6b0 : decide (x11_1 < (l0.length : Int)) = false := decide_eq_false c6; clear c6; obtain rfl := Option.some.inj H; go_wp2
      go_ret
      exact ⟨_, ze, by (with_reducible repeat (first | apply zA | apply zB | apply zC)); exact HO_3.out, zU HB.out⟩
  ·rw [if_neg c3] at H; exact absurd H (by simp)
 ·rw [if_neg c2] at H; exact absurd H (by simp)
end Go.Proofs.Ytkcklnmbeinfkaa.B
