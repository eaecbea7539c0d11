/- Words and walks of this claim, of the text Ix15. -/
import Derived.Test.YtoljcfocgaonpaaKfQW0
import Derived.Test.YtoljcfocgaonpaaKfIx0
import Derived.Test.YtoljcfocgaonpaaKfIx6
import Derived.Test.YtoljcfocgaonpaaKfIx14
namespace Go.Proofs.Ytoljcfocgaonpaa.I
open Go.RowKit Go.Proofs.YtoljcfocgaonpaaW.PrintWords Go.Proofs.YtoljcfocgaonpaaW.PrintLast Go.Proofs.YtoljcfocgaonpaaW.PrintMore
attribute [local go_sem] max2_int min2_int max_two min_two max_three min_three max_four min_four
set_option linter.unusedVariables false
set_option linter.unusedSimpArgs false
def shape_steps.l0 : Nat → Int → Int → List Int → List (List (S34)) → Int → Option (List Int)
 | 0, _, _, _, _, _ => none
 | k + 1, x4, x5, x10, x429000, x429001 => if x5 > 0 then (if 0 ≤ x5 then (if x5 < (x10.length : Int) then (if 0 ≤ (wrap64 (x5 - 1)) then (if (wrap64 (x5 - 1)) < (x429000.length : Int) then ((spans_Size.f k (rd_L4 x429000 (wrap64 (x5 - 1)))).bind fun t434 => (shape_steps.l0 k (wrap64 (x4 * t434)) (wrap64 (x5 - 1)) (x10.set (x5 : Int).toNat x4) x429000 x429001)) else (none)) else (none)) else (none)) else (none)) else (if 0 < (x10.length : Int) then (some (x10.set (0 : Int).toNat x4)) else (none))
def shape_steps.f (k : Nat) (l0_0 : List (List (S34))) (a0_1 : Int) : Option (List Int) := if 0 ≤ (wrap64 ((l0_0.length : Int) + 1)) then (if (wrap64 ((l0_0.length : Int) + 1) : Int).toNat ≤ 35184372088832 then (shape_steps.l0 k 1 (l0_0.length : Int) (List.replicate (wrap64 ((l0_0.length : Int) + 1) : Int).toNat 0) l0_0 a0_1) else (none)) else (none)
theorem shape_steps.mono_l : ∀ k, (∀ y0 y1 y2 y3 y4, LeO (shape_steps.l0 k y0 y1 y2 y3 y4) (shape_steps.l0 (k + 1) y0 y1 y2 y3 y4))
 | 0 => fun _ _ _ _ _ r h => by simp [shape_steps.l0] at h
 | k + 1 => by
  have ih0 := shape_steps.mono_l k
  ·intro y0 y1 y2 y3 y4; unfold shape_steps.l0; repeat' first
   | (with_reducible exact ih0 _ _ _ _ _)
   | (with_reducible exact spans_Size.mono _ _)
   | (with_reducible exact LeO.refl _)
   | (with_reducible exact LeO.none _)
   | (with_reducible refine LeO.ite ?_ ?_)
   | (with_reducible refine LeO.bind ?_ (fun _ => ?_))
   | exact ih0 _ _ _ _ _
   | exact spans_Size.mono _ _
   | exact LeO.none _
   | refine LeO.ite ?_ ?_
   | refine LeO.bind ?_ (fun _ => ?_)
theorem shape_steps.mono : ∀ a0 a1 k, LeO (shape_steps.f k a0 a1) (shape_steps.f (k + 1) a0 a1) := by
 intro a0 a1 k; have ih0 := shape_steps.mono_l k; unfold shape_steps.f; repeat' first
  | (with_reducible exact ih0 _ _ _ _ _)
  | (with_reducible exact spans_Size.mono _ _)
  | (with_reducible exact LeO.refl _)
  | (with_reducible exact LeO.none _)
  | (with_reducible refine LeO.ite ?_ ?_)
  | (with_reducible refine LeO.bind ?_ (fun _ => ?_))
  | exact ih0 _ _ _ _ _
  | exact spans_Size.mono _ _
  | exact LeO.none _
  | refine LeO.ite ?_ ?_
  | refine LeO.bind ?_ (fun _ => ?_)
set_option maxHeartbeats 8000000 in
set_option maxRecDepth 100000 in
theorem shape_steps.calls (k : Nat) (A0_0 : Option Addr) (c0_0 : Nat) (l0_0 : List (List (S34))) (a0_1 : Int) (r : List Int) (w : World) (hr0_0 : Kd.C (Kd.slice 34 k34) w A0_0 l0_0.length l0_0) (hc0_0 : l0_0.length ≤ c0_0) (h : shape_steps.f k l0_0 a0_1 = some r) :
 Calls Try.prog 75 #[.agg #[.slice A0_0 l0_0.length c0_0, .int .i64 a0_1]] w fun e w' => ∃ v0_ : Value, e = .returned (v0_) ∧ Kd.R (Kd.int .i64) 3 w' w.heap.size (fun _ => True) v0_ r ∧ Below w.heap.size w w' := by
 have hu47 := Try.underlying47; have HR0_0 := zk hr0_0; have HC0_0 := zk hc0_0; clear hr0_0 hc0_0; have HB := zk (Below.refl w.heap.size w); have H : (if 0 ≤ (wrap64 ((l0_0.length : Int) + 1)) then (if (wrap64 ((l0_0.length : Int) + 1) : Int).toNat ≤ 35184372088832 then (shape_steps.l0 k 1 (l0_0.length : Int) (List.replicate (wrap64 ((l0_0.length : Int) + 1) : Int).toNat 0) l0_0 a0_1) else (none)) else (none)) = some r := h; clear h; obtain ⟨ji2, hji2⟩ : ∃ j_ : Int, (wrap64 ((l0_0.length : Int) + 1)) = j_ := ⟨_, rfl⟩
 replace H : (if 0 ≤ (ji2) then (if (ji2 : Int).toNat ≤ 35184372088832 then (shape_steps.l0 k 1 (l0_0.length : Int) (List.replicate (ji2 : Int).toNat 0) l0_0 a0_1) else (none)) else (none)) = some r := by first | (rw [hji2] at H; exact H) | (simp only [hji2] at H ⊢; exact H)
 have hji2w : (IntKind.i64.wrap ((l0_0.length : Int) + 1)) = ji2 := (i64_w _).trans hji2; by_cases c3 : 0 ≤ (ji2)
 ·rw [if_pos c3] at H; have c3b0 := eq_true c3; have c3b1 : decide (0 ≤ (ji2)) = true := decide_eq_true c3; clear c3; by_cases c4 : (ji2 : Int).toNat ≤ 35184372088832
  ·rw [if_pos c4] at H; have c4b0 := eq_true c4; have c4b1 : decide ((ji2 : Int).toNat ≤ 35184372088832) = true := decide_eq_true c4; clear c4; obtain ⟨y429, hy429⟩ : ∃ y_ : List Int, y_ = (List.replicate (ji2 : Int).toNat 0) := ⟨_, rfl⟩
   replace H : (shape_steps.l0 k 1 (l0_0.length : Int) y429 l0_0 a0_1) = some r := by first | (rw [hy429]; with_reducible exact H) | (have H2_ := (Option.bind_some _ _).symm.trans H; rw [hy429]; with_reducible exact H2_) | (have H2_ := (Option.bind_some _ _).symm.trans H; with_reducible exact H2_) | with_reducible exact H | (rw [hy429]; exact H) | exact H
   have Ny429 := zk hy429; clear hy429; have H' := zk H; clear H; go_enter Try.func75, Try.ntmps75
   go_wp2_with (first | ((with_reducible refine gate_dst (N := 1) rfl ?_); refine box_event ?hg (N := 1) ?hd (cs := #[.slice A0_0 l0_0.length c0_0, .int .i64 a0_1]) (t := 47) ?hr ?_; (case hd => rfl); (case hg => rfl); (case hr => first | (go_simp; done) | (go_simp; rfl)); intro gb428 hg w5 hbox hb; have BK428 := zk (hbox); have GE428 := zk ((zg hg HB.out : w.heap.size ≤ gb428)); replace HB := zk (below_step (zU HB.out) hb);  clear hb hbox hg; have hcz6_0 : w5.cell? ⟨gb428, 0, none⟩ = some (.slice A0_0 l0_0.length c0_0) := zh BK428.out 0; have hcz6_1 : w5.cell? ⟨gb428, 1, none⟩ = some (.int .i64 a0_1) := zh BK428.out 1; have hfz6_0 := blk_frozen BK428.out 0; have hfz6_1 := blk_frozen BK428.out 1) | ((with_reducible refine gate_dst (N := 10) rfl ?_); refine Kd.R_make (Kd.int .i64) _ 3 rfl (N := 10) rfl 53 _ _ rfl ji2 rfl rfl Try.underlying53 (.int .i64 0) 8 info3 rfl (by decide) (by omega) 0 (ok := fun _ => True) (okp := fun _ => True) rfl (fun _ hk => hk) trivial zT (Nat.le_trans (Nat.mul_le_mul_right _ (zT : ji2.toNat ≤ 35184372088832)) (by omega)) (Below.refl _ _) (Nat.le_refl _) ?_; intro v430 w7 ho8 hb hg_ hnew_; clear hg_ hnew_; (first | rw [← Ny429.out] at ho8 | (simp only [Int.reduceToNat] at ho8; rw [← Ny429.out] at ho8)); have HO431 := zk (Kd.R_lower ho8 (below_size (zU HB.out))); replace BK428 := zk (zbb BK428.out hb); replace HB := zk (below_step (zU HB.out) hb);  clear hb ho8; have hcz9_0 : w7.cell? ⟨gb428, 0, none⟩ = some (.slice A0_0 l0_0.length c0_0) := zh BK428.out 0; have hcz9_1 : w7.cell? ⟨gb428, 1, none⟩ = some (.int .i64 a0_1) := zh BK428.out 1; have hfz9_0 := blk_frozen BK428.out 0; have hfz9_1 := blk_frozen BK428.out 1))
   go_loopg [4, 5] k (fun kq v4 v5 w' => ∃ (x4_1 : Int) (x5_1 : Int) (x10_1 : List Int), v4 = .int .i64 x4_1 ∧ v5 = .int .i64 x5_1 ∧ Aside0 (shape_steps.l0 kq x4_1 x5_1 x10_1 l0_0 a0_1 = some r) ∧ Aside0 (kq ≤ k) ∧ Aside0 (Kd.R (Kd.int .i64) 3 w' w.heap.size (fun _ => True) v430 x10_1) ∧ Aside0 (w'.heap[gb428]? = some (.cells #[(.slice A0_0 l0_0.length c0_0), .int .i64 a0_1] 47 (0, 0))) ∧ Aside0 (Below w.heap.size w w'))
   case atStart => exact ⟨(1), ((l0_0.length : Int)), (y429), zR, zR, H', ⟨Nat.le_refl _⟩, ⟨by (with_reducible repeat (first | apply zA | apply zB | apply zC)); exact HO431.out⟩, ⟨zb BK428.out⟩, ⟨zU HB.out⟩⟩
   case round =>
    clear H'; (try clear p2); (try clear c3); (try clear c3b0); (try clear c3b1); (try clear c4); (try clear c4b0); (try clear c4b1); (try clear p6); (try clear c7); (try clear hcz6_0); (try clear hcz6_1); (try clear hcz9_0); (try clear hcz9_1); (try clear hfz6_0); (try clear hfz6_1); (try clear hfz9_0); (try clear hfz9_1); obtain ⟨x4_1, x5_1, x10_1, rfl, rfl, HA, HK1, HO_10, BK428, HB⟩ := hrel
    cases gk with
    | zero => exact absurd HA.out (by simp [shape_steps.l0])
    | succ k1 =>
     have H := HA.out; clear HA; simp only [shape_steps.l0] at H; by_cases c10 : x5_1 > 0
     ·rw [if_pos c10] at H; have c10b0 : decide (0 < x5_1) = true := decide_eq_true c10; clear c10; by_cases c11 : 0 ≤ x5_1
      ·rw [if_pos c11] at H; have c11b0 : decide (0 ≤ x5_1) = true := decide_eq_true c11; clear c11; by_cases c12 : x5_1 < (x10_1.length : Int)
       ·rw [if_pos c12] at H; have c12b0 : decide (x5_1 < (x10_1.length : Int)) = true := decide_eq_true c12; clear c12; obtain ⟨y432, hy432⟩ : ∃ y_ : List Int, y_ = (x10_1.set (x5_1 : Int).toNat x4_1) := ⟨_, rfl⟩
        replace H : (if 0 ≤ (wrap64 (x5_1 - 1)) then (if (wrap64 (x5_1 - 1)) < (l0_0.length : Int) then ((spans_Size.f k1 (rd_L4 l0_0 (wrap64 (x5_1 - 1)))).bind fun t434 => (shape_steps.l0 k1 (wrap64 (x4_1 * t434)) (wrap64 (x5_1 - 1)) y432 l0_0 a0_1)) else (none)) else (none)) = some r := by first | (rw [hy432]; with_reducible exact H) | (have H2_ := (Option.bind_some _ _).symm.trans H; rw [hy432]; with_reducible exact H2_) | (have H2_ := (Option.bind_some _ _).symm.trans H; with_reducible exact H2_) | with_reducible exact H | (rw [hy432]; exact H) | exact H
        have Ny432 := zk hy432; clear hy432; obtain ⟨ji14, hji14⟩ : ∃ j_ : Int, (wrap64 (x5_1 - 1)) = j_ := ⟨_, rfl⟩
        replace H : (if 0 ≤ (ji14) then (if (ji14) < (l0_0.length : Int) then ((spans_Size.f k1 (rd_L4 l0_0 (ji14))).bind fun t434 => (shape_steps.l0 k1 (wrap64 (x4_1 * t434)) ji14 y432 l0_0 a0_1)) else (none)) else (none)) = some r := by first | (rw [hji14] at H; exact H) | (simp only [hji14] at H ⊢; exact H)
        have hji14w : (IntKind.i64.wrap (x5_1 - 1)) = ji14 := (i64_w _).trans hji14; by_cases c15 : 0 ≤ (ji14)
        ·rw [if_pos c15] at H; have c15b0 : decide (0 ≤ (ji14)) = true := decide_eq_true c15; clear c15; by_cases c16 : (ji14) < (l0_0.length : Int)
         ·rw [if_pos c16] at H; have c16b0 : decide ((ji14) < (l0_0.length : Int)) = true := decide_eq_true c16; clear c16; replace H := Option.bind_eq_some_iff.mp H; obtain ⟨t434, A170, H⟩ := H; replace H : (shape_steps.l0 k1 (wrap64 (x4_1 * t434)) ji14 y432 l0_0 a0_1) = some r := H; have A17 := zk A170; clear A170; have H' := zk H; clear H; have p13 : 0 ≤ (x5_1 : Int) := zT; have q13 : (x5_1 : Int) < ((x10_1.length : Int) : Int) := zT; obtain ⟨go13, co13, eo13, gb13, gl13, cl13, HG13⟩ := Kd.R_form HO_10.out (by omega)
          (first | cases eo13 | (injection eo13 with ea_ en_ ec_; (first | subst ea_ | (injection ea_ with ea_; subst ea_)); subst ec_; clear en_))
          have GB13 := zk gb13; have GG13 := zk HG13; clear gb13 gl13 HG13; obtain ⟨hx13_0, hf13_0⟩ := Kd.R_celln 0 HO_10.out (x5_1 : Int) p13 q13; replace p13 := eq_true p13; replace q13 := eq_true q13; have HP18 := Kd.R_putg HO_10.out (x5_1 : Int) x4_1; go_wp2_with (first | ((with_reducible refine gate_store (t := 3) (p := 21) rfl ?_); refine store_event (t := 3) (p := 21) (v := ?vo_w19) (w1 := (wr.setCell ⟨go13, (x5_1 : Int).toNat, none⟩ (.int .i64 x4_1))) ?hg ?ho ?hn ?hr ?_; (case ho => rfl); (case hg => rfl); (case hn => rfl); (case hr => first | (go_simp; done) | (go_simp; rfl)); intro w19 hw; have hg : wr.grownBy w19 (some go13) := (by rw [hw]; exact HP18.2); have hp_ : Kd.R (Kd.int .i64) 3 w19 w.heap.size (fun _ => True) (.slice (some ⟨go13, 0, none⟩) x10_1.length co13) y432 := (by rw [hw, Ny432.out]; exact HP18.1); clear HP18; replace BK428 := zk (blk_grown (g := gb428) (o := .cells #[.slice A0_0 l0_0.length c0_0, .int .i64 a0_1] 47 (0, 0)) (zb BK428.out) hg (Kd.R_ne HO_10.out BK428.out (by decide))); replace HO_10 := zk (hp_); replace HB := zk ((by rw [hw]; exact below_set (HB.out) GB13.out : Below w.heap.size w w19));  clear hg hw hp_; have hcz20_0 : w19.cell? ⟨gb428, 0, none⟩ = some (.slice A0_0 l0_0.length c0_0) := zh BK428.out 0; have hcz20_1 : w19.cell? ⟨gb428, 1, none⟩ = some (.int .i64 a0_1) := zh BK428.out 1; have hfz20_0 := blk_frozen BK428.out 0; have hfz20_1 := blk_frozen BK428.out 1; have p433 : 0 ≤ ((ji14) : Int) := zT; have q433 : (ji14) < (l0_0.length : Int) := zT; obtain ⟨ad433, A433_0, c433_0, e433, hx433_0, hl433_0, hi433_0⟩ := at_L4 HR0_0.out (ji14) p433 q433; cases e433; replace hx433_0 := zcl HB.out hx433_0; have HR433_0 := zk hi433_0; have HC433_0 := zk hl433_0; clear hi433_0 hl433_0; replace p433 := eq_true p433; replace q433 := eq_true q433) | ((with_reducible refine gate_callee (f := 58) rfl ?_); refine goesL_ (some 29) rfl rfl Try.func58 zz rfl #[.slice A433_0 (rd_L4 l0_0 (ji14)).length c433_0] rfl (by (try simp only [List.map_toArray, List.map_cons, List.map_nil]); first | done | (simp only [hji14]; rfl) | rfl | (simp only [List.length_drop, List.length_take]; rfl)) ?_; (with_reducible refine (spans_Size.calls k1 _ _ (rd_L4 l0_0 (ji14)) t434 _ ?side1 ?side2 A17.out).mono ?_); (case side1 => exact zc (Kd.C_below HR433_0.out HB.out)); (case side2 => exact HC433_0.out); rintro e w21 ⟨rfl, hb⟩; refine ⟨_, rfl, ?_⟩; replace HO_10 := zk (Kd.R_below (zr HO_10.out) hb); replace BK428 := zk (zbb BK428.out hb); replace HB := zk (below_step (zU HB.out) hb);  (try clear hb); (try clear hb2); (try clear hk); (try clear hi)))
          go_roundg k1
          case measure => have := HK1.out; omega
          case rel => exact ⟨(wrap64 (x4_1 * t434)), (ji14), (y432), zR, (by first | rfl | (simp; done) | (rw [← hji14_, if_pos (by omega)]; first | done | rfl) | (rw [← hji14_, if_neg (by omega)]; first | done | rfl) | (simp only [← hji14] <;> (first | rfl | simp)) | (simp [*]; done)), H', ⟨by have := HK1.out; omega⟩, ⟨by (with_reducible repeat (first | apply zA | apply zB | apply zC)); exact HO_10.out⟩, ⟨zb BK428.out⟩, ⟨zU HB.out⟩⟩
         ·rw [if_neg c16] at H; exact absurd H (by simp)
        ·rw [if_neg c15] at H; exact absurd H (by simp)
       ·rw [if_neg c12] at H; exact absurd H (by simp)
      ·rw [if_neg c11] at H; exact absurd H (by simp)
     ·rw [if_neg c10] at H; have c10b0 : decide (0 < x5_1) = false := decide_eq_false c10; clear c10; by_cases c22 : 0 < (x10_1.length : Int)
      ·rw [if_pos c22] at H; have c22b0 : decide (0 < (x10_1.length : Int)) = true := decide_eq_true c22; have c22b1 : decide (0 < x10_1.length) = true := decide_eq_true (by omega); clear c22; obtain ⟨y435, hy435⟩ : ∃ y_ : List Int, y_ = (x10_1.set (0 : Int).toNat x4_1) := ⟨_, rfl⟩
       replace H : (some y435) = some r := by first | (rw [hy435]; with_reducible exact H) | (have H2_ := (Option.bind_some _ _).symm.trans H; rw [hy435]; with_reducible exact H2_) | (have H2_ := (Option.bind_some _ _).symm.trans H; with_reducible exact H2_) | with_reducible exact H | (rw [hy435]; exact H) | exact H
       have Ny435 := zk hy435; clear hy435; obtain rfl := Option.some.inj H; have p23 : 0 ≤ (0 : Int) := (by omega); have q23 : (0 : Int) < ((x10_1.length : Int) : Int) := zT; have qi23 : (0 < x10_1.length) = True := eq_true (by omega); obtain ⟨go23, co23, eo23, gb23, gl23, cl23, HG23⟩ := Kd.R_form HO_10.out (by omega)
       (first | cases eo23 | (injection eo23 with ea_ en_ ec_; (first | subst ea_ | (injection ea_ with ea_; subst ea_)); subst ec_; clear en_))
       have GB23 := zk gb23; have GG23 := zk HG23; clear gb23 gl23 HG23; obtain ⟨hx23_0, hf23_0⟩ := Kd.R_celln 0 HO_10.out (0 : Int) p23 q23; (try rw [show ((0 : Int)).toNat = 0 from rfl] at hx23_0)
       (try simp only [Nat.reduceMul, Nat.zero_mul, Nat.zero_add, Nat.reduceAdd] at hx23_0)
       (try rw [show ((0 : Int)).toNat = 0 from rfl] at hf23_0)
       (try simp only [Nat.reduceMul, Nat.zero_mul, Nat.zero_add, Nat.reduceAdd] at hf23_0)
       replace p23 := eq_true p23; replace q23 := eq_true q23; have HP24 := Kd.R_putg HO_10.out (0 : Int) x4_1; go_wp2_with (first | ((with_reducible refine gate_store (t := 3) (p := 33) rfl ?_); refine store_event (t := 3) (p := 33) (v := ?vo_w25) (w1 := (wr.setCell ⟨go23, (0 : Int).toNat, none⟩ (.int .i64 x4_1))) ?hg ?ho ?hn ?hr ?_; (case ho => rfl); (case hg => rfl); (case hn => rfl); (case hr => first | (go_simp; done) | (go_simp; rfl)); intro w25 hw; have hg : wr.grownBy w25 (some go23) := (by rw [hw]; exact HP24.2); have hp_ : Kd.R (Kd.int .i64) 3 w25 w.heap.size (fun _ => True) (.slice (some ⟨go23, 0, none⟩) x10_1.length co23) y435 := (by rw [hw, Ny435.out]; exact HP24.1); clear HP24; replace BK428 := zk (blk_grown (g := gb428) (o := .cells #[.slice A0_0 l0_0.length c0_0, .int .i64 a0_1] 47 (0, 0)) (zb BK428.out) hg (Kd.R_ne HO_10.out BK428.out (by decide))); replace HO_10 := zk (hp_); replace HB := zk ((by rw [hw]; exact below_set (HB.out) GB23.out : Below w.heap.size w w25));  clear hg hw hp_))
       go_ret
       exact ⟨_, by first | rfl | (simp [errW_none, errW_some] <;> rfl) | (simp only [← hji2]; first | rfl | (simp [errW_none, errW_some] <;> rfl)) | (simp [*, errW_none, errW_some] <;> rfl), by (with_reducible repeat (first | apply zA | apply zB | apply zC)); exact HO_10.out, zU HB.out⟩
      ·rw [if_neg c22] at H; exact absurd H (by simp)
  ·rw [if_neg c4] at H; exact absurd H (by simp)
 ·rw [if_neg c3] at H; exact absurd H (by simp)
def shape_Count.f (k : Nat) (l0_0 : List (List (S34))) (a0_1 : Int) : Option (Int) := (shape_Valid.f k l0_0 a0_1).bind fun t437 => (if t437 = true then ((shape_steps.f k l0_0 a0_1).bind fun t438 => (if 0 < (t438.length : Int) then (some (rd t438 0)) else (none))) else (some 0))
theorem shape_Count.mono : ∀ a0 a1 k, LeO (shape_Count.f k a0 a1) (shape_Count.f (k + 1) a0 a1) := by
 intro a0 a1 k; unfold shape_Count.f; repeat' first
  | (with_reducible exact shape_Valid.mono _ _ _)
  | (with_reducible exact shape_steps.mono _ _ _)
  | (with_reducible exact LeO.refl _)
  | (with_reducible exact LeO.none _)
  | (with_reducible refine LeO.ite ?_ ?_)
  | (with_reducible refine LeO.bind ?_ (fun _ => ?_))
  | exact shape_Valid.mono _ _ _
  | exact shape_steps.mono _ _ _
  | exact LeO.none _
  | refine LeO.ite ?_ ?_
  | refine LeO.bind ?_ (fun _ => ?_)
set_option maxHeartbeats 8000000 in
set_option maxRecDepth 100000 in
theorem shape_Count.calls (k : Nat) (A0_0 : Option Addr) (c0_0 : Nat) (l0_0 : List (List (S34))) (a0_1 : Int) (r : Int) (w : World) (hr0_0 : Kd.C (Kd.slice 34 k34) w A0_0 l0_0.length l0_0) (hc0_0 : l0_0.length ≤ c0_0) (h : shape_Count.f k l0_0 a0_1 = some r) :
 Calls Try.prog 71 #[.agg #[.slice A0_0 l0_0.length c0_0, .int .i64 a0_1]] w fun e w' => e = .returned (.int .i64 r) ∧ Below w.heap.size w w' := by
 have hu47 := Try.underlying47; have HR0_0 := zk hr0_0; have HC0_0 := zk hc0_0; clear hr0_0 hc0_0; have HB := zk (Below.refl w.heap.size w); have H : ((shape_Valid.f k l0_0 a0_1).bind fun t437 => (if t437 = true then ((shape_steps.f k l0_0 a0_1).bind fun t438 => (if 0 < (t438.length : Int) then (some (rd t438 0)) else (none))) else (some 0))) = some r := h; clear h; replace H := Option.bind_eq_some_iff.mp H; obtain ⟨t437, A20, H⟩ := H; replace H : (if t437 = true then ((shape_steps.f k l0_0 a0_1).bind fun t438 => (if 0 < (t438.length : Int) then (some (rd t438 0)) else (none))) else (some 0)) = some r := H; have A2 := zk A20; clear A20; by_cases c3 : t437 = true
 ·subst c3; have H1 : ((shape_steps.f k l0_0 a0_1).bind fun t438 => (if 0 < (t438.length : Int) then (some (rd t438 0)) else (none))) = some r := by rw [if_pos rfl] at H; exact H
  clear H; have H := H1; clear H1; replace H := Option.bind_eq_some_iff.mp H; obtain ⟨t438, A40, H⟩ := H; replace H : (if 0 < (t438.length : Int) then (some (rd t438 0)) else (none)) = some r := H; have A4 := zk A40; clear A40; by_cases c5 : 0 < (t438.length : Int)
  ·rw [if_pos c5] at H; have c5b0 : decide (0 < (t438.length : Int)) = true := decide_eq_true c5; have c5b1 : decide (0 < t438.length) = true := decide_eq_true (by omega); clear c5; obtain rfl := Option.some.inj H; go_enter Try.func71, Try.ntmps71
   go_wp2_with (first | ((with_reducible refine gate_dst (N := 1) rfl ?_); refine box_event ?hg (N := 1) ?hd (cs := #[.slice A0_0 l0_0.length c0_0, .int .i64 a0_1]) (t := 47) ?hr ?_; (case hd => rfl); (case hg => rfl); (case hr => first | (go_simp; done) | (go_simp; rfl)); intro gb436 hg w6 hbox hb; have BK436 := zk (hbox); have GE436 := zk ((zg hg HB.out : w.heap.size ≤ gb436)); replace HB := zk (below_step (zU HB.out) hb);  clear hb hbox hg; have hcz7_0 : w6.cell? ⟨gb436, 0, none⟩ = some (.slice A0_0 l0_0.length c0_0) := zh BK436.out 0; have hcz7_1 : w6.cell? ⟨gb436, 1, none⟩ = some (.int .i64 a0_1) := zh BK436.out 1; have hfz7_0 := blk_frozen BK436.out 0; have hfz7_1 := blk_frozen BK436.out 1) | ((with_reducible refine gate_callee (f := 74) rfl ?_); refine goesL_ (some 4) rfl rfl Try.func74 zz rfl #[.agg #[.slice A0_0 l0_0.length c0_0, .int .i64 a0_1]] rfl zM ?_; (with_reducible refine (shape_Valid.calls k (fun k_ => k_ < w.heap.size) _ _ l0_0 a0_1 true _ ?side1 A2.out).mono ?_); (case side1 => exact Kd.V_mk HC0_0.out (Kd.F_below (Kd.C_F (Kd.heap_slice 34 k34_heap) HR0_0.out) (zU HB.out))); rintro e w8 ⟨rfl, hb⟩; refine ⟨_, rfl, ?_⟩; replace BK436 := zk (zbb BK436.out hb); replace HB := zk (below_step (zU HB.out) hb);  (try clear hb); (try clear hb2); (try clear hk); (try clear hi); have hcz9_0 : w8.cell? ⟨gb436, 0, none⟩ = some (.slice A0_0 l0_0.length c0_0) := zh BK436.out 0; have hcz9_1 : w8.cell? ⟨gb436, 1, none⟩ = some (.int .i64 a0_1) := zh BK436.out 1; have hfz9_0 := blk_frozen BK436.out 0; have hfz9_1 := blk_frozen BK436.out 1) | ((with_reducible refine gate_callee (f := 75) rfl ?_); refine goesL_ (some 7) rfl rfl Try.func75 zz rfl #[.agg #[.slice A0_0 l0_0.length c0_0, .int .i64 a0_1]] rfl zM ?_; (with_reducible refine (shape_steps.calls k _ _ l0_0 a0_1 t438 _ ?side1 ?side2 A4.out).mono ?_); (case side1 => exact zc (Kd.C_below HR0_0.out HB.out)); (case side2 => exact HC0_0.out); rintro e w10 ⟨v439, rfl, ho0, hb⟩; refine ⟨_, rfl, ?_⟩; have HO440 := zk (Kd.R_lower ho0 (below_size (zU HB.out))); replace BK436 := zk (zbb BK436.out hb); replace HB := zk (below_step (zU HB.out) hb);  (try clear hb); (try clear hb2); (try clear hk); (try clear hi); (try clear ho0); obtain ⟨Ao11, co11, eo11⟩ := Kd.R_slice HO440.out; subst eo11; have p441 : 0 ≤ (0 : Int) := (by omega); have q441 : 0 < (t438.length : Int) := zT; obtain ⟨ad441, e441, hx441_0⟩ := Kd.at_int (Kd.R_reads' HO440.out).2.2 0 p441 q441; cases e441; have qi441 : (0 < t438.length) = True := eq_true (by omega); (try rw [show ((0 : Int)).toNat = 0 from rfl] at hx441_0); (try rw [Addr.add_zero'] at hx441_0); replace p441 := eq_true p441; replace q441 := eq_true q441))
   go_ret
   exact ⟨ze, zU HB.out⟩
  ·rw [if_neg c5] at H; exact absurd H (by simp)
 ·replace c3 := Bool.eq_false_iff.mpr c3; subst c3; have H1 : (some 0) = some r := by rw [if_neg (show ¬ (false = true) by decide)] at H; exact H
  clear H; have H := H1; clear H1; obtain rfl := Option.some.inj H; go_enter Try.func71, Try.ntmps71
  go_wp2_with (first | ((with_reducible refine gate_dst (N := 1) rfl ?_); refine box_event ?hg (N := 1) ?hd (cs := #[.slice A0_0 l0_0.length c0_0, .int .i64 a0_1]) (t := 47) ?hr ?_; (case hd => rfl); (case hg => rfl); (case hr => first | (go_simp; done) | (go_simp; rfl)); intro gb436 hg w12 hbox hb; have BK436 := zk (hbox); have GE436 := zk ((zg hg HB.out : w.heap.size ≤ gb436)); replace HB := zk (below_step (zU HB.out) hb);  clear hb hbox hg; have hcz13_0 : w12.cell? ⟨gb436, 0, none⟩ = some (.slice A0_0 l0_0.length c0_0) := zh BK436.out 0; have hcz13_1 : w12.cell? ⟨gb436, 1, none⟩ = some (.int .i64 a0_1) := zh BK436.out 1; have hfz13_0 := blk_frozen BK436.out 0; have hfz13_1 := blk_frozen BK436.out 1) | ((with_reducible refine gate_callee (f := 74) rfl ?_); refine goesL_ (some 4) rfl rfl Try.func74 zz rfl #[.agg #[.slice A0_0 l0_0.length c0_0, .int .i64 a0_1]] rfl zM ?_; (with_reducible refine (shape_Valid.calls k (fun k_ => k_ < w.heap.size) _ _ l0_0 a0_1 false _ ?side1 A2.out).mono ?_); (case side1 => exact Kd.V_mk HC0_0.out (Kd.F_below (Kd.C_F (Kd.heap_slice 34 k34_heap) HR0_0.out) (zU HB.out))); rintro e w14 ⟨rfl, hb⟩; refine ⟨_, rfl, ?_⟩; replace BK436 := zk (zbb BK436.out hb); replace HB := zk (below_step (zU HB.out) hb);  (try clear hb); (try clear hb2); (try clear hk); (try clear hi)))
  go_ret
  exact ⟨ze, zU HB.out⟩
mutual
def shape_Unrank.j0 : Nat → Int → Bool → List (List (S34)) → Int → Option (List Int × Bool)
 | 0, _, _, _, _ => none
 | k + 1, x1, x18, x443000, x443001 => if x18 = true then (some (([] : List Int), false)) else ((shape_steps.f k x443000 x443001).bind fun t444 => (if 1 ≤ (t444.length : Int) then ((some (t444.drop (1 : Int).toNat : List Int)).bind fun y447 => (shape_Unrank.l0 k x1 ([] : List Int) y447 (y447.length : Int) 0 x443000 x443001)) else (none)))
def shape_Unrank.l0 : Nat → Int → List Int → List Int → Int → Int → List (List (S34)) → Int → Option (List Int × Bool)
 | 0, _, _, _, _, _, _, _ => none
 | k + 1, x1, x6, x21, x22, x23, x443000, x443001 => if x23 < x22 then (if 0 ≤ x23 then (if x23 < (x21.length : Int) then (if x23 < (x443000.length : Int) then (if (rd x21 x23) = 0 then (none) else ((spans_Select.f k (rd_L4 x443000 x23) (wrap64 (Int.tdiv x1 (rd x21 x23)))).bind fun bt452 => (if x6.length < 140737488355328 then (shape_Unrank.l0 k (Int.tmod x1 (rd x21 x23)) (x6 ++ [(bt452.1) % 256]) x21 x22 (wrap64 (x23 + 1)) x443000 x443001) else (none)))) else (none)) else (none)) else (none)) else (some (x6, true))
end
def shape_Unrank.f (k : Nat) (l0_0 : List (List (S34))) (a0_1 : Int) (a1 : Int) : Option (List Int × Bool) := if a1 < 0 then (shape_Unrank.j0 k a1 true l0_0 a0_1) else ((shape_Count.f k l0_0 a0_1).bind fun t443 => (shape_Unrank.j0 k a1 (decide (a1 ≥ t443)) l0_0 a0_1))
theorem shape_Unrank.mono_l : ∀ k, (∀ y0 y1 y2 y3, LeO (shape_Unrank.j0 k y0 y1 y2 y3) (shape_Unrank.j0 (k + 1) y0 y1 y2 y3)) ∧ (∀ y0 y1 y2 y3 y4 y5 y6, LeO (shape_Unrank.l0 k y0 y1 y2 y3 y4 y5 y6) (shape_Unrank.l0 (k + 1) y0 y1 y2 y3 y4 y5 y6))
 | 0 => ⟨fun _ _ _ _ r h => by simp [shape_Unrank.j0] at h, fun _ _ _ _ _ _ _ r h => by simp [shape_Unrank.l0] at h⟩
 | k + 1 => by
  obtain ⟨ih0, ih1⟩ := shape_Unrank.mono_l k; refine ⟨?_, ?_⟩
  ·intro y0 y1 y2 y3; unfold shape_Unrank.j0; repeat' first
   | (with_reducible exact ih0 _ _ _ _)
   | (with_reducible exact ih1 _ _ _ _ _ _ _)
   | (with_reducible exact shape_Count.mono _ _ _)
   | (with_reducible exact shape_steps.mono _ _ _)
   | (with_reducible exact spans_Select.mono _ _ _)
   | (with_reducible exact LeO.refl _)
   | (with_reducible exact LeO.none _)
   | (with_reducible refine LeO.ite ?_ ?_)
   | (with_reducible refine LeO.bind ?_ (fun _ => ?_))
   | exact ih0 _ _ _ _
   | exact ih1 _ _ _ _ _ _ _
   | exact shape_Count.mono _ _ _
   | exact shape_steps.mono _ _ _
   | exact spans_Select.mono _ _ _
   | exact LeO.none _
   | refine LeO.ite ?_ ?_
   | refine LeO.bind ?_ (fun _ => ?_)
  ·intro y0 y1 y2 y3 y4 y5 y6; unfold shape_Unrank.l0; repeat' first
   | (with_reducible exact ih0 _ _ _ _)
   | (with_reducible exact ih1 _ _ _ _ _ _ _)
   | (with_reducible exact shape_Count.mono _ _ _)
   | (with_reducible exact shape_steps.mono _ _ _)
   | (with_reducible exact spans_Select.mono _ _ _)
   | (with_reducible exact LeO.refl _)
   | (with_reducible exact LeO.none _)
   | (with_reducible refine LeO.ite ?_ ?_)
   | (with_reducible refine LeO.bind ?_ (fun _ => ?_))
   | exact ih0 _ _ _ _
   | exact ih1 _ _ _ _ _ _ _
   | exact shape_Count.mono _ _ _
   | exact shape_steps.mono _ _ _
   | exact spans_Select.mono _ _ _
   | exact LeO.none _
   | refine LeO.ite ?_ ?_
   | refine LeO.bind ?_ (fun _ => ?_)
theorem shape_Unrank.mono : ∀ a0 a1 a2 k, LeO (shape_Unrank.f k a0 a1 a2) (shape_Unrank.f (k + 1) a0 a1 a2) := by
 intro a0 a1 a2 k; obtain ⟨ih0, ih1⟩ := shape_Unrank.mono_l k; unfold shape_Unrank.f; repeat' first
  | (with_reducible exact ih0 _ _ _ _)
  | (with_reducible exact ih1 _ _ _ _ _ _ _)
  | (with_reducible exact shape_Count.mono _ _ _)
  | (with_reducible exact shape_steps.mono _ _ _)
  | (with_reducible exact spans_Select.mono _ _ _)
  | (with_reducible exact LeO.refl _)
  | (with_reducible exact LeO.none _)
  | (with_reducible refine LeO.ite ?_ ?_)
  | (with_reducible refine LeO.bind ?_ (fun _ => ?_))
  | exact ih0 _ _ _ _
  | exact ih1 _ _ _ _ _ _ _
  | exact shape_Count.mono _ _ _
  | exact shape_steps.mono _ _ _
  | exact spans_Select.mono _ _ _
  | exact LeO.none _
  | refine LeO.ite ?_ ?_
  | refine LeO.bind ?_ (fun _ => ?_)
def shape_Unrank.T7 : Bool × List (List Nat × List Nat) := (true, [([], []), ([0], [0]), ([], []), ([1, 2], [1, 2]), ([3], [3]), ([], []), ([], []), ([5, 6], [5, 6]), ([4, 7], [4, 7]), ([8], [8]), ([9], [9]), ([9], [9]), ([10, 8, 0, 1, 2, 3, 4, 5, 6, 7, 8, 9, 10], [10]), ([11, 12, 0, 1, 2, 3, 4, 5, 6, 7, 8, 9, 10, 11, 12], [11])])
def shape_Unrank.B7 : List Nat := [0, 1, 0, 7, 15, 0, 0, 96, 255, 511, 1023, 1023, 2047, 8191]
theorem shape_Unrank.tab7 : rtab .any (opsOf Try.f35 7) = shape_Unrank.T7 := by kernel_rfl
theorem shape_Unrank.bits7 : waitsOk shape_Unrank.T7.2 shape_Unrank.B7 = true := by kernel_rfl
set_option maxHeartbeats 8000000 in
set_option maxRecDepth 100000 in
theorem shape_Unrank.calls (k : Nat) (A0_0 : Option Addr) (c0_0 : Nat) (l0_0 : List (List (S34))) (a0_1 : Int) (a1 : Int) (r1 : List Int) (r2 : Bool) (w : World) (hr0_0 : Kd.C (Kd.slice 34 k34) w A0_0 l0_0.length l0_0) (hc0_0 : l0_0.length ≤ c0_0) (h : shape_Unrank.f k l0_0 a0_1 a1 = some (r1, r2)) :
 Calls Try.prog 35 #[.agg #[.slice A0_0 l0_0.length c0_0, .int .i64 a0_1], .int .i64 a1] w fun e w' => ∃ v0_ : Value, e = .returned (.tuple #[v0_, .bool r2]) ∧ Kd.R (Kd.int .u8) 5 w' w.heap.size (fun _ => True) v0_ r1 ∧ Below w.heap.size w w' := by
 have hu47 := Try.underlying47; have HR0_0 := zk hr0_0; have HC0_0 := zk hc0_0; clear hr0_0 hc0_0; have HB := zk (Below.refl w.heap.size w); have H : (if a1 < 0 then (shape_Unrank.j0 k a1 true l0_0 a0_1) else ((shape_Count.f k l0_0 a0_1).bind fun t443 => (shape_Unrank.j0 k a1 (decide (a1 ≥ t443)) l0_0 a0_1))) = some (r1, r2) := h; clear h; have HC3 := zk H; clear H; go_enter Try.func35, Try.ntmps35
 go_upto_region 1 with (first | ((with_reducible refine gate_dst (N := 2) rfl ?_); refine box_event ?hg (N := 2) ?hd (cs := #[.slice A0_0 l0_0.length c0_0, .int .i64 a0_1]) (t := 47) ?hr ?_; (case hd => rfl); (case hg => rfl); (case hr => first | (go_simp; done) | (go_simp; rfl)); intro gb442 hg w4 hbox hb; have BK442 := zk (hbox); have GE442 := zk ((zg hg HB.out : w.heap.size ≤ gb442)); replace HB := zk (below_step (zU HB.out) hb);  clear hb hbox hg))
 (try simp only [Act.put, List.setIfInBounds_toArray, List.set_cons_zero, List.set_cons_succ])
 go_cut [18] (fun v18 wc => ∃ (kq : Nat) (x18_2 : Bool), v18 = .bool x18_2 ∧ Aside0 (shape_Unrank.j0 kq a1 x18_2 l0_0 a0_1 = some (r1, r2)) ∧ Aside0 (kq ≤ k) ∧ Aside0 (wc.heap[gb442]? = some (.cells #[(.slice A0_0 l0_0.length c0_0), .int .i64 a0_1] 47 (0, 0))) ∧ Aside0 (Below w.heap.size w wc))
 case first =>
  have H := HC3.out; clear HC3; by_cases c5 : a1 < 0
  ·rw [if_pos c5] at H; have c5b0 : decide (a1 < 0) = true := decide_eq_true c5; clear c5
   (first | rw [c5b0] | (simp only [i64_w, i32_w]; rw [c5b0]) | skip)
   have H' := zk H; clear H; go_wp2
   go_meet
   case rel => exact ⟨_, (true), zR, H', ⟨by first | omega | exact Nat.le_refl _⟩, ⟨zb BK442.out⟩, ⟨zU HB.out⟩⟩
  ·rw [if_neg c5] at H; have c5b0 : decide (a1 < 0) = false := decide_eq_false c5; clear c5
   (first | rw [c5b0] | (simp only [i64_w, i32_w]; rw [c5b0]) | skip)
   replace H := Option.bind_eq_some_iff.mp H; obtain ⟨t443, A60, H⟩ := H; replace H : (shape_Unrank.j0 k a1 (decide (a1 ≥ t443)) l0_0 a0_1) = some (r1, r2) := H; have A6 := zk A60; clear A60; have H' := zk H; clear H; have hcz7_0 : w4.cell? ⟨gb442, 0, none⟩ = some (.slice A0_0 l0_0.length c0_0) := zh BK442.out 0; have hcz7_1 : w4.cell? ⟨gb442, 1, none⟩ = some (.int .i64 a0_1) := zh BK442.out 1; have hfz7_0 := blk_frozen BK442.out 0; have hfz7_1 := blk_frozen BK442.out 1; go_wp2_with (first | (go_at_call 71; (with_reducible refine (shape_Count.calls k _ _ l0_0 a0_1 t443 _ ?side1 ?side2 A6.out).mono ?_); (case side1 => exact zc (Kd.C_below HR0_0.out HB.out)); (case side2 => exact HC0_0.out); rintro e w8 ⟨rfl, hb⟩; replace BK442 := zk (zbb BK442.out hb); replace HB := zk (below_step (zU HB.out) hb);  (try clear hb); (try clear hb2); (try clear hk); (try clear hi)))
   go_meet
   case rel => exact ⟨_, (decide (a1 ≥ t443)), zR, H', ⟨by first | omega | exact Nat.le_refl _⟩, ⟨zb BK442.out⟩, ⟨zU HB.out⟩⟩
 case rest =>
  clear HC3; (try clear p2); (try clear c3); (try clear c5); (try clear c5b0); (try clear hcz7_0); (try clear hcz7_1); (try clear hfz7_0); (try clear hfz7_1); obtain ⟨kq, x18_2, rfl, HA, HJ2, BK442, HB⟩ := hcut; cases kq with
  | zero => exact absurd HA.out (by simp [shape_Unrank.j0])
  | succ kj2 =>
   have H := HA.out; clear HA; simp only [shape_Unrank.j0] at H; by_cases c9 : x18_2 = true
   ·subst c9; have H1 : (some (([] : List Int), false)) = some (r1, r2) := by rw [if_pos rfl] at H; exact H
    clear H; have H := H1; clear H1; simp only [Option.some.injEq, Prod.mk.injEq] at H; obtain ⟨rfl, rfl⟩ := H; go_wp2
    go_ret2
    exact ⟨_, ze, by first | exact Kd.R_nil _ _ _ _ _ | exact Kd.N_nil _ _ _ _ _ | exact Kd.V_nil _ _ _ _ _ | exact Kd.Q_nil _ _ _ _ _ | exact Kd.S_nil _ _ _ _ _, zU HB.out⟩
   ·replace c9 := Bool.eq_false_iff.mpr c9; subst c9; have H1 : ((shape_steps.f kj2 l0_0 a0_1).bind fun t444 => (if 1 ≤ (t444.length : Int) then ((some (t444.drop (1 : Int).toNat : List Int)).bind fun y447 => (shape_Unrank.l0 kj2 a1 ([] : List Int) y447 (y447.length : Int) 0 l0_0 a0_1)) else (none))) = some (r1, r2) := by rw [if_neg (show ¬ (false = true) by decide)] at H; exact H
    clear H; have H := H1; clear H1; replace H := Option.bind_eq_some_iff.mp H; obtain ⟨t444, A100, H⟩ := H; replace H : (if 1 ≤ (t444.length : Int) then ((some (t444.drop (1 : Int).toNat : List Int)).bind fun y447 => (shape_Unrank.l0 kj2 a1 ([] : List Int) y447 (y447.length : Int) 0 l0_0 a0_1)) else (none)) = some (r1, r2) := H; have A10 := zk A100; clear A100; by_cases c11 : 1 ≤ (t444.length : Int)
    ·rw [if_pos c11] at H; have c11b0 := eq_true c11; have c11b1 : decide (1 ≤ (t444.length : Int)) = true := decide_eq_true c11; clear c11; obtain ⟨y447, hy447⟩ : ∃ y_ : List Int, y_ = (t444.drop (1 : Int).toNat) := ⟨_, rfl⟩
     replace H : (shape_Unrank.l0 kj2 a1 ([] : List Int) y447 (y447.length : Int) 0 l0_0 a0_1) = some (r1, r2) := by first | (rw [hy447]; with_reducible exact H) | (have H2_ := (Option.bind_some _ _).symm.trans H; rw [hy447]; with_reducible exact H2_) | (have H2_ := (Option.bind_some _ _).symm.trans H; with_reducible exact H2_) | with_reducible exact H | (rw [hy447]; exact H) | exact H
     have Ny447 := zk hy447; clear hy447; have H' := zk H; clear H; have hcz12_0 : wc.cell? ⟨gb442, 0, none⟩ = some (.slice A0_0 l0_0.length c0_0) := zh BK442.out 0; have hcz12_1 : wc.cell? ⟨gb442, 1, none⟩ = some (.int .i64 a0_1) := zh BK442.out 1; have hfz12_0 := blk_frozen BK442.out 0; have hfz12_1 := blk_frozen BK442.out 1; go_wp2_with (first | ((with_reducible refine gate_callee (f := 75) rfl ?_); refine goesL_ (some 20) rfl rfl Try.func75 zz rfl #[.agg #[.slice A0_0 l0_0.length c0_0, .int .i64 a0_1]] rfl zM ?_; (with_reducible refine (shape_steps.calls kj2 _ _ l0_0 a0_1 t444 _ ?side1 ?side2 A10.out).mono ?_); (case side1 => exact zc (Kd.C_below HR0_0.out HB.out)); (case side2 => exact HC0_0.out); rintro e w13 ⟨v445, rfl, ho0, hb⟩; refine ⟨_, rfl, ?_⟩; have HO446 := zk (Kd.R_lower ho0 (below_size (zU HB.out))); replace BK442 := zk (zbb BK442.out hb); replace HB := zk (below_step (zU HB.out) hb);  (try clear hb); (try clear hb2); (try clear hk); (try clear hi); (try clear ho0); obtain ⟨Ao14, co14, eo14⟩ := Kd.R_slice HO446.out; subst eo14; have q15 : (1 : Int) ≤ ((t444.length : Int) : Int) := zT; obtain ⟨i015, hi015, _, hsz15, _⟩ := info_parts info3; have hcut15 := cut_from (P := Try.prog) 53 3 .i64 Try.underlying53 hi015 1 hsz15 Ao14 t444.length co14 1 (by omega) q15; have hr15 := Kd.Q_drop (k := (1 : Int).toNat) (Kd.Q_of_R HO446.out) (by omega); obtain ⟨A15, hA15⟩ : ∃ A1, A1 = (if co14 = (1 : Int).toNat then Ao14 else (Ao14 : Option Addr).map (·.add ((1 : Int).toNat * 1))) := ⟨_, rfl⟩; obtain ⟨c15, hc15⟩ : ∃ c1, c1 = co14 - (1 : Int).toNat := ⟨_, rfl⟩; have hy15 : y447.length = t444.length - (1 : Int).toNat := (by rw [Ny447.out, List.length_drop]); rw [← Ny447.out] at hr15; rw [← hy15, ← hA15, ← hc15] at hcut15; replace hr15 : Kd.Q (Kd.int .i64) 3 w13 w.heap.size (fun _ => True) (.slice A15 y447.length c15) y447 := (by rw [hA15, hc15, hy15]; exact hr15); have HE15 : Aside0 ((Value.slice A15 y447.length c15).ownBlock = (.slice Ao14 t444.length co14 : Value).ownBlock) := ⟨by rw [hA15]; split <;> (cases (Ao14 : Option Addr) <;> rfl)⟩; clear hy15 hi015 hsz15 HO446 hA15 hc15; have HO449 := zk hr15; clear hr15; replace q15 := eq_true q15))
     go_loopg [1, 6, 23] kj2 (fun kq v1 v6 v23 w' => ∃ (x1_2 : Int) (x6_2 : List Int) (x23_2 : Int), v1 = .int .i64 x1_2 ∧ v23 = .int .i64 x23_2 ∧ Aside0 (shape_Unrank.l0 kq x1_2 x6_2 y447 (y447.length : Int) x23_2 l0_0 a0_1 = some (r1, r2)) ∧ Aside0 (kq ≤ kj2) ∧ Aside0 (Kd.R (Kd.int .u8) 5 w' w.heap.size (fun _ => True) v6 x6_2) ∧ Aside0 (Kd.Q (Kd.int .i64) 3 w' w.heap.size (fun _ => True) (.slice A15 y447.length c15) y447) ∧ Aside0 (w'.heap[gb442]? = some (.cells #[(.slice A0_0 l0_0.length c0_0), .int .i64 a0_1] 47 (0, 0))) ∧ Aside0 (Below w.heap.size w w'))
     case atStart => exact ⟨(a1), (([] : List Int)), (0), zR, zR, H', ⟨Nat.le_refl _⟩, ⟨by first | exact Kd.R_nil _ _ _ _ _ | exact Kd.N_nil _ _ _ _ _ | exact Kd.V_nil _ _ _ _ _ | exact Kd.Q_nil _ _ _ _ _ | exact Kd.S_nil _ _ _ _ _⟩, ⟨by (with_reducible repeat (first | apply Kd.Q_alloc | apply Kd.Q_drewN | apply Kd.Q_drew)); exact HO449.out⟩, ⟨zb BK442.out⟩, ⟨zU HB.out⟩⟩
     case round =>
      clear H'; (try clear c1); (try clear q1); (try clear p2); (try clear c3); (try clear c5); (try clear c5b0); (try clear c7); (try clear c9); (try clear c11); (try clear c11b0); (try clear c11b1); (try clear c15); (try clear q15); (try clear hcz12_0); (try clear hcz12_1); (try clear hcz7_0); (try clear hcz7_1); (try clear hfz12_0); (try clear hfz12_1); (try clear hfz7_0); (try clear hfz7_1); (try clear p2); (try clear q15); obtain ⟨x1_2, x6_2, x23_2, rfl, rfl, HA, HK2, HO_6, HO_21, BK442, HB⟩ := hrel
      cases gk with
      | zero => exact absurd HA.out (by simp [shape_Unrank.l0])
      | succ k2 =>
       have H := HA.out; clear HA; simp only [shape_Unrank.l0] at H; by_cases c16 : x23_2 < (y447.length : Int)
       ·rw [if_pos c16] at H; have c16b0 : decide (x23_2 < (y447.length : Int)) = true := decide_eq_true c16; clear c16; by_cases c17 : 0 ≤ x23_2
        ·rw [if_pos c17] at H; have c17b0 : decide (0 ≤ x23_2) = true := decide_eq_true c17; clear c17; by_cases c18 : x23_2 < (y447.length : Int)
         ·rw [if_pos c18] at H; have c18b0 : decide (x23_2 < (y447.length : Int)) = true := decide_eq_true c18; clear c18; by_cases c19 : x23_2 < (l0_0.length : Int)
          ·rw [if_pos c19] at H; have c19b0 : decide (x23_2 < (l0_0.length : Int)) = true := decide_eq_true c19; clear c19; by_cases c20 : (rd y447 x23_2) = 0
           ·rw [if_pos c20] at H; exact absurd H (by simp)
           ·rw [if_neg c20] at H; have c20b0 : ((rd y447 x23_2) == 0) = false := beq_eq_false_iff_ne.mpr c20; have c20b1 : ((rd y447 x23_2) != 0) = true := bne_iff_ne.mpr c20; replace H := Option.bind_eq_some_iff.mp H; obtain ⟨⟨t452, t453⟩, A210, H⟩ := H; replace H : (if x6_2.length < 140737488355328 then (shape_Unrank.l0 k2 (Int.tmod x1_2 (rd y447 x23_2)) (x6_2 ++ [(t452) % 256]) y447 (y447.length : Int) (wrap64 (x23_2 + 1)) l0_0 a0_1) else (none)) = some (r1, r2) := H; have A21 := zk A210; clear A210; by_cases c22 : x6_2.length < 140737488355328
            ·rw [if_pos c22] at H; have LMc22 := zk c22; clear c22; obtain ⟨y454, hy454⟩ : ∃ y_ : List Int, y_ = (x6_2 ++ [(t452) % 256]) := ⟨_, rfl⟩
             replace H : (shape_Unrank.l0 k2 (Int.tmod x1_2 (rd y447 x23_2)) y454 y447 (y447.length : Int) (wrap64 (x23_2 + 1)) l0_0 a0_1) = some (r1, r2) := by first | (rw [hy454]; with_reducible exact H) | (have H2_ := (Option.bind_some _ _).symm.trans H; rw [hy454]; with_reducible exact H2_) | (have H2_ := (Option.bind_some _ _).symm.trans H; with_reducible exact H2_) | with_reducible exact H | (rw [hy454]; exact H) | exact H
             have Ny454 := zk hy454; clear hy454; have H' := zk H; clear H; have p450 : 0 ≤ (x23_2 : Int) := zT; have q450 : x23_2 < (y447.length : Int) := zT; obtain ⟨ad450, e450, hx450_0⟩ := Kd.at_int (Kd.Q_reads' HO_21.out).2.2 x23_2 p450 q450; cases e450; replace p450 := eq_true p450; replace q450 := eq_true q450; try go_wp2
             have n0_ := zk (Kd.R_drew HO_6.out); have n1_ := zk (Kd.Q_drew HO_21.out); have n2_ := zk (blk_drew BK442.out); have n3_ := zk (below_drew1 HB.out); clear HO_6; clear HO_21; clear BK442; clear HB; have HO_6 := n0_; have HO_21 := n1_; have BK442 := n2_; have HB := n3_; clear n0_ n1_ n2_ n3_; have p451 : 0 ≤ (x23_2 : Int) := zT; have q451 : x23_2 < (l0_0.length : Int) := zT; obtain ⟨ad451, A451_0, c451_0, e451, hx451_0, hl451_0, hi451_0⟩ := at_L4 HR0_0.out x23_2 p451 q451; have hw451_0 := hx451_0; cases e451; replace hx451_0 := zcl HB.out hx451_0; have HR451_0 := zk hi451_0; have HC451_0 := zk hl451_0; clear hi451_0 hl451_0; replace p451 := eq_true p451; replace q451 := eq_true q451; refine start_ (n := 14) (S := fun w' => w'.cell? ⟨gb442, 0, none⟩ = some (.slice (some ad451) l0_0.length c0_0) ∧ w'.cell? ⟨gb442, 1, none⟩ = some (.int .i64 a0_1) ∧ w'.cell? (ad451.add (x23_2).toNat) = some (.slice A451_0 (rd_L4 l0_0 x23_2).length c451_0)) (ds := []) #[false, false, false, false, false, false, false, false, false, false, false, false, false, false] zz rfl rfl ⟨(blk_cell BK442.out 0).trans rfl, (blk_cell BK442.out 1).trans rfl, (zcl HB.out hw451_0)⟩ (fun hHeld => ?_); refine with_tabW shape_Unrank.tab7 shape_Unrank.bits7 (fun HT_ HW_ => ?_); generalize wr.drew = w23 at HO_6 HO_21 BK442 HB HR451_0 hx451_0 hHeld ⊢; refine zp 0 (some 29) (v := ?_) (a' := ?_) (bz 14 1) rfl rfl HT_.out zz zQ ?_ ?_ ?_; rotate_left
             ·intro w'; go_simp; with_reducible rfl
             rotate_left
             ·simp only [Act.put, zv, i64_w, i32_w]; rfl
             refine zp 2 (some 31) (v := ?_) (a' := ?_) (bz 14 5) rfl rfl HT_.out zz zQ ?_ ?_ ?_; rotate_left
             ·intro w'; go_simp; with_reducible rfl
             rotate_left
             ·simp only [Act.put, zv, i64_w, i32_w]; rfl
             refine zp 5 (some 34) (v := ?_) (a' := ?_) (bz 14 37) rfl rfl HT_.out zz zQ ?_ ?_ ?_; rotate_left
             ·intro w'; go_simp; with_reducible rfl
             rotate_left
             ·simp only [Act.put, zv, i64_w, i32_w]; rfl
             refine zp 6 (some 35) (v := ?_) (a' := ?_) (bz 14 101) rfl rfl HT_.out zz zQ ?_ ?_ ?_; rotate_left
             ·intro w'; go_simp; with_reducible rfl
             rotate_left
             ·simp only [Act.put, zv, i64_w, i32_w]; rfl
             refine zp 7 (some 36) (v := ?_) (a' := ?_) (bz 14 229) rfl rfl HT_.out zz zQ ?_ ?_ ?_; rotate_left
             ·intro w'; go_simp; with_reducible rfl
             rotate_left
             ·simp only [Act.put, zv, i64_w, i32_w]; rfl
             refine take_ (i := 1) (N := some 30) (v := ?_) (a' := ?_) (bz 14 231) rfl rfl (take_ofW HT_.out HW_.out zz) zQ (Or.inl ⟨by rfl, ?_⟩) hHeld ?_ ?_; rotate_left
             ·rintro w' ⟨s0, s1, s2⟩; go_simp; with_reducible rfl
             rotate_left
             ·simp only [Act.put, zv, i64_w, i32_w]; rfl
             refine zp 3 (some 32) (v := ?_) (a' := ?_) (bz 14 239) rfl rfl HT_.out zz zQ ?_ ?_ ?_; rotate_left
             ·intro w'; go_simp; with_reducible rfl
             rotate_left
             ·simp only [Act.put, zv, i64_w, i32_w]; rfl
             refine take_ (i := 4) (N := some 33) (v := ?_) (a' := ?_) (bz 14 255) rfl rfl (take_ofW HT_.out HW_.out zz) zQ (Or.inl ⟨by rfl, ?_⟩) hHeld ?_ ?_; rotate_left
             ·rintro w' ⟨s0, s1, s2⟩; go_simp; with_reducible rfl
             rotate_left
             ·simp only [Act.put, zv, i64_w, i32_w]; rfl
             refine one_ (i := 8) (N := some 37) (bz 14 511) rfl rfl (one_of HT_.out zz) (by decide) (fun K hK => ?_); refine goes_ Try.func57 zz rfl #[.slice A451_0 (rd_L4 l0_0 x23_2).length c451_0, .int .i64 (wrap64 (Int.tdiv x1_2 (rd y447 x23_2)))] (by rfl) rfl rfl zM ?_; with_reducible refine (spans_Select.calls k2 _ _ (rd_L4 l0_0 x23_2) (wrap64 (Int.tdiv x1_2 (rd y447 x23_2))) t452 t453 _ ?side1 ?side2 A21.out).mono ?_; (case side1 => exact zc (Kd.C_below HR451_0.out HB.out))
             (case side2 => exact HC451_0.out)
             rintro e w24 ⟨rfl, hb⟩; refine ⟨_, rfl, ?_⟩; have n0_ := zk (Kd.R_below (zr HO_6.out) hb); have n1_ := zk (Kd.Q_below (by (with_reducible repeat (first | apply Kd.Q_alloc | apply Kd.Q_drewN | apply Kd.Q_drew)); exact HO_21.out) hb); have n2_ := zk (zbb BK442.out hb); have n3_ := zk (below_step (zU HB.out) hb); clear HO_6; clear HO_21; clear BK442; clear HB; have HO_6 := n0_; have HO_21 := n1_; have BK442 := n2_; have HB := n3_; clear n0_ n1_ n2_ n3_; (try clear hb); (try clear hb2); (try clear hk); (try clear hi); refine hK.out _ _ ⟨(blk_cell BK442.out 0).trans rfl, (blk_cell BK442.out 1).trans rfl, (zcl HB.out hw451_0)⟩ (fun hHeld => ?_); clear hK K; refine norm_ (a' := ?_) ?_ ?_; rotate_left
             ·show Act.put _ (some 37) _ = _; simp only [Act.put, zv, i64_w, i32_w]; rfl
             refine zp 9 (some 28) (v := ?_) (a' := ?_) (bz 14 1023) rfl rfl HT_.out zz zQ ?_ ?_ ?_; rotate_left
             ·intro w'; go_simp; with_reducible rfl
             rotate_left
             ·simp only [Act.put, zv, i64_w, i32_w]; rfl
             refine zp 10 (some 38) (v := ?_) (a' := ?_) (bz 14 2047) rfl rfl HT_.out zz zQ ?_ ?_ ?_; rotate_left
             ·intro w'; go_simp; with_reducible rfl
             rotate_left
             ·simp only [Act.put, zv, i64_w, i32_w]; rfl
             refine zp 11 (some 39) (v := ?_) (a' := ?_) (bz 14 4095) rfl rfl HT_.out zz zQ ?_ ?_ ?_; rotate_left
             ·intro w'; go_simp; with_reducible rfl
             rotate_left
             ·simp only [Act.put, zv, i64_w, i32_w]; rfl
             refine zp 12 (some 9) (v := ?_) (a' := ?_) (bz 14 8191) rfl rfl HT_.out zz zQ ?_ ?_ ?_; rotate_left
             ·intro w'; go_simp; with_reducible rfl
             rotate_left
             ·simp only [Act.put, zv, i64_w, i32_w]; rfl
             refine zp 13 (some 10) (v := ?_) (a' := ?_) (bz 14 16383) rfl rfl HT_.out zz zQ ?_ ?_ ?_; rotate_left
             ·intro w'; go_simp; with_reducible rfl
             rotate_left
             ·simp only [Act.put, zv, i64_w, i32_w]; rfl
             refine done_ (done_of HT_.out zz) ?_; try go_wp2_with (first | ((with_reducible refine gate_builtin (b := .append) (xs := #[.tmp 40, .tmp 43]) rfl ?_); at_builtin; refine Kd.R_append (Kd.int .u8) (w0 := w) w.heap.size rfl (.tmp 40) (.tmp 43) 59 5 (.int .u8 0) 1 rfl Try.underlying59 info5 rfl (by decide) (by omega) u6 x6_2 ((t452) % 256) [.int .u8 ((t452) % 256)] (fun _ => True) (fun _ => False) rfl rfl ?aP (fun _ hk => hk.elim) ?aF ?aO ?aB ?aS ?aL ?_; (case aP => exact rfl); (case aB => exact (zU HB.out)); (case aF => exact (fun _ _ => trivial)); (case aO => exact (zr HO_6.out)); (case aS => exact (below_size (zU HB.out))); (case aL => have := LMc22.out; omega); intro v455 w25 ho hb hg hat; rw [← Ny454.out] at ho; have n0_ := zk (Kd.Q_over' (by (with_reducible repeat (first | apply Kd.Q_alloc | apply Kd.Q_drewN | apply Kd.Q_drew)); exact HO_21.out) (Kd.R_typed (zr HO_6.out)) (by decide) hg); have n1_ := zk (blk_grown (g := gb442) (o := .cells #[.slice (some ad451) l0_0.length c0_0, .int .i64 a0_1] 47 (0, 0)) (zb BK442.out) hg (Kd.R_ne HO_6.out BK442.out (by decide))); have n2_ := zk (hb); have n3_ := zk (ho); clear HO_21; clear BK442; clear HB; clear HO_6; have HO_21 := n0_; have BK442 := n1_; have HB := n2_; have HO456 := n3_; clear n0_ n1_ n2_ n3_; clear ho hb hg hat))
             go_roundg k2
             case measure => have := HJ2.out; have := HK2.out; omega
             case rel => exact ⟨(Int.tmod x1_2 (rd y447 x23_2)), (y454), (wrap64 (x23_2 + 1)), zR, zR, H', ⟨by have := HJ2.out; have := HK2.out; omega⟩, ⟨by (with_reducible repeat (first | apply zA | apply zB | apply zC)); exact HO456.out⟩, ⟨by (with_reducible repeat (first | apply Kd.Q_alloc | apply Kd.Q_drewN | apply Kd.Q_drew)); exact HO_21.out⟩, ⟨zb BK442.out⟩, ⟨zU HB.out⟩⟩
            ·rw [if_neg c22] at H; exact absurd H (by simp)
          ·rw [if_neg c19] at H; exact absurd H (by simp)
         ·rw [if_neg c18] at H; exact absurd H (by simp)
        ·rw [if_neg c17] at H; exact absurd H (by simp)
       ·rw [if_neg c16] at H; have c16b0 : decide (x23_2 < (y447.length : Int)) = false := decide_eq_false c16; clear c16; simp only [Option.some.injEq, Prod.mk.injEq] at H; obtain ⟨rfl, rfl⟩ := H; go_wp2
        go_ret2
        exact ⟨_, ze, by (with_reducible repeat (first | apply zA | apply zB | apply zC)); exact HO_6.out, zU HB.out⟩
    ·rw [if_neg c11] at H; exact absurd H (by simp)
end Go.Proofs.Ytoljcfocgaonpaa.I
