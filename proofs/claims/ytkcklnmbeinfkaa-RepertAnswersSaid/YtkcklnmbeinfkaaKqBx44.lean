/- Words and walks of this claim, of the text Bx44. -/
import Derived.Test.YtkcklnmbeinfkaaKqQW0
import Derived.Test.YtkcklnmbeinfkaaKqBx0
import Derived.Test.YtkcklnmbeinfkaaKqBx26
import Derived.Test.YtkcklnmbeinfkaaKqBx43
namespace Go.Proofs.Ytkcklnmbeinfkaa.B
open Go.RowKit Go.Proofs.YtkcklnmbeinfkaaW.PrintWords Go.Proofs.YtkcklnmbeinfkaaW.PrintLast Go.Proofs.YtkcklnmbeinfkaaW.PrintMore
attribute [local go_sem] max2_int min2_int max_two min_two max_three min_three max_four min_four
set_option linter.unusedVariables false
set_option linter.unusedSimpArgs false
def leadtrailref25_Of.l0 : Nat → List (S102) → Int → List (S109) → Option ((List (S102)) × Int)
 | 0, _, _, _ => none
 | k + 1, x4, x6, x11 => if x6 < (x11.length : Int) then (if (x4.length : Int) > 0 then (if 0 ≤ (wrap64 ((x4.length : Int) - 1)) then (if (wrap64 ((x4.length : Int) - 1)) < (x4.length : Int) then (if 0 ≤ x6 then (if (wrap64 (((rd_T102 x4 (wrap64 ((x4.length : Int) - 1))).f1) + 1)) = ((rd_T109 x11 x6).f0) then (leadtrailref25_Of.l0 k (x4.set ((wrap64 ((x4.length : Int) - 1)) : Int).toNat (⟨(rd_T102 x4 (wrap64 ((x4.length : Int) - 1))).f0, (rd_T109 x11 x6).f1⟩ : S102)) (wrap64 (x6 + 1)) x11) else (if x4.length < 8796093022208 then (leadtrailref25_Of.l0 k (x4 ++ [(⟨(rd_T109 x11 x6).f0, (rd_T109 x11 x6).f1⟩ : S102)]) (wrap64 (x6 + 1)) x11) else (none))) else (none)) else (none)) else (none)) else (if 0 ≤ x6 then (if x4.length < 8796093022208 then (leadtrailref25_Of.l0 k (x4 ++ [(⟨(rd_T109 x11 x6).f0, (rd_T109 x11 x6).f1⟩ : S102)]) (wrap64 (x6 + 1)) x11) else (none)) else (none))) else (some (x4, 0))
def leadtrailref25_Of.f (k : Nat) (l0_0 : List (S50)) : Option ((List (S102)) × Int) := (leadtrailref08_Valid.f k l0_0).bind fun t1181 => (if t1181 = true then ((leadtrailref15_Rows.f k l0_0).bind fun t1182 => (leadtrailref25_Of.l0 k ([] : List (S102)) 0 t1182)) else (some (([] : List (S102)), 84)))
def leadtrailref25_Of.T8 : Bool × List (List Nat × List Nat) := (true, [([], []), ([0], [0]), ([1], [1]), ([2], [2]), ([3], [3]), ([3], [3]), ([5, 3], [3, 5]), ([6, 3], [3, 6]), ([4, 7, 3], [3, 4, 7]), ([8, 3], [3, 8]), ([9, 3], [3, 9]), ([10, 3], [3, 10]), ([3], [3]), ([3], [3]), ([12, 13, 3], [3, 12, 13]), ([14, 3], [3, 14]), ([15, 3], [3, 15]), ([11, 16, 3], [3, 11, 16]), ([3, 17], [3, 17])])
def leadtrailref25_Of.B8 : List Nat := [0, 1, 3, 7, 15, 15, 47, 111, 255, 511, 1023, 2047, 15, 15, 12303, 28687, 61455, 131071, 262143]
theorem leadtrailref25_Of.tab8 : rtab .any (opsOf Try.f25 8) = leadtrailref25_Of.T8 := by kernel_rfl
theorem leadtrailref25_Of.bits8 : waitsOk leadtrailref25_Of.T8.2 leadtrailref25_Of.B8 = true := by kernel_rfl
def leadtrailref25_Of.T10 : Bool × List (List Nat × List Nat) := (true, [([], []), ([], []), ([], []), ([1, 2], [1, 2]), ([3], [3]), ([4], [4]), ([], []), ([], []), ([6, 7], [6, 7]), ([8], [8]), ([9], [9]), ([5, 10], [5, 10]), ([11], [11]), ([0, 12], [0, 12]), ([13, 13, 0, 1, 2, 3, 4, 5, 6, 7, 8, 9, 10, 11, 12, 13], [0, 13])])
def leadtrailref25_Of.B10 : List Nat := [0, 0, 0, 6, 14, 30, 0, 0, 192, 448, 960, 2046, 4094, 8191, 16383]
theorem leadtrailref25_Of.tab10 : rtab .any (opsOf Try.f25 10) = leadtrailref25_Of.T10 := by kernel_rfl
theorem leadtrailref25_Of.bits10 : waitsOk leadtrailref25_Of.T10.2 leadtrailref25_Of.B10 = true := by kernel_rfl
set_option maxHeartbeats 8000000 in
set_option maxRecDepth 100000 in
theorem leadtrailref25_Of.calls (k : Nat) (A0_0 : Option Addr) (c0_0 : Nat) (l0_0 : List (S50)) (r1 : List (S102)) (r2 : Int) (w : World) (hr0_0 : Kd.C k50 w A0_0 l0_0.length l0_0) (hc0_0 : l0_0.length ≤ c0_0) (h : leadtrailref25_Of.f k l0_0 = some (r1, r2)) :
 Calls Try.prog 25 #[.agg #[.slice A0_0 l0_0.length c0_0]] w fun e w' => ∃ v0_ : Value, e = .returned (.tuple #[v0_, .int .i64 r2]) ∧ Kd.R k102 102 w' w.heap.size (fun _ => True) v0_ r1 ∧ Below w.heap.size w w' := by
 have hu24 := Try.underlying24; have hu102 := Try.underlying102; have HR0_0 := zk hr0_0; have HC0_0 := zk hc0_0; clear hr0_0 hc0_0; have HB := zk (Below.refl w.heap.size w); have H : ((leadtrailref08_Valid.f k l0_0).bind fun t1181 => (if t1181 = true then ((leadtrailref15_Rows.f k l0_0).bind fun t1182 => (leadtrailref25_Of.l0 k ([] : List (S102)) 0 t1182)) else (some (([] : List (S102)), 84)))) = some (r1, r2) := h; clear h; replace H := Option.bind_eq_some_iff.mp H; obtain ⟨t1181, A20, H⟩ := H; replace H : (if t1181 = true then ((leadtrailref15_Rows.f k l0_0).bind fun t1182 => (leadtrailref25_Of.l0 k ([] : List (S102)) 0 t1182)) else (some (([] : List (S102)), 84))) = some (r1, r2) := H; have A2 := zk A20; clear A20; by_cases c3 : t1181 = true
 ·subst c3; have H1 : ((leadtrailref15_Rows.f k l0_0).bind fun t1182 => (leadtrailref25_Of.l0 k ([] : List (S102)) 0 t1182)) = some (r1, r2) := by rw [if_pos rfl] at H; exact H
  clear H; have H := H1; clear H1; replace H := Option.bind_eq_some_iff.mp H; obtain ⟨t1182, A40, H⟩ := H; replace H : (leadtrailref25_Of.l0 k ([] : List (S102)) 0 t1182) = some (r1, r2) := H; have A4 := zk A40; clear A40; have H' := zk H; clear H; go_enter Try.func25, Try.ntmps25
  go_wp2_with (first | ((with_reducible refine gate_dst (N := 1) rfl ?_); (try (refine gate_guard (by rfl) ?_; dsimp only)); refine box_event ?hg (N := 1) ?hd (cs := #[.slice A0_0 l0_0.length c0_0]) (t := 24) ?hr ?_; (case hd => rfl); (case hg => rfl); (case hr => first | (go_simp; done) | (go_simp; rfl)); intro gb1180 hg w5 hbox hb; have BK1180 := zk (hbox); have GE1180 := zk ((zg hg HB.out : w.heap.size ≤ gb1180)); replace HB := zk (below_step (zU HB.out) hb);  clear hb hbox hg; have hcz6_0 : w5.cell? ⟨gb1180, 0, none⟩ = some (.slice A0_0 l0_0.length c0_0) := zh BK1180.out 0; have hfz6_0 := blk_frozen BK1180.out 0) | ((with_reducible refine gate_callee (f := 79) rfl ?_); refine goesL_ (some 8) rfl rfl Try.func79 zz rfl #[.agg #[.slice A0_0 l0_0.length c0_0]] rfl zM ?_; (with_reducible refine (leadtrailref08_Valid.calls k _ _ l0_0 true _ ?side1 ?side2 A2.out).mono ?_); (case side1 => exact zc (Kd.C_below HR0_0.out HB.out)); (case side2 => exact HC0_0.out); rintro e w7 ⟨rfl, hb⟩; refine ⟨_, rfl, ?_⟩; replace BK1180 := zk (zbb BK1180.out hb); replace HB := zk (below_step (zU HB.out) hb);  (try clear hb); (try clear hb2); (try clear hk); (try clear hi); have hcz8_0 : w7.cell? ⟨gb1180, 0, none⟩ = some (.slice A0_0 l0_0.length c0_0) := zh BK1180.out 0; have hfz8_0 := blk_frozen BK1180.out 0) | ((with_reducible refine gate_callee (f := 80) rfl ?_); refine goesL_ (some 11) rfl rfl Try.func80 zz rfl #[.agg #[.slice A0_0 l0_0.length c0_0]] rfl zM ?_; (with_reducible refine (leadtrailref15_Rows.calls k _ _ l0_0 t1182 _ ?side1 ?side2 A4.out).mono ?_); (case side1 => exact zc (Kd.C_below HR0_0.out HB.out)); (case side2 => exact HC0_0.out); rintro e w9 ⟨v1183, rfl, ho0, hb⟩; refine ⟨_, rfl, ?_⟩; have HO1184 := zk (Kd.R_lower ho0 (below_size (zU HB.out))); replace BK1180 := zk (zbb BK1180.out hb); replace HB := zk (below_step (zU HB.out) hb);  (try clear hb); (try clear hb2); (try clear hk); (try clear hi); (try clear ho0)))
  go_loopg [4, 6] k (fun kq v4 v6 w' => ∃ (x4_1 : List (S102)) (x6_1 : Int), v6 = .int .i64 x6_1 ∧ Aside0 (leadtrailref25_Of.l0 kq x4_1 x6_1 t1182 = some (r1, r2)) ∧ Aside0 (kq ≤ k) ∧ Aside0 (Kd.R k102 102 w' w.heap.size (fun _ => True) v4 x4_1) ∧ Aside0 (Kd.R k109 109 w' w.heap.size (fun _ => True) v1183 t1182) ∧ Aside0 (w'.heap[gb1180]? = some (.cells #[(.slice A0_0 l0_0.length c0_0)] 24 (0, 0))) ∧ Aside0 (Below w.heap.size w w'))
  case atStart => exact ⟨(([] : List (S102))), (0), zR, H', ⟨Nat.le_refl _⟩, ⟨by first | exact Kd.R_nil _ _ _ _ _ | exact Kd.N_nil _ _ _ _ _ | exact Kd.V_nil _ _ _ _ _ | exact Kd.Q_nil _ _ _ _ _ | exact Kd.S_nil _ _ _ _ _⟩, ⟨by (with_reducible repeat (first | apply zA | apply zB | apply zC)); exact HO1184.out⟩, ⟨zb BK1180.out⟩, ⟨zU HB.out⟩⟩
  case round =>
   clear H'; (try clear c2); (try clear p2); (try clear c3); (try clear c7); (try clear c8); (try clear hcz6_0); (try clear hcz8_0); (try clear hfz6_0); (try clear hfz8_0); obtain ⟨x4_1, x6_1, rfl, HA, HK1, HO_4, HO_11, BK1180, HB⟩ := hrel
   cases gk with
   | zero => exact absurd HA.out (by simp [leadtrailref25_Of.l0])
   | succ k1 =>
    have H := HA.out; clear HA; simp only [leadtrailref25_Of.l0] at H; by_cases c10 : x6_1 < (t1182.length : Int)
    ·rw [if_pos c10] at H; have c10b0 : decide (x6_1 < (t1182.length : Int)) = true := decide_eq_true c10; clear c10; by_cases c11 : (x4_1.length : Int) > 0
     ·rw [if_pos c11] at H; have c11b0 : decide (0 < (x4_1.length : Int)) = true := decide_eq_true c11; have c11b1 : decide (0 < x4_1.length) = true := decide_eq_true (by omega); clear c11; obtain ⟨ji12, hji12⟩ : ∃ j_ : Int, (wrap64 ((x4_1.length : Int) - 1)) = j_ := ⟨_, rfl⟩
      replace H : (if 0 ≤ (ji12) then (if (ji12) < (x4_1.length : Int) then (if 0 ≤ x6_1 then (if (wrap64 (((rd_T102 x4_1 (ji12)).f1) + 1)) = ((rd_T109 t1182 x6_1).f0) then (leadtrailref25_Of.l0 k1 (x4_1.set ((ji12) : Int).toNat (⟨(rd_T102 x4_1 (ji12)).f0, (rd_T109 t1182 x6_1).f1⟩ : S102)) (wrap64 (x6_1 + 1)) t1182) else (if x4_1.length < 8796093022208 then (leadtrailref25_Of.l0 k1 (x4_1 ++ [(⟨(rd_T109 t1182 x6_1).f0, (rd_T109 t1182 x6_1).f1⟩ : S102)]) (wrap64 (x6_1 + 1)) t1182) else (none))) else (none)) else (none)) else (none)) = some (r1, r2) := by first | (rw [hji12] at H; exact H) | (simp only [hji12] at H ⊢; exact H)
      have hji12w : (IntKind.i64.wrap ((x4_1.length : Int) - 1)) = ji12 := (i64_w _).trans hji12; by_cases c13 : 0 ≤ (ji12)
      ·rw [if_pos c13] at H; have c13b0 : decide (0 ≤ (ji12)) = true := decide_eq_true c13; clear c13; by_cases c14 : (ji12) < (x4_1.length : Int)
       ·rw [if_pos c14] at H; have c14b0 : decide ((ji12) < (x4_1.length : Int)) = true := decide_eq_true c14; clear c14; by_cases c15 : 0 ≤ x6_1
        ·rw [if_pos c15] at H; have c15b0 : decide (0 ≤ x6_1) = true := decide_eq_true c15; clear c15; by_cases c16 : (wrap64 (((rd_T102 x4_1 (ji12)).f1) + 1)) = ((rd_T109 t1182 x6_1).f0)
         ·rw [if_pos c16] at H; have c16b0 : ((wrap64 (((rd_T102 x4_1 (ji12)).f1) + 1)) == ((rd_T109 t1182 x6_1).f0)) = true := beq_iff_eq.mpr c16; have c16b1 : ((wrap64 (((rd_T102 x4_1 (ji12)).f1) + 1)) != ((rd_T109 t1182 x6_1).f0)) = false := bne_eq_false_iff_eq.mpr c16; clear c16; obtain ⟨y1188, hy1188⟩ : ∃ y_ : List (S102), y_ = (x4_1.set ((ji12) : Int).toNat (⟨(rd_T102 x4_1 (ji12)).f0, (rd_T109 t1182 x6_1).f1⟩ : S102)) := ⟨_, rfl⟩
          replace H : (leadtrailref25_Of.l0 k1 y1188 (wrap64 (x6_1 + 1)) t1182) = some (r1, r2) := by first | (rw [hy1188]; with_reducible exact H) | (have H2_ := (Option.bind_some _ _).symm.trans H; rw [hy1188]; with_reducible exact H2_) | (have H2_ := (Option.bind_some _ _).symm.trans H; with_reducible exact H2_) | with_reducible exact H | (rw [hy1188]; exact H) | exact H
          have Ny1188 := zk hy1188; clear hy1188; have H' := zk H; clear H; obtain ⟨Ao18, co18, eo18⟩ := Kd.R_slice HO_11.out; subst eo18; try go_wp2
          have n0_ := zk (Kd.R_drew HO_4.out); have n1_ := zk (Kd.R_drew HO_11.out); have n2_ := zk (blk_drew BK1180.out); have n3_ := zk (below_drew1 HB.out); clear HO_4; clear HO_11; clear BK1180; clear HB; have HO_4 := n0_; have HO_11 := n1_; have BK1180 := n2_; have HB := n3_; clear n0_ n1_ n2_ n3_; obtain ⟨Ao20, co20, eo20⟩ := Kd.R_slice HO_4.out
          (first | subst eo20 | (injection eo20 with f1_ f2_ f3_; have f4_ := f1_.symm; have f5_ := f3_.symm; clear f1_ f2_ f3_; subst f4_; subst f5_))
          have p1185 : 0 ≤ ((ji12) : Int) := zT; have q1185 : (ji12) < (x4_1.length : Int) := zT; obtain ⟨ad1185, e1185, hx1185_0, hx1185_1⟩ := at_T102 (Kd.R_reads' HO_4.out).2.2 (ji12) p1185 q1185; cases e1185; replace p1185 := eq_true p1185; replace q1185 := eq_true q1185; have p1186 : 0 ≤ (x6_1 : Int) := zT; have q1186 : x6_1 < (t1182.length : Int) := zT; obtain ⟨ad1186, e1186, hx1186_0, hx1186_1, hx1186_2⟩ := at_T109 (Kd.R_reads' HO_11.out).2.2 x6_1 p1186 q1186; cases e1186; replace p1186 := eq_true p1186; replace q1186 := eq_true q1186; refine start_ (n := 19) (S := fun w' => w'.cell? (ad1185.add (((ji12)).toNat * 2)) = some (.int .i64 ((rd_T102 x4_1 (ji12)).f0)) ∧ w'.cell? ⟨(ad1185.add (((ji12)).toNat * 2)).block, (ad1185.add (((ji12)).toNat * 2)).off + 1, none⟩ = some (.int .i64 ((rd_T102 x4_1 (ji12)).f1)) ∧ w'.cell? (ad1186.add ((x6_1).toNat * 3)) = some (.int .i64 ((rd_T109 t1182 x6_1).f0)) ∧ w'.cell? ⟨(ad1186.add ((x6_1).toNat * 3)).block, (ad1186.add ((x6_1).toNat * 3)).off + 1, none⟩ = some (.int .i64 ((rd_T109 t1182 x6_1).f1)) ∧ w'.cell? ⟨(ad1186.add ((x6_1).toNat * 3)).block, (ad1186.add ((x6_1).toNat * 3)).off + 2, none⟩ = some (.int .i64 ((rd_T109 t1182 x6_1).f2))) (ds := []) #[false, false, false, false, false, false, false, false, false, false, false, false, false, false, false, false, false, false, false] zz rfl rfl ⟨hx1185_0, hx1185_1, hx1186_0, hx1186_1, hx1186_2⟩ (fun hHeld => ?_); refine with_tabW leadtrailref25_Of.tab8 leadtrailref25_Of.bits8 (fun HT_ HW_ => ?_); generalize wr.drew = w19 at HO_4 HO_11 BK1180 HB hx1185_0 hx1185_1 hx1186_0 hx1186_1 hx1186_2 hHeld ⊢; refine zp 0 (some 18) (v := ?_) (a' := ?_) (bz 19 1) rfl rfl HT_.out zz zQ ?_ ?_ ?_; rotate_left
          ·intro w'; go_simp; with_reducible rfl
          rotate_left
          ·simp only [Act.put, zv, i64_w, i32_w]; rfl
          refine zp 1 (some 19) (v := ?_) (a' := ?_) (bz 19 3) rfl rfl HT_.out zz zQ ?_ ?_ ?_; rotate_left
          ·intro w'; go_simp; with_reducible rfl
          rotate_left
          ·simp only [Act.put, zv, i64_w, i32_w]; rfl
          refine zp 2 (some 20) (v := ?_) (a' := ?_) (bz 19 7) rfl rfl HT_.out zz zQ ?_ ?_ ?_; rotate_left
          ·intro w'; go_simp; with_reducible rfl
          rotate_left
          ·simp only [Act.put, zv, i64_w, i32_w]; rfl
          refine zp 3 (some 21) (v := ?_) (a' := ?_) (bz 19 15) rfl rfl HT_.out zz zQ ?_ ?_ ?_; rotate_left
          ·intro w'; go_simp; with_reducible rfl
          rotate_left
          ·simp only [Act.put, zv, i64_w, i32_w]; rfl
          refine zp 4 (some 22) (v := ?_) (a' := ?_) (bz 19 31) rfl rfl HT_.out zz zQ ?_ ?_ ?_; rotate_left
          ·intro w'; go_simp; with_reducible rfl
          rotate_left
          ·simp only [Act.put, zv, i64_w, i32_w]; rfl
          refine zp 5 (some 23) (v := ?_) (a' := ?_) (bz 19 63) rfl rfl HT_.out zz zQ ?_ ?_ ?_; rotate_left
          ·intro w'; go_simp; with_reducible rfl
          rotate_left
          ·simp only [Act.put, zv, i64_w, i32_w]; rfl
          refine zp 6 (some 24) (v := ?_) (a' := ?_) (bz 19 127) rfl rfl HT_.out zz zQ ?_ ?_ ?_; rotate_left
          ·intro w'; go_simp; with_reducible rfl
          rotate_left
          ·simp only [Act.put, zv, i64_w, i32_w]; rfl
          refine zp 7 (some 25) (v := ?_) (a' := ?_) (bz 19 255) rfl rfl HT_.out zz zQ ?_ ?_ ?_; rotate_left
          ·intro w'; go_simp; with_reducible rfl
          rotate_left
          ·simp only [Act.put, zv, i64_w, i32_w]; rfl
          refine zp 8 (some 26) (v := ?_) (a' := ?_) (bz 19 511) rfl rfl HT_.out zz zQ ?_ ?_ ?_; rotate_left
          ·intro w'; go_simp; with_reducible rfl
          rotate_left
          ·simp only [Act.put, zv, i64_w, i32_w]; rfl
          refine zp 9 (some 27) (v := ?_) (a' := ?_) (bz 19 1023) rfl rfl HT_.out zz zQ ?_ ?_ ?_; rotate_left
          ·intro w'; go_simp; with_reducible rfl
          rotate_left
          ·simp only [Act.put, zv, i64_w, i32_w]; rfl
          refine zp 12 (some 30) (v := ?_) (a' := ?_) (bz 19 5119) rfl rfl HT_.out zz zQ ?_ ?_ ?_; rotate_left
          ·intro w'; go_simp; with_reducible rfl
          rotate_left
          ·simp only [Act.put, zv, i64_w, i32_w]; rfl
          refine zp 13 (some 31) (v := ?_) (a' := ?_) (bz 19 13311) rfl rfl HT_.out zz zQ ?_ ?_ ?_; rotate_left
          ·intro w'; go_simp; with_reducible rfl
          rotate_left
          ·simp only [Act.put, zv, i64_w, i32_w]; rfl
          refine zp 14 (some 32) (v := ?_) (a' := ?_) (bz 19 29695) rfl rfl HT_.out zz zQ ?_ ?_ ?_; rotate_left
          ·intro w'; go_simp; with_reducible rfl
          rotate_left
          ·simp only [Act.put, zv, i64_w, i32_w]; rfl
          refine zp 15 (some 33) (v := ?_) (a' := ?_) (bz 19 62463) rfl rfl HT_.out zz zQ ?_ ?_ ?_; rotate_left
          ·intro w'; go_simp; with_reducible rfl
          rotate_left
          ·simp only [Act.put, zv, i64_w, i32_w]; rfl
          refine take_ (i := 10) (N := some 28) (v := ?_) (a' := ?_) (bz 19 63487) rfl rfl (take_ofW HT_.out HW_.out zz) zQ (Or.inl ⟨by rfl, ?_⟩) hHeld ?_ ?_; rotate_left
          ·rintro w' ⟨s0, s1, s2, s3, s4⟩; go_simp; with_reducible rfl
          rotate_left
          ·simp only [Act.put, zv, i64_w, i32_w]; rfl
          refine zp 11 (some 29) (v := ?_) (a' := ?_) (bz 19 65535) rfl rfl HT_.out zz zQ ?_ ?_ ?_; rotate_left
          ·intro w'; go_simp; with_reducible rfl
          rotate_left
          ·simp only [Act.put, zv, i64_w, i32_w]; rfl
          refine take_ (i := 16) (N := some 34) (v := ?_) (a' := ?_) (bz 19 131071) rfl rfl (take_ofW HT_.out HW_.out zz) zQ (Or.inl ⟨by rfl, ?_⟩) hHeld ?_ ?_; rotate_left
          ·rintro w' ⟨s0, s1, s2, s3, s4⟩; go_simp; with_reducible rfl
          rotate_left
          ·simp only [Act.put, zv, i64_w, i32_w]; rfl
          refine zp 17 (some 35) (v := ?_) (a' := ?_) (bz 19 262143) rfl rfl HT_.out zz zQ ?_ ?_ ?_; rotate_left
          ·intro w'; go_simp; with_reducible rfl
          rotate_left
          ·simp only [Act.put, zv, i64_w, i32_w]; rfl
          refine zp 18 (some 36) (v := ?_) (a' := ?_) (bz 19 524287) rfl rfl HT_.out zz zQ ?_ ?_ ?_; rotate_left
          ·intro w'; go_simp; with_reducible rfl
          rotate_left
          ·simp only [Act.put, zv, i64_w, i32_w]; rfl
          refine done_ (done_of HT_.out zz) ?_; have p1187 : 0 ≤ (x6_1 : Int) := zT; have q1187 : x6_1 < (t1182.length : Int) := zT; obtain ⟨ad1187, e1187, hx1187_0, hx1187_1, hx1187_2⟩ := at_T109 (Kd.R_reads' HO_11.out).2.2 x6_1 p1187 q1187; obtain rfl : ad1186 = ad1187 := (by injection e1187); replace p1187 := eq_true p1187; replace q1187 := eq_true q1187; have p17 : 0 ≤ ((ji12) : Int) := zT; have q17 : ((ji12) : Int) < ((x4_1.length : Int) : Int) := zT; obtain ⟨go17, co17, eo17, gb17, gl17, cl17, HG17⟩ := Kd.R_form HO_4.out (by omega)
          (first | cases eo17 | (injection eo17 with ea_ en_ ec_; (first | subst ea_ | (injection ea_ with ea_; subst ea_)); subst ec_; clear en_))
          have GB17 := zk gb17; have GG17 := zk HG17; clear gb17 gl17 HG17
          (first | simp only [add_plain] at hx1185_0 | skip)
          (first | simp only [add_plain] at hx1185_1 | skip)
          obtain ⟨ce17, hcl17, hM17, hcc17, hfr17⟩ := Kd.R_elem HO_4.out z102 ((ji12) : Int) p17 q17; obtain rfl := k102_openM hM17; have hx17_0 : w19.cell? ⟨go17, ((ji12) : Int).toNat * 2, none⟩ = some (.int .i64 ((rd_T102 x4_1 (ji12)).f0)) := hcc17 0 _ rfl; have hx17_1 : w19.cell? ⟨go17, ((ji12) : Int).toNat * 2 + 1, none⟩ = some (.int .i64 ((rd_T102 x4_1 (ji12)).f1)) := hcc17 1 _ rfl; have hf17_0 : w19.frozen? ⟨go17, ((ji12) : Int).toNat * 2, none⟩ = false := hfr17 0; have hf17_1 : w19.frozen? ⟨go17, ((ji12) : Int).toNat * 2 + 1, none⟩ = false := hfr17 1; clear hcl17 hcc17 hfr17 hM17; replace p17 := eq_true p17; replace q17 := eq_true q17; have HX21 := zk (show Kd.R k102 102 w19 w.heap.size (fun _ => True) (.slice (some ⟨go17, 0, none⟩) x4_1.length co20) x4_1 from (zr HO_4.out)); obtain ⟨ce21, hcl21, hM21, hcc21, hfr21⟩ := Kd.R_elem HX21.out z102 ((ji12) : Int) zT (by have h_ : ((ji12) : Int) < ((x4_1.length : Int) : Int) := zT; first | exact h_ | (have e_ := (Kd.R_reads' HO_4.out).1; omega) | simpa using h_); obtain rfl := k102_openM hM21; have HP21 := Kd.R_seg HX21.out ((ji12) : Int) zT (by have h_ : ((ji12) : Int) < ((x4_1.length : Int) : Int) := zT; first | exact h_ | (have e_ := (Kd.R_reads' HO_4.out).1; omega) | simpa using h_) (seg := [.int .i64 ((rd_T109 t1182 x6_1).f1)]) (j := 1) hcl21 hcc21 (show 2 ≤ 2 from by decide) (x' := (⟨(rd_T102 x4_1 (ji12)).f0, (rd_T109 t1182 x6_1).f1⟩ : S102)) (k102_mkM _ _ _ (⟨(rd_T102 x4_1 (ji12)).f0, (rd_T109 t1182 x6_1).f1⟩ : S102) ) (fun _ hk => hk); have hx21_1 := hcc21 1 _ rfl; (try simp only [show (k102).sz = 2 from rfl, Nat.mul_one, Nat.add_zero] at hx21_1)
          have hf21_1 := hfr21 1; (try simp only [show (k102).sz = 2 from rfl, Nat.mul_one, Nat.add_zero] at hf21_1)
          clear hcl21 hcc21 hfr21 hM21; try go_wp2_with (first | ((with_reducible refine gate_store (t := 3) (p := 47) rfl ?_); refine store_event (t := 3) (p := 47) (v := ?vo_w22) (w1 := (w19.setCell ⟨go17, ((ji12) : Int).toNat * 2 + 1, none⟩ (.int .i64 ((rd_T109 t1182 x6_1).f1)))) ?hg ?ho ?hn ?hr ?_; (case ho => rfl); (case hg => rfl); (case hn => rfl); (case hr => first | (go_simp; done) | (go_simp; rfl)); intro w22 hw; have hg : w19.grownBy w22 (some go17) := (by rw [hw]; exact HP21.2); have hp_ : Kd.R k102 102 w22 w.heap.size (fun _ => True) (.slice (some ⟨go17, 0, none⟩) x4_1.length co20) y1188 := (by rw [hw, Ny1188.out]; exact HP21.1); clear HP21; replace HO_11 := zk (Kd.R_over' (v := (.slice (some ⟨go17, 0, none⟩) x4_1.length co20)) (zr HO_11.out) (Kd.R_typed HO_4.out) (by decide) hg); replace BK1180 := zk (blk_grown (g := gb1180) (o := .cells #[.slice A0_0 l0_0.length c0_0] 24 (0, 0)) (zb BK1180.out) hg (Kd.R_ne HO_4.out BK1180.out (by decide))); replace HO_4 := zk (hp_); replace HB := zk ((by rw [hw]; exact below_set (HB.out) GB17.out : Below w.heap.size w w22));  clear hg hw hp_))
          go_roundg k1
          case measure => have := HK1.out; omega
          case rel => exact ⟨(y1188), (wrap64 (x6_1 + 1)), zR, H', ⟨by have := HK1.out; omega⟩, ⟨by (with_reducible repeat (first | apply zA | apply zB | apply zC)); exact HO_4.out⟩, ⟨by (with_reducible repeat (first | apply zA | apply zB | apply zC)); exact HO_11.out⟩, ⟨zb BK1180.out⟩, ⟨zU HB.out⟩⟩
         ·rw [if_neg c16] at H; have c16b0 : ((wrap64 (((rd_T102 x4_1 (ji12)).f1) + 1)) == ((rd_T109 t1182 x6_1).f0)) = false := beq_eq_false_iff_ne.mpr c16; have c16b1 : ((wrap64 (((rd_T102 x4_1 (ji12)).f1) + 1)) != ((rd_T109 t1182 x6_1).f0)) = true := bne_iff_ne.mpr c16; by_cases c23 : x4_1.length < 8796093022208
          ·rw [if_pos c23] at H; have LMc23 := zk c23; clear c23; obtain ⟨y1191, hy1191⟩ : ∃ y_ : List (S102), y_ = (x4_1 ++ [(⟨(rd_T109 t1182 x6_1).f0, (rd_T109 t1182 x6_1).f1⟩ : S102)]) := ⟨_, rfl⟩
           replace H : (leadtrailref25_Of.l0 k1 y1191 (wrap64 (x6_1 + 1)) t1182) = some (r1, r2) := by first | (rw [hy1191]; with_reducible exact H) | (have H2_ := (Option.bind_some _ _).symm.trans H; rw [hy1191]; with_reducible exact H2_) | (have H2_ := (Option.bind_some _ _).symm.trans H; with_reducible exact H2_) | with_reducible exact H | (rw [hy1191]; exact H) | exact H
           have Ny1191 := zk hy1191; clear hy1191; have H' := zk H; clear H; obtain ⟨Ao24, co24, eo24⟩ := Kd.R_slice HO_11.out; subst eo24; try go_wp2
           have n0_ := zk (Kd.R_drew HO_4.out); have n1_ := zk (Kd.R_drew HO_11.out); have n2_ := zk (blk_drew BK1180.out); have n3_ := zk (below_drew1 HB.out); clear HO_4; clear HO_11; clear BK1180; clear HB; have HO_4 := n0_; have HO_11 := n1_; have BK1180 := n2_; have HB := n3_; clear n0_ n1_ n2_ n3_; obtain ⟨Ao26, co26, eo26⟩ := Kd.R_slice HO_4.out
           (first | subst eo26 | (injection eo26 with f1_ f2_ f3_; have f4_ := f1_.symm; have f5_ := f3_.symm; clear f1_ f2_ f3_; subst f4_; subst f5_))
           have p1185 : 0 ≤ ((ji12) : Int) := zT; have q1185 : (ji12) < (x4_1.length : Int) := zT; obtain ⟨ad1185, e1185, hx1185_0, hx1185_1⟩ := at_T102 (Kd.R_reads' HO_4.out).2.2 (ji12) p1185 q1185; cases e1185; replace p1185 := eq_true p1185; replace q1185 := eq_true q1185; have p1186 : 0 ≤ (x6_1 : Int) := zT; have q1186 : x6_1 < (t1182.length : Int) := zT; obtain ⟨ad1186, e1186, hx1186_0, hx1186_1, hx1186_2⟩ := at_T109 (Kd.R_reads' HO_11.out).2.2 x6_1 p1186 q1186; cases e1186; replace p1186 := eq_true p1186; replace q1186 := eq_true q1186; refine start_ (n := 19) (S := fun w' => w'.cell? (ad1185.add (((ji12)).toNat * 2)) = some (.int .i64 ((rd_T102 x4_1 (ji12)).f0)) ∧ w'.cell? ⟨(ad1185.add (((ji12)).toNat * 2)).block, (ad1185.add (((ji12)).toNat * 2)).off + 1, none⟩ = some (.int .i64 ((rd_T102 x4_1 (ji12)).f1)) ∧ w'.cell? (ad1186.add ((x6_1).toNat * 3)) = some (.int .i64 ((rd_T109 t1182 x6_1).f0)) ∧ w'.cell? ⟨(ad1186.add ((x6_1).toNat * 3)).block, (ad1186.add ((x6_1).toNat * 3)).off + 1, none⟩ = some (.int .i64 ((rd_T109 t1182 x6_1).f1)) ∧ w'.cell? ⟨(ad1186.add ((x6_1).toNat * 3)).block, (ad1186.add ((x6_1).toNat * 3)).off + 2, none⟩ = some (.int .i64 ((rd_T109 t1182 x6_1).f2))) (ds := []) #[false, false, false, false, false, false, false, false, false, false, false, false, false, false, false, false, false, false, false] zz rfl rfl ⟨hx1185_0, hx1185_1, hx1186_0, hx1186_1, hx1186_2⟩ (fun hHeld => ?_); refine with_tabW leadtrailref25_Of.tab8 leadtrailref25_Of.bits8 (fun HT_ HW_ => ?_); generalize wr.drew = w25 at HO_4 HO_11 BK1180 HB hx1185_0 hx1185_1 hx1186_0 hx1186_1 hx1186_2 hHeld ⊢; refine zp 0 (some 18) (v := ?_) (a' := ?_) (bz 19 1) rfl rfl HT_.out zz zQ ?_ ?_ ?_; rotate_left
           ·intro w'; go_simp; with_reducible rfl
           rotate_left
           ·simp only [Act.put, zv, i64_w, i32_w]; rfl
           refine zp 1 (some 19) (v := ?_) (a' := ?_) (bz 19 3) rfl rfl HT_.out zz zQ ?_ ?_ ?_; rotate_left
           ·intro w'; go_simp; with_reducible rfl
           rotate_left
           ·simp only [Act.put, zv, i64_w, i32_w]; rfl
           refine zp 2 (some 20) (v := ?_) (a' := ?_) (bz 19 7) rfl rfl HT_.out zz zQ ?_ ?_ ?_; rotate_left
           ·intro w'; go_simp; with_reducible rfl
           rotate_left
           ·simp only [Act.put, zv, i64_w, i32_w]; rfl
           refine zp 3 (some 21) (v := ?_) (a' := ?_) (bz 19 15) rfl rfl HT_.out zz zQ ?_ ?_ ?_; rotate_left
           ·intro w'; go_simp; with_reducible rfl
           rotate_left
           ·simp only [Act.put, zv, i64_w, i32_w]; rfl
           refine zp 4 (some 22) (v := ?_) (a' := ?_) (bz 19 31) rfl rfl HT_.out zz zQ ?_ ?_ ?_; rotate_left
           ·intro w'; go_simp; with_reducible rfl
           rotate_left
           ·simp only [Act.put, zv, i64_w, i32_w]; rfl
           refine zp 5 (some 23) (v := ?_) (a' := ?_) (bz 19 63) rfl rfl HT_.out zz zQ ?_ ?_ ?_; rotate_left
           ·intro w'; go_simp; with_reducible rfl
           rotate_left
           ·simp only [Act.put, zv, i64_w, i32_w]; rfl
           refine zp 6 (some 24) (v := ?_) (a' := ?_) (bz 19 127) rfl rfl HT_.out zz zQ ?_ ?_ ?_; rotate_left
           ·intro w'; go_simp; with_reducible rfl
           rotate_left
           ·simp only [Act.put, zv, i64_w, i32_w]; rfl
           refine zp 7 (some 25) (v := ?_) (a' := ?_) (bz 19 255) rfl rfl HT_.out zz zQ ?_ ?_ ?_; rotate_left
           ·intro w'; go_simp; with_reducible rfl
           rotate_left
           ·simp only [Act.put, zv, i64_w, i32_w]; rfl
           refine zp 8 (some 26) (v := ?_) (a' := ?_) (bz 19 511) rfl rfl HT_.out zz zQ ?_ ?_ ?_; rotate_left
           ·intro w'; go_simp; with_reducible rfl
           rotate_left
           ·simp only [Act.put, zv, i64_w, i32_w]; rfl
           refine zp 9 (some 27) (v := ?_) (a' := ?_) (bz 19 1023) rfl rfl HT_.out zz zQ ?_ ?_ ?_; rotate_left
           ·intro w'; go_simp; with_reducible rfl
           rotate_left
           ·simp only [Act.put, zv, i64_w, i32_w]; rfl
           refine zp 12 (some 30) (v := ?_) (a' := ?_) (bz 19 5119) rfl rfl HT_.out zz zQ ?_ ?_ ?_; rotate_left
           ·intro w'; go_simp; with_reducible rfl
           rotate_left
           ·simp only [Act.put, zv, i64_w, i32_w]; rfl
           refine zp 13 (some 31) (v := ?_) (a' := ?_) (bz 19 13311) rfl rfl HT_.out zz zQ ?_ ?_ ?_; rotate_left
           ·intro w'; go_simp; with_reducible rfl
           rotate_left
           ·simp only [Act.put, zv, i64_w, i32_w]; rfl
           refine zp 14 (some 32) (v := ?_) (a' := ?_) (bz 19 29695) rfl rfl HT_.out zz zQ ?_ ?_ ?_; rotate_left
           ·intro w'; go_simp; with_reducible rfl
           rotate_left
           ·simp only [Act.put, zv, i64_w, i32_w]; rfl
           refine zp 15 (some 33) (v := ?_) (a' := ?_) (bz 19 62463) rfl rfl HT_.out zz zQ ?_ ?_ ?_; rotate_left
           ·intro w'; go_simp; with_reducible rfl
           rotate_left
           ·simp only [Act.put, zv, i64_w, i32_w]; rfl
           refine take_ (i := 10) (N := some 28) (v := ?_) (a' := ?_) (bz 19 63487) rfl rfl (take_ofW HT_.out HW_.out zz) zQ (Or.inl ⟨by rfl, ?_⟩) hHeld ?_ ?_; rotate_left
           ·rintro w' ⟨s0, s1, s2, s3, s4⟩; go_simp; with_reducible rfl
           rotate_left
           ·simp only [Act.put, zv, i64_w, i32_w]; rfl
           refine zp 11 (some 29) (v := ?_) (a' := ?_) (bz 19 65535) rfl rfl HT_.out zz zQ ?_ ?_ ?_; rotate_left
           ·intro w'; go_simp; with_reducible rfl
           rotate_left
           ·simp only [Act.put, zv, i64_w, i32_w]; rfl
           refine take_ (i := 16) (N := some 34) (v := ?_) (a' := ?_) (bz 19 131071) rfl rfl (take_ofW HT_.out HW_.out zz) zQ (Or.inl ⟨by rfl, ?_⟩) hHeld ?_ ?_; rotate_left
           ·rintro w' ⟨s0, s1, s2, s3, s4⟩; go_simp; with_reducible rfl
           rotate_left
           ·simp only [Act.put, zv, i64_w, i32_w]; rfl
           refine zp 17 (some 35) (v := ?_) (a' := ?_) (bz 19 262143) rfl rfl HT_.out zz zQ ?_ ?_ ?_; rotate_left
           ·intro w'; go_simp; with_reducible rfl
           rotate_left
           ·simp only [Act.put, zv, i64_w, i32_w]; rfl
           refine zp 18 (some 36) (v := ?_) (a' := ?_) (bz 19 524287) rfl rfl HT_.out zz zQ ?_ ?_ ?_; rotate_left
           ·intro w'; go_simp; with_reducible rfl
           rotate_left
           ·simp only [Act.put, zv, i64_w, i32_w]; rfl
           refine done_ (done_of HT_.out zz) ?_; try go_wp2
           have n0_ := zk (Kd.R_drew HO_4.out); have n1_ := zk (Kd.R_drew HO_11.out); have n2_ := zk (blk_drew BK1180.out); have n3_ := zk (below_drew1 HB.out); clear HO_4; clear HO_11; clear BK1180; clear HB; have HO_4 := n0_; have HO_11 := n1_; have BK1180 := n2_; have HB := n3_; clear n0_ n1_ n2_ n3_; have p1189 : 0 ≤ (x6_1 : Int) := zT; have q1189 : x6_1 < (t1182.length : Int) := zT; obtain ⟨ad1189, e1189, hx1189_0, hx1189_1, hx1189_2⟩ := at_T109 (Kd.R_reads' HO_11.out).2.2 x6_1 p1189 q1189; obtain rfl : ad1186 = ad1189 := (by injection e1189); replace p1189 := eq_true p1189; replace q1189 := eq_true q1189; have p1190 : 0 ≤ (x6_1 : Int) := zT; have q1190 : x6_1 < (t1182.length : Int) := zT; obtain ⟨ad1190, e1190, hx1190_0, hx1190_1, hx1190_2⟩ := at_T109 (Kd.R_reads' HO_11.out).2.2 x6_1 p1190 q1190; obtain rfl : ad1186 = ad1190 := (by injection e1190); replace p1190 := eq_true p1190; replace q1190 := eq_true q1190; refine start_ (n := 15) (S := fun w' => w'.cell? (ad1186.add ((x6_1).toNat * 3)) = some (.int .i64 ((rd_T109 t1182 x6_1).f0)) ∧ w'.cell? ⟨(ad1186.add ((x6_1).toNat * 3)).block, (ad1186.add ((x6_1).toNat * 3)).off + 1, none⟩ = some (.int .i64 ((rd_T109 t1182 x6_1).f1)) ∧ w'.cell? ⟨(ad1186.add ((x6_1).toNat * 3)).block, (ad1186.add ((x6_1).toNat * 3)).off + 2, none⟩ = some (.int .i64 ((rd_T109 t1182 x6_1).f2)) ∧ w'.cell? (ad1186.add ((x6_1).toNat * 3)) = some (.int .i64 ((rd_T109 t1182 x6_1).f0)) ∧ w'.cell? ⟨(ad1186.add ((x6_1).toNat * 3)).block, (ad1186.add ((x6_1).toNat * 3)).off + 1, none⟩ = some (.int .i64 ((rd_T109 t1182 x6_1).f1)) ∧ w'.cell? ⟨(ad1186.add ((x6_1).toNat * 3)).block, (ad1186.add ((x6_1).toNat * 3)).off + 2, none⟩ = some (.int .i64 ((rd_T109 t1182 x6_1).f2))) (ds := [12, 13]) #[false, false, false, false, false, false, false, false, false, false, false, false, false, false, false] zz rfl rfl ⟨hx1189_0, hx1189_1, hx1189_2, hx1190_0, hx1190_1, hx1190_2⟩ (fun hHeld => ?_); refine with_tabW leadtrailref25_Of.tab10 leadtrailref25_Of.bits10 (fun HT_ HW_ => ?_); generalize w25.drew = w27 at HO_4 HO_11 BK1180 HB hx1189_0 hx1189_1 hx1189_2 hx1190_0 hx1190_1 hx1190_2 hHeld ⊢; refine zp 0 (some 48) (v := ?_) (a' := ?_) (bz 15 1) rfl rfl HT_.out zz zQ ?_ ?_ ?_; rotate_left
           ·intro w'; go_simp; with_reducible rfl
           rotate_left
           ·simp only [Act.put, zv, i64_w, i32_w]; rfl
           refine zp 1 (some 49) (v := ?_) (a' := ?_) (bz 15 3) rfl rfl HT_.out zz zQ ?_ ?_ ?_; rotate_left
           ·intro w'; go_simp; with_reducible rfl
           rotate_left
           ·simp only [Act.put, zv, i64_w, i32_w]; rfl
           refine zp 2 (some 50) (v := ?_) (a' := ?_) (bz 15 7) rfl rfl HT_.out zz zQ ?_ ?_ ?_; rotate_left
           ·intro w'; go_simp; with_reducible rfl
           rotate_left
           ·simp only [Act.put, zv, i64_w, i32_w]; rfl
           refine zp 3 (some 51) (v := ?_) (a' := ?_) (bz 15 15) rfl rfl HT_.out zz zQ ?_ ?_ ?_; rotate_left
           ·intro w'; go_simp; with_reducible rfl
           rotate_left
           ·simp only [Act.put, zv, i64_w, i32_w]; rfl
           refine zp 4 (some 52) (v := ?_) (a' := ?_) (bz 15 31) rfl rfl HT_.out zz zQ ?_ ?_ ?_; rotate_left
           ·intro w'; go_simp; with_reducible rfl
           rotate_left
           ·simp only [Act.put, zv, i64_w, i32_w]; rfl
           refine zp 6 (some 54) (v := ?_) (a' := ?_) (bz 15 95) rfl rfl HT_.out zz zQ ?_ ?_ ?_; rotate_left
           ·intro w'; go_simp; with_reducible rfl
           rotate_left
           ·simp only [Act.put, zv, i64_w, i32_w]; rfl
           refine zp 7 (some 55) (v := ?_) (a' := ?_) (bz 15 223) rfl rfl HT_.out zz zQ ?_ ?_ ?_; rotate_left
           ·intro w'; go_simp; with_reducible rfl
           rotate_left
           ·simp only [Act.put, zv, i64_w, i32_w]; rfl
           refine zp 8 (some 56) (v := ?_) (a' := ?_) (bz 15 479) rfl rfl HT_.out zz zQ ?_ ?_ ?_; rotate_left
           ·intro w'; go_simp; with_reducible rfl
           rotate_left
           ·simp only [Act.put, zv, i64_w, i32_w]; rfl
           refine zp 9 (some 57) (v := ?_) (a' := ?_) (bz 15 991) rfl rfl HT_.out zz zQ ?_ ?_ ?_; rotate_left
           ·intro w'; go_simp; with_reducible rfl
           rotate_left
           ·simp only [Act.put, zv, i64_w, i32_w]; rfl
           refine take_ (i := 5) (N := some 53) (v := ?_) (a' := ?_) (bz 15 1023) rfl rfl (take_ofW HT_.out HW_.out zz) zQ (Or.inl ⟨by rfl, ?_⟩) hHeld ?_ ?_; rotate_left
           ·rintro w' ⟨s0, s1, s2, s3, s4, s5⟩; go_simp; with_reducible rfl
           rotate_left
           ·simp only [Act.put, zv, i64_w, i32_w]; rfl
           refine take_ (i := 10) (N := some 58) (v := ?_) (a' := ?_) (bz 15 2047) rfl rfl (take_ofW HT_.out HW_.out zz) zQ (Or.inl ⟨by rfl, ?_⟩) hHeld ?_ ?_; rotate_left
           ·rintro w' ⟨s0, s1, s2, s3, s4, s5⟩; go_simp; with_reducible rfl
           rotate_left
           ·simp only [Act.put, zv, i64_w, i32_w]; rfl
           refine zp 11 (some 59) (v := ?_) (a' := ?_) (bz 15 4095) rfl rfl HT_.out zz zQ ?_ ?_ ?_; rotate_left
           ·intro w'; go_simp; with_reducible rfl
           rotate_left
           ·simp only [Act.put, zv, i64_w, i32_w]; rfl
           refine last_ (i := 12) (N := some 60) (bz 15 8191) rfl rfl (one_of HT_.out zz) (by decide) (fun K hK => ?_); refine value_ (w1 := ?_) (v := ?_) (by rfl) rfl ?_ ?_; rotate_left 2
           ·go_simp; constructor
            ·rfl
            ·rfl
           refine hK.out _ _ ?_; clear hK K; refine norm_ (a' := ?_) ?_ ?_; rotate_left
           ·show Act.put _ (some 60) _ = _; simp only [Act.put, zv, i64_w, i32_w]; rfl
           refine last_ (i := 13) (N := some 61) (bz 15 16383) rfl rfl (one_of HT_.out zz) (by decide) (fun K hK => ?_); refine Kd.R_append_step k102 (w0 := w) w.heap.size (by rfl) (.tmp 48) (.tmp 60) 27 102 (.agg #[(.int .i64 0), (.int .i64 0)]) 16 rfl Try.underlying27 info102 rfl (by decide) (by omega) (.slice (some ad1185) x4_1.length co26) x4_1 (⟨(rd_T109 t1182 x6_1).f0, (rd_T109 t1182 x6_1).f1⟩ : S102) [.int .i64 ((rd_T109 t1182 x6_1).f0), .int .i64 ((rd_T109 t1182 x6_1).f1)] (fun _ => True) (fun _ => False) rfl rfl ?aP (fun _ hk => hk.elim) ?aF ?aO ?aB ?aS ?aL ?_; (case aP => exact k102_mkM _ _ _ (⟨(rd_T109 t1182 x6_1).f0, (rd_T109 t1182 x6_1).f1⟩ : S102))
           (case aB => exact (zU HB.out))
           (case aF => exact (fun _ _ => trivial))
           (case aO => exact (zr HO_4.out))
           (case aS => exact (below_size (zU HB.out)))
           (case aL => have := LMc23.out; omega)
           intro v1192 w28 ho hb hg hat; rw [← Ny1191.out] at ho; have n0_ := zk (Kd.R_over' (zr HO_11.out) (Kd.R_typed (zr HO_4.out)) (by decide) hg); have n1_ := zk (blk_grown (g := gb1180) (o := .cells #[.slice A0_0 l0_0.length c0_0] 24 (0, 0)) (zb BK1180.out) hg (Kd.R_ne HO_4.out BK1180.out (by decide))); have n2_ := zk (hb); have n3_ := zk (ho); clear HO_11; clear BK1180; clear HB; clear HO_4; have HO_11 := n0_; have BK1180 := n1_; have HB := n2_; have HO1193 := n3_; clear n0_ n1_ n2_ n3_; clear ho hb hg hat; refine hK.out _ _ ?_; clear hK K; refine norm_ (a' := ?_) ?_ ?_; rotate_left
           ·show Act.put _ (some 61) _ = _; simp only [Act.put, zv, i64_w, i32_w]; rfl
           refine zp 14 (some 4) (v := ?_) (a' := ?_) (bz 15 32767) rfl rfl HT_.out zz zQ ?_ ?_ ?_; rotate_left
           ·intro w'; go_simp; with_reducible rfl
           rotate_left
           ·simp only [Act.put, zv, i64_w, i32_w]; rfl
           refine done_ (done_of HT_.out zz) ?_; try go_wp2
           go_roundg k1
           case measure => have := HK1.out; omega
           case rel => exact ⟨(y1191), (wrap64 (x6_1 + 1)), zR, H', ⟨by have := HK1.out; omega⟩, ⟨by (with_reducible repeat (first | apply zA | apply zB | apply zC)); exact HO1193.out⟩, ⟨by (with_reducible repeat (first | apply zA | apply zB | apply zC)); exact HO_11.out⟩, ⟨zb BK1180.out⟩, ⟨zU HB.out⟩⟩
          ·rw [if_neg c23] at H; exact absurd H (by simp)
        ·rw [if_neg c15] at H; exact absurd H (by simp)
       ·rw [if_neg c14] at H; exact absurd H (by simp)
      ·rw [if_neg c13] at H; exact absurd H (by simp)
     ·rw [if_neg c11] at H; have c11b0 : decide (0 < (x4_1.length : Int)) = false := decide_eq_false c11; have c11b1 : decide (0 < x4_1.length) = false := decide_eq_false (by omega); clear c11; by_cases c29 : 0 ≤ x6_1
      ·rw [if_pos c29] at H; have c29b0 : decide (0 ≤ x6_1) = true := decide_eq_true c29; clear c29; by_cases c30 : x4_1.length < 8796093022208
       ·rw [if_pos c30] at H; have LMc30 := zk c30; clear c30; obtain ⟨y1196, hy1196⟩ : ∃ y_ : List (S102), y_ = (x4_1 ++ [(⟨(rd_T109 t1182 x6_1).f0, (rd_T109 t1182 x6_1).f1⟩ : S102)]) := ⟨_, rfl⟩
        replace H : (leadtrailref25_Of.l0 k1 y1196 (wrap64 (x6_1 + 1)) t1182) = some (r1, r2) := by first | (rw [hy1196]; with_reducible exact H) | (have H2_ := (Option.bind_some _ _).symm.trans H; rw [hy1196]; with_reducible exact H2_) | (have H2_ := (Option.bind_some _ _).symm.trans H; with_reducible exact H2_) | with_reducible exact H | (rw [hy1196]; exact H) | exact H
        have Ny1196 := zk hy1196; clear hy1196; have H' := zk H; clear H; obtain ⟨Ao31, co31, eo31⟩ := Kd.R_slice HO_11.out; subst eo31; try go_wp2
        have n0_ := zk (Kd.R_drew HO_4.out); have n1_ := zk (Kd.R_drew HO_11.out); have n2_ := zk (blk_drew BK1180.out); have n3_ := zk (below_drew1 HB.out); clear HO_4; clear HO_11; clear BK1180; clear HB; have HO_4 := n0_; have HO_11 := n1_; have BK1180 := n2_; have HB := n3_; clear n0_ n1_ n2_ n3_; obtain ⟨Ao33, co33, eo33⟩ := Kd.R_slice HO_4.out
        (first | subst eo33 | (injection eo33 with f1_ f2_ f3_; have f4_ := f1_.symm; have f5_ := f3_.symm; clear f1_ f2_ f3_; subst f4_; subst f5_))
        refine start_ (n := 19) (S := fun w' => True) (ds := []) #[false, false, false, false, false, false, false, false, false, false, false, false, false, false, false, false, false, false, false] zz rfl rfl trivial (fun hHeld => ?_); refine with_tabW leadtrailref25_Of.tab8 leadtrailref25_Of.bits8 (fun HT_ HW_ => ?_); generalize wr.drew = w32 at HO_4 HO_11 BK1180 HB hHeld ⊢; refine zp 0 (some 18) (v := ?_) (a' := ?_) (bz 19 1) rfl rfl HT_.out zz zQ ?_ ?_ ?_; rotate_left
        ·intro w'; go_simp; with_reducible rfl
        rotate_left
        ·simp only [Act.put, zv, i64_w, i32_w]; rfl
        refine zp 1 (some 19) (v := ?_) (a' := ?_) (bz 19 3) rfl rfl HT_.out zz zQ ?_ ?_ ?_; rotate_left
        ·intro w'; go_simp; with_reducible rfl
        rotate_left
        ·simp only [Act.put, zv, i64_w, i32_w]; rfl
        refine zp 2 (some 20) (v := ?_) (a' := ?_) (bz 19 7) rfl rfl HT_.out zz zQ ?_ ?_ ?_; rotate_left
        ·intro w'; go_simp; with_reducible rfl
        rotate_left
        ·simp only [Act.put, zv, i64_w, i32_w]; rfl
        refine zp 3 (some 21) (v := ?_) (a' := ?_) (bz 19 15) rfl rfl HT_.out zz zQ ?_ ?_ ?_; rotate_left
        ·intro w'; go_simp; with_reducible rfl
        rotate_left
        ·simp only [Act.put, zv, i64_w, i32_w]; rfl
        refine pure_ (i := 4) (N := some 22) (v := undef) (a' := ?_) (bz 19 31) rfl rfl (any_of HT_.out zz) zQ (Or.inr ⟨by rfl, rfl⟩) ?_ ?_; rotate_left
        ·simp only [Act.put, zv, i64_w, i32_w]; rfl
        refine pure_ (i := 5) (N := some 23) (v := undef) (a' := ?_) (bz 19 63) rfl rfl (any_of HT_.out zz) zQ (Or.inr ⟨by rfl, rfl⟩) ?_ ?_; rotate_left
        ·simp only [Act.put, zv, i64_w, i32_w]; rfl
        refine pure_ (i := 6) (N := some 24) (v := undef) (a' := ?_) (bz 19 127) rfl rfl (any_of HT_.out zz) zQ (Or.inr ⟨by rfl, rfl⟩) ?_ ?_; rotate_left
        ·simp only [Act.put, zv, i64_w, i32_w]; rfl
        refine pure_ (i := 7) (N := some 25) (v := undef) (a' := ?_) (bz 19 255) rfl rfl (any_of HT_.out zz) zQ (Or.inr ⟨by rfl, rfl⟩) ?_ ?_; rotate_left
        ·simp only [Act.put, zv, i64_w, i32_w]; rfl
        refine pure_ (i := 8) (N := some 26) (v := undef) (a' := ?_) (bz 19 511) rfl rfl (any_of HT_.out zz) zQ (Or.inr ⟨by rfl, rfl⟩) ?_ ?_; rotate_left
        ·simp only [Act.put, zv, i64_w, i32_w]; rfl
        refine pure_ (i := 9) (N := some 27) (v := undef) (a' := ?_) (bz 19 1023) rfl rfl (any_of HT_.out zz) zQ (Or.inr ⟨by rfl, rfl⟩) ?_ ?_; rotate_left
        ·simp only [Act.put, zv, i64_w, i32_w]; rfl
        refine pure_ (i := 10) (N := some 28) (v := undef) (a' := ?_) (bz 19 2047) rfl rfl (any_of HT_.out zz) zQ (Or.inr ⟨by rfl, rfl⟩) ?_ ?_; rotate_left
        ·simp only [Act.put, zv, i64_w, i32_w]; rfl
        refine pure_ (i := 11) (N := some 29) (v := undef) (a' := ?_) (bz 19 4095) rfl rfl (any_of HT_.out zz) zQ (Or.inr ⟨by rfl, rfl⟩) ?_ ?_; rotate_left
        ·simp only [Act.put, zv, i64_w, i32_w]; rfl
        refine pure_ (i := 12) (N := some 30) (v := undef) (a' := ?_) (bz 19 8191) rfl rfl (any_of HT_.out zz) zQ (Or.inr ⟨by rfl, rfl⟩) ?_ ?_; rotate_left
        ·simp only [Act.put, zv, i64_w, i32_w]; rfl
        refine pure_ (i := 13) (N := some 31) (v := undef) (a' := ?_) (bz 19 16383) rfl rfl (any_of HT_.out zz) zQ (Or.inr ⟨by rfl, rfl⟩) ?_ ?_; rotate_left
        ·simp only [Act.put, zv, i64_w, i32_w]; rfl
        refine pure_ (i := 14) (N := some 32) (v := undef) (a' := ?_) (bz 19 32767) rfl rfl (any_of HT_.out zz) zQ (Or.inr ⟨by rfl, rfl⟩) ?_ ?_; rotate_left
        ·simp only [Act.put, zv, i64_w, i32_w]; rfl
        refine pure_ (i := 15) (N := some 33) (v := undef) (a' := ?_) (bz 19 65535) rfl rfl (any_of HT_.out zz) zQ (Or.inr ⟨by rfl, rfl⟩) ?_ ?_; rotate_left
        ·simp only [Act.put, zv, i64_w, i32_w]; rfl
        refine pure_ (i := 16) (N := some 34) (v := undef) (a' := ?_) (bz 19 131071) rfl rfl (any_of HT_.out zz) zQ (Or.inr ⟨by rfl, rfl⟩) ?_ ?_; rotate_left
        ·simp only [Act.put, zv, i64_w, i32_w]; rfl
        refine pure_ (i := 17) (N := some 35) (v := undef) (a' := ?_) (bz 19 262143) rfl rfl (any_of HT_.out zz) zQ (Or.inr ⟨by rfl, rfl⟩) ?_ ?_; rotate_left
        ·simp only [Act.put, zv, i64_w, i32_w]; rfl
        refine zp 18 (some 36) (v := ?_) (a' := ?_) (bz 19 524287) rfl rfl HT_.out zz zQ ?_ ?_ ?_; rotate_left
        ·intro w'; go_simp; with_reducible rfl
        rotate_left
        ·simp only [Act.put, zv, i64_w, i32_w]; rfl
        refine done_ (done_of HT_.out zz) ?_; try go_wp2
        have n0_ := zk (Kd.R_drew HO_4.out); have n1_ := zk (Kd.R_drew HO_11.out); have n2_ := zk (blk_drew BK1180.out); have n3_ := zk (below_drew1 HB.out); clear HO_4; clear HO_11; clear BK1180; clear HB; have HO_4 := n0_; have HO_11 := n1_; have BK1180 := n2_; have HB := n3_; clear n0_ n1_ n2_ n3_; have p1194 : 0 ≤ (x6_1 : Int) := zT; have q1194 : x6_1 < (t1182.length : Int) := zT; obtain ⟨ad1194, e1194, hx1194_0, hx1194_1, hx1194_2⟩ := at_T109 (Kd.R_reads' HO_11.out).2.2 x6_1 p1194 q1194; cases e1194; replace p1194 := eq_true p1194; replace q1194 := eq_true q1194; have p1195 : 0 ≤ (x6_1 : Int) := zT; have q1195 : x6_1 < (t1182.length : Int) := zT; obtain ⟨ad1195, e1195, hx1195_0, hx1195_1, hx1195_2⟩ := at_T109 (Kd.R_reads' HO_11.out).2.2 x6_1 p1195 q1195; obtain rfl : ad1194 = ad1195 := (by injection e1195); replace p1195 := eq_true p1195; replace q1195 := eq_true q1195; refine start_ (n := 15) (S := fun w' => w'.cell? (ad1194.add ((x6_1).toNat * 3)) = some (.int .i64 ((rd_T109 t1182 x6_1).f0)) ∧ w'.cell? ⟨(ad1194.add ((x6_1).toNat * 3)).block, (ad1194.add ((x6_1).toNat * 3)).off + 1, none⟩ = some (.int .i64 ((rd_T109 t1182 x6_1).f1)) ∧ w'.cell? ⟨(ad1194.add ((x6_1).toNat * 3)).block, (ad1194.add ((x6_1).toNat * 3)).off + 2, none⟩ = some (.int .i64 ((rd_T109 t1182 x6_1).f2)) ∧ w'.cell? (ad1194.add ((x6_1).toNat * 3)) = some (.int .i64 ((rd_T109 t1182 x6_1).f0)) ∧ w'.cell? ⟨(ad1194.add ((x6_1).toNat * 3)).block, (ad1194.add ((x6_1).toNat * 3)).off + 1, none⟩ = some (.int .i64 ((rd_T109 t1182 x6_1).f1)) ∧ w'.cell? ⟨(ad1194.add ((x6_1).toNat * 3)).block, (ad1194.add ((x6_1).toNat * 3)).off + 2, none⟩ = some (.int .i64 ((rd_T109 t1182 x6_1).f2))) (ds := [12, 13]) #[false, false, false, false, false, false, false, false, false, false, false, false, false, false, false] zz rfl rfl ⟨hx1194_0, hx1194_1, hx1194_2, hx1195_0, hx1195_1, hx1195_2⟩ (fun hHeld => ?_); refine with_tabW leadtrailref25_Of.tab10 leadtrailref25_Of.bits10 (fun HT_ HW_ => ?_); generalize w32.drew = w34 at HO_4 HO_11 BK1180 HB hx1194_0 hx1194_1 hx1194_2 hx1195_0 hx1195_1 hx1195_2 hHeld ⊢; refine zp 0 (some 48) (v := ?_) (a' := ?_) (bz 15 1) rfl rfl HT_.out zz zQ ?_ ?_ ?_; rotate_left
        ·intro w'; go_simp; with_reducible rfl
        rotate_left
        ·simp only [Act.put, zv, i64_w, i32_w]; rfl
        refine zp 1 (some 49) (v := ?_) (a' := ?_) (bz 15 3) rfl rfl HT_.out zz zQ ?_ ?_ ?_; rotate_left
        ·intro w'; go_simp; with_reducible rfl
        rotate_left
        ·simp only [Act.put, zv, i64_w, i32_w]; rfl
        refine zp 2 (some 50) (v := ?_) (a' := ?_) (bz 15 7) rfl rfl HT_.out zz zQ ?_ ?_ ?_; rotate_left
        ·intro w'; go_simp; with_reducible rfl
        rotate_left
        ·simp only [Act.put, zv, i64_w, i32_w]; rfl
        refine zp 3 (some 51) (v := ?_) (a' := ?_) (bz 15 15) rfl rfl HT_.out zz zQ ?_ ?_ ?_; rotate_left
        ·intro w'; go_simp; with_reducible rfl
        rotate_left
        ·simp only [Act.put, zv, i64_w, i32_w]; rfl
        refine zp 4 (some 52) (v := ?_) (a' := ?_) (bz 15 31) rfl rfl HT_.out zz zQ ?_ ?_ ?_; rotate_left
        ·intro w'; go_simp; with_reducible rfl
        rotate_left
        ·simp only [Act.put, zv, i64_w, i32_w]; rfl
        refine zp 6 (some 54) (v := ?_) (a' := ?_) (bz 15 95) rfl rfl HT_.out zz zQ ?_ ?_ ?_; rotate_left
        ·intro w'; go_simp; with_reducible rfl
        rotate_left
        ·simp only [Act.put, zv, i64_w, i32_w]; rfl
        refine zp 7 (some 55) (v := ?_) (a' := ?_) (bz 15 223) rfl rfl HT_.out zz zQ ?_ ?_ ?_; rotate_left
        ·intro w'; go_simp; with_reducible rfl
        rotate_left
        ·simp only [Act.put, zv, i64_w, i32_w]; rfl
        refine zp 8 (some 56) (v := ?_) (a' := ?_) (bz 15 479) rfl rfl HT_.out zz zQ ?_ ?_ ?_; rotate_left
        ·intro w'; go_simp; with_reducible rfl
        rotate_left
        ·simp only [Act.put, zv, i64_w, i32_w]; rfl
        refine zp 9 (some 57) (v := ?_) (a' := ?_) (bz 15 991) rfl rfl HT_.out zz zQ ?_ ?_ ?_; rotate_left
        ·intro w'; go_simp; with_reducible rfl
        rotate_left
        ·simp only [Act.put, zv, i64_w, i32_w]; rfl
        refine take_ (i := 5) (N := some 53) (v := ?_) (a' := ?_) (bz 15 1023) rfl rfl (take_ofW HT_.out HW_.out zz) zQ (Or.inl ⟨by rfl, ?_⟩) hHeld ?_ ?_; rotate_left
        ·rintro w' ⟨s0, s1, s2, s3, s4, s5⟩; go_simp; with_reducible rfl
        rotate_left
        ·simp only [Act.put, zv, i64_w, i32_w]; rfl
        refine take_ (i := 10) (N := some 58) (v := ?_) (a' := ?_) (bz 15 2047) rfl rfl (take_ofW HT_.out HW_.out zz) zQ (Or.inl ⟨by rfl, ?_⟩) hHeld ?_ ?_; rotate_left
        ·rintro w' ⟨s0, s1, s2, s3, s4, s5⟩; go_simp; with_reducible rfl
        rotate_left
        ·simp only [Act.put, zv, i64_w, i32_w]; rfl
        refine zp 11 (some 59) (v := ?_) (a' := ?_) (bz 15 4095) rfl rfl HT_.out zz zQ ?_ ?_ ?_; rotate_left
        ·intro w'; go_simp; with_reducible rfl
        rotate_left
        ·simp only [Act.put, zv, i64_w, i32_w]; rfl
        refine last_ (i := 12) (N := some 60) (bz 15 8191) rfl rfl (one_of HT_.out zz) (by decide) (fun K hK => ?_); refine value_ (w1 := ?_) (v := ?_) (by rfl) rfl ?_ ?_; rotate_left 2
        ·go_simp; constructor
         ·rfl
         ·rfl
        refine hK.out _ _ ?_; clear hK K; refine norm_ (a' := ?_) ?_ ?_; rotate_left
        ·show Act.put _ (some 60) _ = _; simp only [Act.put, zv, i64_w, i32_w]; rfl
        refine last_ (i := 13) (N := some 61) (bz 15 16383) rfl rfl (one_of HT_.out zz) (by decide) (fun K hK => ?_); refine Kd.R_append_step k102 (w0 := w) w.heap.size (by rfl) (.tmp 48) (.tmp 60) 27 102 (.agg #[(.int .i64 0), (.int .i64 0)]) 16 rfl Try.underlying27 info102 rfl (by decide) (by omega) (.slice Ao33 x4_1.length co33) x4_1 (⟨(rd_T109 t1182 x6_1).f0, (rd_T109 t1182 x6_1).f1⟩ : S102) [.int .i64 ((rd_T109 t1182 x6_1).f0), .int .i64 ((rd_T109 t1182 x6_1).f1)] (fun _ => True) (fun _ => False) rfl rfl ?aP (fun _ hk => hk.elim) ?aF ?aO ?aB ?aS ?aL ?_; (case aP => exact k102_mkM _ _ _ (⟨(rd_T109 t1182 x6_1).f0, (rd_T109 t1182 x6_1).f1⟩ : S102))
        (case aB => exact (zU HB.out))
        (case aF => exact (fun _ _ => trivial))
        (case aO => exact (zr HO_4.out))
        (case aS => exact (below_size (zU HB.out)))
        (case aL => have := LMc30.out; omega)
        intro v1197 w35 ho hb hg hat; rw [← Ny1196.out] at ho; have n0_ := zk (Kd.R_over' (zr HO_11.out) (Kd.R_typed (zr HO_4.out)) (by decide) hg); have n1_ := zk (blk_grown (g := gb1180) (o := .cells #[.slice A0_0 l0_0.length c0_0] 24 (0, 0)) (zb BK1180.out) hg (Kd.R_ne HO_4.out BK1180.out (by decide))); have n2_ := zk (hb); have n3_ := zk (ho); clear HO_11; clear BK1180; clear HB; clear HO_4; have HO_11 := n0_; have BK1180 := n1_; have HB := n2_; have HO1198 := n3_; clear n0_ n1_ n2_ n3_; clear ho hb hg hat; refine hK.out _ _ ?_; clear hK K; refine norm_ (a' := ?_) ?_ ?_; rotate_left
        ·show Act.put _ (some 61) _ = _; simp only [Act.put, zv, i64_w, i32_w]; rfl
        refine zp 14 (some 4) (v := ?_) (a' := ?_) (bz 15 32767) rfl rfl HT_.out zz zQ ?_ ?_ ?_; rotate_left
        ·intro w'; go_simp; with_reducible rfl
        rotate_left
        ·simp only [Act.put, zv, i64_w, i32_w]; rfl
        refine done_ (done_of HT_.out zz) ?_; try go_wp2
        go_roundg k1
        case measure => have := HK1.out; omega
        case rel => exact ⟨(y1196), (wrap64 (x6_1 + 1)), zR, H', ⟨by have := HK1.out; omega⟩, ⟨by (with_reducible repeat (first | apply zA | apply zB | apply zC)); exact HO1198.out⟩, ⟨by (with_reducible repeat (first | apply zA | apply zB | apply zC)); exact HO_11.out⟩, ⟨zb BK1180.out⟩, ⟨zU HB.out⟩⟩
       ·rw [if_neg c30] at H; exact absurd H (by simp)
      ·rw [if_neg c29] at H; exact absurd H (by simp)
    ·rw [if_neg c10] at H; have c10b0 : decide (x6_1 < (t1182.length : Int)) = false := decide_eq_false c10; clear c10; simp only [Option.some.injEq, Prod.mk.injEq] at H; obtain ⟨rfl, rfl⟩ := H; obtain ⟨Ao36, co36, eo36⟩ := Kd.R_slice HO_11.out; subst eo36; go_wp2
     go_ret2
     exact ⟨_, ze, by (with_reducible repeat (first | apply zA | apply zB | apply zC)); exact HO_4.out, zU HB.out⟩
 ·replace c3 := Bool.eq_false_iff.mpr c3; subst c3; have H1 : (some (([] : List (S102)), 84)) = some (r1, r2) := by rw [if_neg (show ¬ (false = true) by decide)] at H; exact H
  clear H; have H := H1; clear H1; simp only [Option.some.injEq, Prod.mk.injEq] at H; obtain ⟨rfl, rfl⟩ := H; go_enter Try.func25, Try.ntmps25
  go_wp2_with (first | ((with_reducible refine gate_dst (N := 1) rfl ?_); (try (refine gate_guard (by rfl) ?_; dsimp only)); refine box_event ?hg (N := 1) ?hd (cs := #[.slice A0_0 l0_0.length c0_0]) (t := 24) ?hr ?_; (case hd => rfl); (case hg => rfl); (case hr => first | (go_simp; done) | (go_simp; rfl)); intro gb1180 hg w37 hbox hb; have BK1180 := zk (hbox); have GE1180 := zk ((zg hg HB.out : w.heap.size ≤ gb1180)); replace HB := zk (below_step (zU HB.out) hb);  clear hb hbox hg; have hcz38_0 : w37.cell? ⟨gb1180, 0, none⟩ = some (.slice A0_0 l0_0.length c0_0) := zh BK1180.out 0; have hfz38_0 := blk_frozen BK1180.out 0) | ((with_reducible refine gate_callee (f := 79) rfl ?_); refine goesL_ (some 8) rfl rfl Try.func79 zz rfl #[.agg #[.slice A0_0 l0_0.length c0_0]] rfl zM ?_; (with_reducible refine (leadtrailref08_Valid.calls k _ _ l0_0 false _ ?side1 ?side2 A2.out).mono ?_); (case side1 => exact zc (Kd.C_below HR0_0.out HB.out)); (case side2 => exact HC0_0.out); rintro e w39 ⟨rfl, hb⟩; refine ⟨_, rfl, ?_⟩; replace BK1180 := zk (zbb BK1180.out hb); replace HB := zk (below_step (zU HB.out) hb);  (try clear hb); (try clear hb2); (try clear hk); (try clear hi)))
  go_ret2
  exact ⟨_, ze, by first | exact Kd.R_nil _ _ _ _ _ | exact Kd.N_nil _ _ _ _ _ | exact Kd.V_nil _ _ _ _ _ | exact Kd.Q_nil _ _ _ _ _ | exact Kd.S_nil _ _ _ _ _, zU HB.out⟩
end Go.Proofs.Ytkcklnmbeinfkaa.B
