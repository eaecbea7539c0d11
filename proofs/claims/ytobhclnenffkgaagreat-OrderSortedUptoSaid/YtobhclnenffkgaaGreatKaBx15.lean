/- Words and walks of this claim, of the text Bx15. -/
import Derived.Test.YtobhclnenffkgaaGreatKaQW0
import Derived.Test.YtobhclnenffkgaaGreatKaBx0
import Derived.Test.YtobhclnenffkgaaGreatKaBx13
import Derived.Test.YtobhclnenffkgaaGreatKaBx14
namespace Go.Proofs.YtobhclnenffkgaaGreat.B
open Go.RowKit Go.Proofs.YtobhclnenffkgaaGreatW.PrintWords Go.Proofs.YtobhclnenffkgaaGreatW.PrintLast Go.Proofs.YtobhclnenffkgaaGreatW.PrintMore
set_option maxHeartbeats 8000000
set_option maxRecDepth 100000
attribute [local go_sem] max2_int min2_int max_two min_two max_three min_three max_four min_four
set_option linter.unusedVariables false
set_option linter.unusedSimpArgs false
def leadtrailref10_Of.f (k : Nat) (l0_0 : List (S48)) (a1 : Int) : Option (List Int × Bool) := (leadtrailref10_Find.f k l0_0 a1).bind fun t420 => (if t420 < 0 then (some (([] : List Int), false)) else (if 0 ≤ t420 then (if t420 < (l0_0.length : Int) then ((leadtrailref09_Unrank.f k ((rd_T48 l0_0 t420).f0) ((rd_T48 l0_0 t420).f1) (wrap64 (a1 - ((rd_T48 l0_0 t420).f1)))).bind fun bt423 => (some (bt423.1, bt423.2))) else (none)) else (none)))
def leadtrailref10_Of.T4 : Bool × List (List Nat × List Nat) := (true, [([], []), ([0], [0]), ([], []), ([1, 2], [1, 2]), ([3], [3]), ([], []), ([], []), ([6], [6]), ([], []), ([7, 8], [7, 8]), ([9], [9]), ([10], [10]), ([5, 11], [5, 11]), ([4, 12], [4, 12]), ([13], [13]), ([13], [13]), ([14, 13, 0, 1, 2, 3, 4, 5, 6, 7, 8, 9, 10, 11, 12, 13, 14, 15], [14]), ([15, 16, 0, 1, 2, 3, 4, 5, 6, 7, 8, 9, 10, 11, 12, 13, 14, 15, 16], [15])])
def leadtrailref10_Of.B4 : List Nat := [0, 1, 0, 7, 15, 0, 0, 64, 0, 448, 960, 1984, 4064, 8191, 16383, 16383, 65535, 131071]
theorem leadtrailref10_Of.tab4 : rtab .any (opsOf Tryz.f9 4) = leadtrailref10_Of.T4 := by kernel_rfl
theorem leadtrailref10_Of.bits4 : waitsOk leadtrailref10_Of.T4.2 leadtrailref10_Of.B4 = true := by kernel_rfl
theorem leadtrailref10_Of.calls (k : Nat) (A0_0 : Option Addr) (c0_0 : Nat) (l0_0 : List (S48)) (a1 : Int) (r1 : List Int) (r2 : Bool) (w : World) (hr0_0 : Kd.C k48 w A0_0 l0_0.length l0_0) (hc0_0 : l0_0.length ≤ c0_0) (h : leadtrailref10_Of.f k l0_0 a1 = some (r1, r2)) :
 Calls Tryz.prog 9 #[.agg #[.slice A0_0 l0_0.length c0_0], .int .i64 a1] w fun e w' => ∃ v0_ : Value, e = .returned (.tuple #[v0_, .bool r2]) ∧ Kd.R (Kd.int .u8) 5 w' w.heap.size (fun _ => True) v0_ r1 ∧ Below w.heap.size w w' := by
 have hu24 := Tryz.underlying24; have hu48 := Tryz.underlying48; have HR0_0 := zk hr0_0; have HC0_0 := zk hc0_0; clear hr0_0 hc0_0; have HB := zk (Below.refl w.heap.size w); have H : ((leadtrailref10_Find.f k l0_0 a1).bind fun t420 => (if t420 < 0 then (some (([] : List Int), false)) else (if 0 ≤ t420 then (if t420 < (l0_0.length : Int) then ((leadtrailref09_Unrank.f k ((rd_T48 l0_0 t420).f0) ((rd_T48 l0_0 t420).f1) (wrap64 (a1 - ((rd_T48 l0_0 t420).f1)))).bind fun bt423 => (some (bt423.1, bt423.2))) else (none)) else (none)))) = some (r1, r2) := h; clear h; replace H := Option.bind_eq_some_iff.mp H; obtain ⟨t420, A30, H⟩ := H; replace H : (if t420 < 0 then (some (([] : List Int), false)) else (if 0 ≤ t420 then (if t420 < (l0_0.length : Int) then ((leadtrailref09_Unrank.f k ((rd_T48 l0_0 t420).f0) ((rd_T48 l0_0 t420).f1) (wrap64 (a1 - ((rd_T48 l0_0 t420).f1)))).bind fun bt423 => (some (bt423.1, bt423.2))) else (none)) else (none))) = some (r1, r2) := H; have A3 := zk A30; clear A30; by_cases c4 : t420 < 0
 ·rw [if_pos c4] at H; have c4b0 : decide (t420 < 0) = true := decide_eq_true c4; clear c4; simp only [Option.some.injEq, Prod.mk.injEq] at H; obtain ⟨rfl, rfl⟩ := H; go_enter Tryz.func9, Tryz.ntmps9
  go_wp2_with (first | ((with_reducible refine gate_dst (N := 2) rfl ?_); refine box_event ?hg (N := 2) ?hd (cs := #[.slice A0_0 l0_0.length c0_0]) (t := 24) ?hr ?_; (case hd => rfl); (case hg => rfl); (case hr => first | (go_simp; done) | (go_simp; rfl)); intro gb419 hg w5 hbox hb; have BK419 := zk (hbox); have GE419 := zk ((zg hg HB.out : w.heap.size ≤ gb419)); replace HB := zs HB hb;  clear hb hbox hg; have hcz6_0 : w5.cell? ⟨gb419, 0, none⟩ = some (.slice A0_0 l0_0.length c0_0) := zh BK419.out 0; have hfz6_0 := blk_frozen BK419.out 0) | ((with_reducible refine gate_callee (f := 25) rfl ?_); refine goesL_ (some 9) rfl rfl Tryz.func25 zz rfl #[.agg #[.slice A0_0 l0_0.length c0_0], .int .i64 a1] rfl zM ?_; (with_reducible refine (leadtrailref10_Find.calls k _ _ l0_0 a1 t420 _ ?side1 ?side2 A3.out).mono ?_); (case side1 => exact zc (Kd.C_below HR0_0.out HB.out)); (case side2 => exact HC0_0.out); rintro e w7 ⟨rfl, hb⟩; refine ⟨_, rfl, ?_⟩; replace BK419 := zk (zbb BK419.out hb); replace HB := zs HB hb;  (try clear hb); (try clear hb2); (try clear hk); (try clear hi)))
  go_ret2
  exact ⟨_, ze, by first | exact Kd.R_nil _ _ _ _ _ | exact Kd.N_nil _ _ _ _ _ | exact Kd.V_nil _ _ _ _ _ | exact Kd.Q_nil _ _ _ _ _ | exact Kd.S_nil _ _ _ _ _, zU HB.out⟩
 ·rw [if_neg c4] at H; have c4b0 : decide (t420 < 0) = false := decide_eq_false c4; clear c4; by_cases c8 : 0 ≤ t420
  ·rw [if_pos c8] at H; have c8b0 : decide (0 ≤ t420) = true := decide_eq_true c8; clear c8; by_cases c9 : t420 < (l0_0.length : Int)
   ·rw [if_pos c9] at H; have c9b0 : decide (t420 < (l0_0.length : Int)) = true := decide_eq_true c9; clear c9; replace H := Option.bind_eq_some_iff.mp H; obtain ⟨⟨t423, t426⟩, A100, H⟩ := H; replace H : (some (t423, t426)) = some (r1, r2) := H; have A10 := zk A100; clear A100; simp only [Option.some.injEq, Prod.mk.injEq] at H; obtain ⟨rfl, rfl⟩ := H; go_enter Tryz.func9, Tryz.ntmps9
    try go_wp2_with (first | ((with_reducible refine gate_dst (N := 2) rfl ?_); refine box_event ?hg (N := 2) ?hd (cs := #[.slice A0_0 l0_0.length c0_0]) (t := 24) ?hr ?_; (case hd => rfl); (case hg => rfl); (case hr => first | (go_simp; done) | (go_simp; rfl)); intro gb419 hg w11 hbox hb; have BK419 := zk (hbox); have GE419 := zk ((zg hg HB.out : w.heap.size ≤ gb419)); replace HB := zs HB hb;  clear hb hbox hg; have hcz12_0 : w11.cell? ⟨gb419, 0, none⟩ = some (.slice A0_0 l0_0.length c0_0) := zh BK419.out 0; have hfz12_0 := blk_frozen BK419.out 0) | ((with_reducible refine gate_callee (f := 25) rfl ?_); refine goesL_ (some 9) rfl rfl Tryz.func25 zz rfl #[.agg #[.slice A0_0 l0_0.length c0_0], .int .i64 a1] rfl zM ?_; (with_reducible refine (leadtrailref10_Find.calls k _ _ l0_0 a1 t420 _ ?side1 ?side2 A3.out).mono ?_); (case side1 => exact zc (Kd.C_below HR0_0.out HB.out)); (case side2 => exact HC0_0.out); rintro e w13 ⟨rfl, hb⟩; refine ⟨_, rfl, ?_⟩; replace BK419 := zk (zbb BK419.out hb); replace HB := zs HB hb;  (try clear hb); (try clear hb2); (try clear hk); (try clear hi)))
    have n0_ := zk (blk_drew BK419.out); have n1_ := zk (below_drew1 HB.out); clear BK419; clear HB; have BK419 := n0_; have HB := n1_; clear n0_ n1_; have p421 : 0 ≤ (t420 : Int) := zT; have q421 : t420 < (l0_0.length : Int) := zT; obtain ⟨ad421, A421_0, c421_0, e421, hx421_0, hx421_1, hl421_0, hi421_0⟩ := at_T48 HR0_0.out t420 p421 q421; have hw421_1 := hx421_1; have hw421_0 := hx421_0; cases e421; replace hx421_0 := zcl HB.out hx421_0; replace hx421_1 := zcl HB.out hx421_1; have HR421_0 := zk hi421_0; have HC421_0 := zk hl421_0; clear hi421_0 hl421_0; replace p421 := eq_true p421; replace q421 := eq_true q421; have p422 : 0 ≤ (t420 : Int) := zT; have q422 : t420 < (l0_0.length : Int) := zT; obtain ⟨ad422, A422_0, c422_0, e422, hx422_0, hx422_1, hl422_0, hi422_0⟩ := at_T48 HR0_0.out t420 p422 q422; have hw422_1 := hx422_1; have hw422_0 := hx422_0; obtain rfl : ad421 = ad422 := (by injection e422); replace hx422_0 := zcl HB.out hx422_0; replace hx422_1 := zcl HB.out hx422_1; have HR422_0 := zk hi422_0; have HC422_0 := zk hl422_0; clear hi422_0 hl422_0; replace p422 := eq_true p422; replace q422 := eq_true q422; have ea_ := Option.some.inj (hx421_0.symm.trans hx422_0); injection ea_ with ea_ en_ ec_
    subst ea_; subst ec_; clear en_; refine start_ (n := 18) (S := fun w' => w'.cell? ⟨gb419, 0, none⟩ = some (.slice (some ad421) l0_0.length c0_0) ∧ w'.cell? (ad421.add ((t420).toNat * 2)) = some (.slice A421_0 ((rd_T48 l0_0 t420).f0).length c421_0) ∧ w'.cell? ⟨(ad421.add ((t420).toNat * 2)).block, (ad421.add ((t420).toNat * 2)).off + 1, none⟩ = some (.int .i64 ((rd_T48 l0_0 t420).f1)) ∧ w'.cell? (ad421.add ((t420).toNat * 2)) = some (.slice A421_0 ((rd_T48 l0_0 t420).f0).length c421_0) ∧ w'.cell? ⟨(ad421.add ((t420).toNat * 2)).block, (ad421.add ((t420).toNat * 2)).off + 1, none⟩ = some (.int .i64 ((rd_T48 l0_0 t420).f1))) (ds := []) #[false, false, false, false, false, false, false, false, false, false, false, false, false, false, false, false, false, false] zz rfl rfl ⟨(blk_cell BK419.out 0).trans rfl, (zcl HB.out hw421_0), (zcl HB.out hw421_1), (zcl HB.out hw422_0), (zcl HB.out hw422_1)⟩ (fun hHeld => ?_); refine with_tabW leadtrailref10_Of.tab4 leadtrailref10_Of.bits4 (fun HT_ HW_ => ?_); generalize w13.drew = w14 at BK419 HB HR421_0 HR422_0 hx421_0 hx421_1 hx422_0 hx422_1 hHeld ⊢; refine zp 0 (some 12) (v := ?_) (a' := ?_) (bz 18 1) rfl rfl HT_.out zz zQ ?_ ?_ ?_; rotate_left
    ·intro w'; go_simp; with_reducible rfl
    rotate_left
    ·simp only [zy]; rfl
    refine zp 2 (some 14) (v := ?_) (a' := ?_) (bz 18 5) rfl rfl HT_.out zz zQ ?_ ?_ ?_; rotate_left
    ·intro w'; go_simp; with_reducible rfl
    rotate_left
    ·simp only [zy]; rfl
    refine zp 5 (some 17) (v := ?_) (a' := ?_) (bz 18 37) rfl rfl HT_.out zz zQ ?_ ?_ ?_; rotate_left
    ·intro w'; go_simp; with_reducible rfl
    rotate_left
    ·simp only [zy]; rfl
    refine zp 6 (some 18) (v := ?_) (a' := ?_) (bz 18 101) rfl rfl HT_.out zz zQ ?_ ?_ ?_; rotate_left
    ·intro w'; go_simp; with_reducible rfl
    rotate_left
    ·simp only [zy]; rfl
    refine zp 8 (some 20) (v := ?_) (a' := ?_) (bz 18 357) rfl rfl HT_.out zz zQ ?_ ?_ ?_; rotate_left
    ·intro w'; go_simp; with_reducible rfl
    rotate_left
    ·simp only [zy]; rfl
    refine take_ (i := 1) (N := some 13) (v := ?_) (a' := ?_) (bz 18 359) rfl rfl (take_ofW HT_.out HW_.out zz) zQ (Or.inl ⟨by rfl, ?_⟩) hHeld ?_ ?_; rotate_left
    ·rintro w' ⟨s0, s1, s2, s3, s4⟩; go_simp; with_reducible rfl
    rotate_left
    ·simp only [zy]; rfl
    refine zp 3 (some 15) (v := ?_) (a' := ?_) (bz 18 367) rfl rfl HT_.out zz zQ ?_ ?_ ?_; rotate_left
    ·intro w'; go_simp; with_reducible rfl
    rotate_left
    ·simp only [zy]; rfl
    refine take_ (i := 4) (N := some 16) (v := ?_) (a' := ?_) (bz 18 383) rfl rfl (take_ofW HT_.out HW_.out zz) zQ (Or.inl ⟨by rfl, ?_⟩) hHeld ?_ ?_; rotate_left
    ·rintro w' ⟨s0, s1, s2, s3, s4⟩; go_simp; with_reducible rfl
    rotate_left
    ·simp only [zy]; rfl
    refine take_ (i := 7) (N := some 19) (v := ?_) (a' := ?_) (bz 18 511) rfl rfl (take_ofW HT_.out HW_.out zz) zQ (Or.inl ⟨by rfl, ?_⟩) hHeld ?_ ?_; rotate_left
    ·rintro w' ⟨s0, s1, s2, s3, s4⟩; go_simp; with_reducible rfl
    rotate_left
    ·simp only [zy]; rfl
    refine zp 9 (some 21) (v := ?_) (a' := ?_) (bz 18 1023) rfl rfl HT_.out zz zQ ?_ ?_ ?_; rotate_left
    ·intro w'; go_simp; with_reducible rfl
    rotate_left
    ·simp only [zy]; rfl
    refine zp 10 (some 22) (v := ?_) (a' := ?_) (bz 18 2047) rfl rfl HT_.out zz zQ ?_ ?_ ?_; rotate_left
    ·intro w'; go_simp; with_reducible rfl
    rotate_left
    ·simp only [zy]; rfl
    refine take_ (i := 11) (N := some 23) (v := ?_) (a' := ?_) (bz 18 4095) rfl rfl (take_ofW HT_.out HW_.out zz) zQ (Or.inl ⟨by rfl, ?_⟩) hHeld ?_ ?_; rotate_left
    ·rintro w' ⟨s0, s1, s2, s3, s4⟩; go_simp; with_reducible rfl
    rotate_left
    ·simp only [zy]; rfl
    refine zp 12 (some 24) (v := ?_) (a' := ?_) (bz 18 8191) rfl rfl HT_.out zz zQ ?_ ?_ ?_; rotate_left
    ·intro w'; go_simp; with_reducible rfl
    rotate_left
    ·simp only [zy]; rfl
    refine one_ (i := 13) (N := some 25) (bz 18 16383) rfl rfl (one_of HT_.out zz) (by decide) (fun K hK => ?_); refine goes_ Tryz.func23 zz rfl #[.agg #[.slice A421_0 ((rd_T48 l0_0 t420).f0).length c421_0, .int .i64 ((rd_T48 l0_0 t420).f1)], .int .i64 (wrap64 (a1 - ((rd_T48 l0_0 t420).f1)))] (by rfl) rfl rfl zM ?_; with_reducible refine (leadtrailref09_Unrank.calls k _ _ ((rd_T48 l0_0 t420).f0) ((rd_T48 l0_0 t420).f1) (wrap64 (a1 - ((rd_T48 l0_0 t420).f1))) t423 t426 _ ?side1 ?side2 A10.out).mono ?_; (case side1 => exact zc (Kd.C_below HR421_0.out HB.out))
    (case side2 => exact HC421_0.out)
    rintro e w15 ⟨v424, rfl, ho0, hb⟩; refine ⟨_, rfl, ?_⟩; have n0_ := zk (Kd.R_lower ho0 (below_size (zU HB.out))); have n1_ := zk (zbb BK419.out hb); have n2_ := zs HB hb; clear BK419; clear HB; have HO425 := n0_; have BK419 := n1_; have HB := n2_; clear n0_ n1_ n2_; (try clear hb); (try clear hb2); (try clear hk); (try clear hi); (try clear ho0); refine hK.out _ _ ⟨(blk_cell BK419.out 0).trans rfl, (zcl HB.out hw421_0), (zcl HB.out hw421_1), (zcl HB.out hw422_0), (zcl HB.out hw422_1)⟩ (fun hHeld => ?_); clear hK K; refine norm_ (a' := ?_) ?_ ?_; rotate_left
    ·show Act.put _ (some 25) _ = _; simp only [zy]; rfl
    refine zp 14 (some 26) (v := ?_) (a' := ?_) (bz 18 32767) rfl rfl HT_.out zz zQ ?_ ?_ ?_; rotate_left
    ·intro w'; go_simp; with_reducible rfl
    rotate_left
    ·simp only [zy]; rfl
    refine zp 15 (some 27) (v := ?_) (a' := ?_) (bz 18 65535) rfl rfl HT_.out zz zQ ?_ ?_ ?_; rotate_left
    ·intro w'; go_simp; with_reducible rfl
    rotate_left
    ·simp only [zy]; rfl
    refine zp 16 (some 4) (v := ?_) (a' := ?_) (bz 18 131071) rfl rfl HT_.out zz zQ ?_ ?_ ?_; rotate_left
    ·intro w'; go_simp; with_reducible rfl
    rotate_left
    ·simp only [zy]; rfl
    refine zp 17 (some 5) (v := ?_) (a' := ?_) (bz 18 262143) rfl rfl HT_.out zz zQ ?_ ?_ ?_; rotate_left
    ·intro w'; go_simp; with_reducible rfl
    rotate_left
    ·simp only [zy]; rfl
    refine done_ (done_of HT_.out zz) ?_; try go_wp2
    go_ret2
    exact ⟨_, ze, by (with_reducible repeat (first | apply zA | apply zB | apply zC)); exact HO425.out, zU HB.out⟩
   ·rw [if_neg c9] at H; cases H
  ·rw [if_neg c8] at H; cases H
end Go.Proofs.YtobhclnenffkgaaGreat.B
