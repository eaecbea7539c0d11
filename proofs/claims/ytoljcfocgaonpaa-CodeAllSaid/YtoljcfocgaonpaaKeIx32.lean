/- Words and walks of this claim, of the text Ix32. -/
import Derived.Test.YtoljcfocgaonpaaKeQW0
import Derived.Test.YtoljcfocgaonpaaKeQW1
import Derived.Test.YtoljcfocgaonpaaKeIx0
import Derived.Test.YtoljcfocgaonpaaKeIx14
import Derived.Test.YtoljcfocgaonpaaKeIx23
import Derived.Test.YtoljcfocgaonpaaKeIx26
import Derived.Test.YtoljcfocgaonpaaKeIx31
namespace Go.Proofs.Ytoljcfocgaonpaa.I
open Go.RowKit Go.Proofs.YtoljcfocgaonpaaW.PrintWords Go.Proofs.YtoljcfocgaonpaaW.PrintLast Go.Proofs.YtoljcfocgaonpaaW.PrintMore
attribute [local go_sem] max2_int min2_int max_two min_two max_three min_three max_four min_four
set_option linter.unusedVariables false
set_option linter.unusedSimpArgs false
def leadtrailref10_Of.f (k : Nat) (l0_0 : List (S47)) (a1 : Int) : Option (List Int × Bool) := (leadtrailref10_Find.f k l0_0 a1).bind fun t730 => (if t730 < 0 then (some (([] : List Int), false)) else (if 0 ≤ t730 then (if t730 < (l0_0.length : Int) then ((leadtrailref09_Unrank.f k ((rd_T47 l0_0 t730).f0) ((rd_T47 l0_0 t730).f1) (wrap64 (a1 - ((rd_T47 l0_0 t730).f1)))).bind fun bt733 => (some (bt733.1, bt733.2))) else (none)) else (none)))
def leadtrailref10_Of.T4 : Bool × List (List Nat × List Nat) := (true, [([], []), ([0], [0]), ([], []), ([1, 2], [1, 2]), ([3], [3]), ([], []), ([], []), ([6], [6]), ([], []), ([7, 8], [7, 8]), ([9], [9]), ([10], [10]), ([5, 11], [5, 11]), ([4, 12], [4, 12]), ([13], [13]), ([13], [13]), ([14, 13, 0, 1, 2, 3, 4, 5, 6, 7, 8, 9, 10, 11, 12, 13, 14, 15], [14]), ([15, 16, 0, 1, 2, 3, 4, 5, 6, 7, 8, 9, 10, 11, 12, 13, 14, 15, 16], [15])])
def leadtrailref10_Of.B4 : List Nat := [0, 1, 0, 7, 15, 0, 0, 64, 0, 448, 960, 1984, 4064, 8191, 16383, 16383, 65535, 131071]
theorem leadtrailref10_Of.tab4 : rtab .any (opsOf Try.f49 4) = leadtrailref10_Of.T4 := by kernel_rfl
theorem leadtrailref10_Of.bits4 : waitsOk leadtrailref10_Of.T4.2 leadtrailref10_Of.B4 = true := by kernel_rfl
set_option maxHeartbeats 8000000 in
set_option maxRecDepth 100000 in
theorem leadtrailref10_Of.calls (k : Nat) (A0_0 : Option Addr) (c0_0 : Nat) (l0_0 : List (S47)) (a1 : Int) (r1 : List Int) (r2 : Bool) (w : World) (hr0_0 : Kd.C k47 w A0_0 l0_0.length l0_0) (hc0_0 : l0_0.length ≤ c0_0) (h : leadtrailref10_Of.f k l0_0 a1 = some (r1, r2)) :
 Calls Try.prog 49 #[.agg #[.slice A0_0 l0_0.length c0_0], .int .i64 a1] w fun e w' => ∃ v0_ : Value, e = .returned (.tuple #[v0_, .bool r2]) ∧ Kd.R (Kd.int .u8) 5 w' w.heap.size (fun _ => True) v0_ r1 ∧ Below w.heap.size w w' := by
 have hu69 := Try.underlying69; have hu47 := Try.underlying47; have HR0_0 := zk hr0_0; have HC0_0 := zk hc0_0; clear hr0_0 hc0_0; have HB := zk (Below.refl w.heap.size w); have H : ((leadtrailref10_Find.f k l0_0 a1).bind fun t730 => (if t730 < 0 then (some (([] : List Int), false)) else (if 0 ≤ t730 then (if t730 < (l0_0.length : Int) then ((leadtrailref09_Unrank.f k ((rd_T47 l0_0 t730).f0) ((rd_T47 l0_0 t730).f1) (wrap64 (a1 - ((rd_T47 l0_0 t730).f1)))).bind fun bt733 => (some (bt733.1, bt733.2))) else (none)) else (none)))) = some (r1, r2) := h; clear h; replace H := Option.bind_eq_some_iff.mp H; obtain ⟨t730, A30, H⟩ := H; replace H : (if t730 < 0 then (some (([] : List Int), false)) else (if 0 ≤ t730 then (if t730 < (l0_0.length : Int) then ((leadtrailref09_Unrank.f k ((rd_T47 l0_0 t730).f0) ((rd_T47 l0_0 t730).f1) (wrap64 (a1 - ((rd_T47 l0_0 t730).f1)))).bind fun bt733 => (some (bt733.1, bt733.2))) else (none)) else (none))) = some (r1, r2) := H; have A3 := zk A30; clear A30; by_cases c4 : t730 < 0
 ·rw [if_pos c4] at H; have c4b0 : decide (t730 < 0) = true := decide_eq_true c4; clear c4; simp only [Option.some.injEq, Prod.mk.injEq] at H; obtain ⟨rfl, rfl⟩ := H; go_enter Try.func49, Try.ntmps49
  go_wp2_with (first | ((with_reducible refine gate_dst (N := 2) rfl ?_); refine box_event ?hg (N := 2) ?hd (cs := #[.slice A0_0 l0_0.length c0_0]) (t := 69) ?hr ?_; (case hd => rfl); (case hg => rfl); (case hr => first | (go_simp; done) | (go_simp; rfl)); intro gb729 hg w5 hbox hb; have BK729 := zk (hbox); have GE729 := zk ((zg hg HB.out : w.heap.size ≤ gb729)); replace HB := zk (below_step (zU HB.out) hb);  clear hb hbox hg; have hcz6_0 : w5.cell? ⟨gb729, 0, none⟩ = some (.slice A0_0 l0_0.length c0_0) := zh BK729.out 0; have hfz6_0 := blk_frozen BK729.out 0) | ((with_reducible refine gate_callee (f := 97) rfl ?_); refine goesL_ (some 9) rfl rfl Try.func97 zz rfl #[.agg #[.slice A0_0 l0_0.length c0_0], .int .i64 a1] rfl zM ?_; (with_reducible refine (leadtrailref10_Find.calls k _ _ l0_0 a1 t730 _ ?side1 ?side2 A3.out).mono ?_); (case side1 => exact zc (Kd.C_below HR0_0.out HB.out)); (case side2 => exact HC0_0.out); rintro e w7 ⟨rfl, hb⟩; refine ⟨_, rfl, ?_⟩; replace BK729 := zk (zbb BK729.out hb); replace HB := zk (below_step (zU HB.out) hb);  (try clear hb); (try clear hb2); (try clear hk); (try clear hi)))
  go_ret2
  exact ⟨_, ze, by first | exact Kd.R_nil _ _ _ _ _ | exact Kd.N_nil _ _ _ _ _ | exact Kd.V_nil _ _ _ _ _ | exact Kd.Q_nil _ _ _ _ _ | exact Kd.S_nil _ _ _ _ _, zU HB.out⟩
 ·rw [if_neg c4] at H; have c4b0 : decide (t730 < 0) = false := decide_eq_false c4; clear c4; by_cases c8 : 0 ≤ t730
  ·rw [if_pos c8] at H; have c8b0 : decide (0 ≤ t730) = true := decide_eq_true c8; clear c8; by_cases c9 : t730 < (l0_0.length : Int)
   ·rw [if_pos c9] at H; have c9b0 : decide (t730 < (l0_0.length : Int)) = true := decide_eq_true c9; clear c9; replace H := Option.bind_eq_some_iff.mp H; obtain ⟨⟨t733, t736⟩, A100, H⟩ := H; replace H : (some (t733, t736)) = some (r1, r2) := H; have A10 := zk A100; clear A100; simp only [Option.some.injEq, Prod.mk.injEq] at H; obtain ⟨rfl, rfl⟩ := H; go_enter Try.func49, Try.ntmps49
    try go_wp2_with (first | ((with_reducible refine gate_dst (N := 2) rfl ?_); refine box_event ?hg (N := 2) ?hd (cs := #[.slice A0_0 l0_0.length c0_0]) (t := 69) ?hr ?_; (case hd => rfl); (case hg => rfl); (case hr => first | (go_simp; done) | (go_simp; rfl)); intro gb729 hg w11 hbox hb; have BK729 := zk (hbox); have GE729 := zk ((zg hg HB.out : w.heap.size ≤ gb729)); replace HB := zk (below_step (zU HB.out) hb);  clear hb hbox hg; have hcz12_0 : w11.cell? ⟨gb729, 0, none⟩ = some (.slice A0_0 l0_0.length c0_0) := zh BK729.out 0; have hfz12_0 := blk_frozen BK729.out 0) | ((with_reducible refine gate_callee (f := 97) rfl ?_); refine goesL_ (some 9) rfl rfl Try.func97 zz rfl #[.agg #[.slice A0_0 l0_0.length c0_0], .int .i64 a1] rfl zM ?_; (with_reducible refine (leadtrailref10_Find.calls k _ _ l0_0 a1 t730 _ ?side1 ?side2 A3.out).mono ?_); (case side1 => exact zc (Kd.C_below HR0_0.out HB.out)); (case side2 => exact HC0_0.out); rintro e w13 ⟨rfl, hb⟩; refine ⟨_, rfl, ?_⟩; replace BK729 := zk (zbb BK729.out hb); replace HB := zk (below_step (zU HB.out) hb);  (try clear hb); (try clear hb2); (try clear hk); (try clear hi)))
    have n0_ := zk (blk_drew BK729.out); have n1_ := zk (below_drew1 HB.out); clear BK729; clear HB; have BK729 := n0_; have HB := n1_; clear n0_ n1_; have p731 : 0 ≤ (t730 : Int) := zT; have q731 : t730 < (l0_0.length : Int) := zT; obtain ⟨ad731, A731_0, c731_0, e731, hx731_0, hx731_1, hl731_0, hi731_0⟩ := at_T47 HR0_0.out t730 p731 q731; have hw731_1 := hx731_1; have hw731_0 := hx731_0; cases e731; replace hx731_0 := zcl HB.out hx731_0; replace hx731_1 := zcl HB.out hx731_1; have HR731_0 := zk hi731_0; have HC731_0 := zk hl731_0; clear hi731_0 hl731_0; replace p731 := eq_true p731; replace q731 := eq_true q731; have p732 : 0 ≤ (t730 : Int) := zT; have q732 : t730 < (l0_0.length : Int) := zT; obtain ⟨ad732, A732_0, c732_0, e732, hx732_0, hx732_1, hl732_0, hi732_0⟩ := at_T47 HR0_0.out t730 p732 q732; have hw732_1 := hx732_1; have hw732_0 := hx732_0; obtain rfl : ad731 = ad732 := (by injection e732); replace hx732_0 := zcl HB.out hx732_0; replace hx732_1 := zcl HB.out hx732_1; have HR732_0 := zk hi732_0; have HC732_0 := zk hl732_0; clear hi732_0 hl732_0; replace p732 := eq_true p732; replace q732 := eq_true q732; have ea_ := Option.some.inj (hx731_0.symm.trans hx732_0); injection ea_ with ea_ en_ ec_
    subst ea_; subst ec_; clear en_; refine start_ (n := 18) (S := fun w' => w'.cell? ⟨gb729, 0, none⟩ = some (.slice (some ad731) l0_0.length c0_0) ∧ w'.cell? (ad731.add ((t730).toNat * 2)) = some (.slice A731_0 ((rd_T47 l0_0 t730).f0).length c731_0) ∧ w'.cell? ⟨(ad731.add ((t730).toNat * 2)).block, (ad731.add ((t730).toNat * 2)).off + 1, none⟩ = some (.int .i64 ((rd_T47 l0_0 t730).f1)) ∧ w'.cell? (ad731.add ((t730).toNat * 2)) = some (.slice A731_0 ((rd_T47 l0_0 t730).f0).length c731_0) ∧ w'.cell? ⟨(ad731.add ((t730).toNat * 2)).block, (ad731.add ((t730).toNat * 2)).off + 1, none⟩ = some (.int .i64 ((rd_T47 l0_0 t730).f1))) (ds := []) #[false, false, false, false, false, false, false, false, false, false, false, false, false, false, false, false, false, false] zz rfl rfl ⟨(blk_cell BK729.out 0).trans rfl, (zcl HB.out hw731_0), (zcl HB.out hw731_1), (zcl HB.out hw732_0), (zcl HB.out hw732_1)⟩ (fun hHeld => ?_); refine with_tabW leadtrailref10_Of.tab4 leadtrailref10_Of.bits4 (fun HT_ HW_ => ?_); generalize w13.drew = w14 at BK729 HB HR731_0 HR732_0 hx731_0 hx731_1 hx732_0 hx732_1 hHeld ⊢; refine zp 0 (some 12) (v := ?_) (a' := ?_) (bz 18 1) rfl rfl HT_.out zz zQ ?_ ?_ ?_; rotate_left
    ·intro w'; go_simp; with_reducible rfl
    rotate_left
    ·simp only [Act.put, zv, i64_w, i32_w]; rfl
    refine zp 2 (some 14) (v := ?_) (a' := ?_) (bz 18 5) rfl rfl HT_.out zz zQ ?_ ?_ ?_; rotate_left
    ·intro w'; go_simp; with_reducible rfl
    rotate_left
    ·simp only [Act.put, zv, i64_w, i32_w]; rfl
    refine zp 5 (some 17) (v := ?_) (a' := ?_) (bz 18 37) rfl rfl HT_.out zz zQ ?_ ?_ ?_; rotate_left
    ·intro w'; go_simp; with_reducible rfl
    rotate_left
    ·simp only [Act.put, zv, i64_w, i32_w]; rfl
    refine zp 6 (some 18) (v := ?_) (a' := ?_) (bz 18 101) rfl rfl HT_.out zz zQ ?_ ?_ ?_; rotate_left
    ·intro w'; go_simp; with_reducible rfl
    rotate_left
    ·simp only [Act.put, zv, i64_w, i32_w]; rfl
    refine zp 8 (some 20) (v := ?_) (a' := ?_) (bz 18 357) rfl rfl HT_.out zz zQ ?_ ?_ ?_; rotate_left
    ·intro w'; go_simp; with_reducible rfl
    rotate_left
    ·simp only [Act.put, zv, i64_w, i32_w]; rfl
    refine take_ (i := 1) (N := some 13) (v := ?_) (a' := ?_) (bz 18 359) rfl rfl (take_ofW HT_.out HW_.out zz) zQ (Or.inl ⟨by rfl, ?_⟩) hHeld ?_ ?_; rotate_left
    ·rintro w' ⟨s0, s1, s2, s3, s4⟩; go_simp; with_reducible rfl
    rotate_left
    ·simp only [Act.put, zv, i64_w, i32_w]; rfl
    refine zp 3 (some 15) (v := ?_) (a' := ?_) (bz 18 367) rfl rfl HT_.out zz zQ ?_ ?_ ?_; rotate_left
    ·intro w'; go_simp; with_reducible rfl
    rotate_left
    ·simp only [Act.put, zv, i64_w, i32_w]; rfl
    refine take_ (i := 4) (N := some 16) (v := ?_) (a' := ?_) (bz 18 383) rfl rfl (take_ofW HT_.out HW_.out zz) zQ (Or.inl ⟨by rfl, ?_⟩) hHeld ?_ ?_; rotate_left
    ·rintro w' ⟨s0, s1, s2, s3, s4⟩; go_simp; with_reducible rfl
    rotate_left
    ·simp only [Act.put, zv, i64_w, i32_w]; rfl
    refine take_ (i := 7) (N := some 19) (v := ?_) (a' := ?_) (bz 18 511) rfl rfl (take_ofW HT_.out HW_.out zz) zQ (Or.inl ⟨by rfl, ?_⟩) hHeld ?_ ?_; rotate_left
    ·rintro w' ⟨s0, s1, s2, s3, s4⟩; go_simp; with_reducible rfl
    rotate_left
    ·simp only [Act.put, zv, i64_w, i32_w]; rfl
    refine zp 9 (some 21) (v := ?_) (a' := ?_) (bz 18 1023) rfl rfl HT_.out zz zQ ?_ ?_ ?_; rotate_left
    ·intro w'; go_simp; with_reducible rfl
    rotate_left
    ·simp only [Act.put, zv, i64_w, i32_w]; rfl
    refine zp 10 (some 22) (v := ?_) (a' := ?_) (bz 18 2047) rfl rfl HT_.out zz zQ ?_ ?_ ?_; rotate_left
    ·intro w'; go_simp; with_reducible rfl
    rotate_left
    ·simp only [Act.put, zv, i64_w, i32_w]; rfl
    refine take_ (i := 11) (N := some 23) (v := ?_) (a' := ?_) (bz 18 4095) rfl rfl (take_ofW HT_.out HW_.out zz) zQ (Or.inl ⟨by rfl, ?_⟩) hHeld ?_ ?_; rotate_left
    ·rintro w' ⟨s0, s1, s2, s3, s4⟩; go_simp; with_reducible rfl
    rotate_left
    ·simp only [Act.put, zv, i64_w, i32_w]; rfl
    refine zp 12 (some 24) (v := ?_) (a' := ?_) (bz 18 8191) rfl rfl HT_.out zz zQ ?_ ?_ ?_; rotate_left
    ·intro w'; go_simp; with_reducible rfl
    rotate_left
    ·simp only [Act.put, zv, i64_w, i32_w]; rfl
    refine one_ (i := 13) (N := some 25) (bz 18 16383) rfl rfl (one_of HT_.out zz) (by decide) (fun K hK => ?_); refine goes_ Try.func38 zz rfl #[.agg #[.slice A731_0 ((rd_T47 l0_0 t730).f0).length c731_0, .int .i64 ((rd_T47 l0_0 t730).f1)], .int .i64 (wrap64 (a1 - ((rd_T47 l0_0 t730).f1)))] (by rfl) rfl rfl zM ?_; with_reducible refine (leadtrailref09_Unrank.calls k _ _ ((rd_T47 l0_0 t730).f0) ((rd_T47 l0_0 t730).f1) (wrap64 (a1 - ((rd_T47 l0_0 t730).f1))) t733 t736 _ ?side1 ?side2 A10.out).mono ?_; (case side1 => exact zc (Kd.C_below HR731_0.out HB.out))
    (case side2 => exact HC731_0.out)
    rintro e w15 ⟨v734, rfl, ho0, hb⟩; refine ⟨_, rfl, ?_⟩; have n0_ := zk (Kd.R_lower ho0 (below_size (zU HB.out))); have n1_ := zk (zbb BK729.out hb); have n2_ := zk (below_step (zU HB.out) hb); clear BK729; clear HB; have HO735 := n0_; have BK729 := n1_; have HB := n2_; clear n0_ n1_ n2_; (try clear hb); (try clear hb2); (try clear hk); (try clear hi); (try clear ho0); refine hK.out _ _ ⟨(blk_cell BK729.out 0).trans rfl, (zcl HB.out hw731_0), (zcl HB.out hw731_1), (zcl HB.out hw732_0), (zcl HB.out hw732_1)⟩ (fun hHeld => ?_); clear hK K; refine norm_ (a' := ?_) ?_ ?_; rotate_left
    ·show Act.put _ (some 25) _ = _; simp only [Act.put, zv, i64_w, i32_w]; rfl
    refine zp 14 (some 26) (v := ?_) (a' := ?_) (bz 18 32767) rfl rfl HT_.out zz zQ ?_ ?_ ?_; rotate_left
    ·intro w'; go_simp; with_reducible rfl
    rotate_left
    ·simp only [Act.put, zv, i64_w, i32_w]; rfl
    refine zp 15 (some 27) (v := ?_) (a' := ?_) (bz 18 65535) rfl rfl HT_.out zz zQ ?_ ?_ ?_; rotate_left
    ·intro w'; go_simp; with_reducible rfl
    rotate_left
    ·simp only [Act.put, zv, i64_w, i32_w]; rfl
    refine zp 16 (some 4) (v := ?_) (a' := ?_) (bz 18 131071) rfl rfl HT_.out zz zQ ?_ ?_ ?_; rotate_left
    ·intro w'; go_simp; with_reducible rfl
    rotate_left
    ·simp only [Act.put, zv, i64_w, i32_w]; rfl
    refine zp 17 (some 5) (v := ?_) (a' := ?_) (bz 18 262143) rfl rfl HT_.out zz zQ ?_ ?_ ?_; rotate_left
    ·intro w'; go_simp; with_reducible rfl
    rotate_left
    ·simp only [Act.put, zv, i64_w, i32_w]; rfl
    refine done_ (done_of HT_.out zz) ?_; try go_wp2
    go_ret2
    exact ⟨_, ze, by (with_reducible repeat (first | apply zA | apply zB | apply zC)); exact HO735.out, zU HB.out⟩
   ·rw [if_neg c9] at H; exact absurd H (by simp)
  ·rw [if_neg c8] at H; exact absurd H (by simp)
theorem cloneShape.row {ad : Addr} {w : World} {ok : Nat → Prop} : ∀ (l0 : List S47) (o : Nat), (∀ j p, l0[j]? = some p → ∃ c : List Value, c.length = 2 ∧ Kd.FK k47 w ok p c ∧ ∀ i u, c[i]? = some u → w.cell? (ad.add ((o + j) * 2 + i)) = some u) →
 ∃ rows : List (List Value), rows.length = l0.length ∧ (∀ (j : Nat) (x : S47) (c : List Value), l0[j]? = some x → rows[j]? = some c → c.length = 2 ∧ Kd.FK k47 w ok x c) ∧ (∀ c ∈ rows, c.length = 2 ∧ ∀ u ∈ c, u.oneCell' = true) ∧ ∀ j u, rows.flatten[j]? = some u → w.cell? (ad.add (o * 2 + j)) = some u
 | [], o, _ => ⟨[], rfl, fun j x c h => (by simp at h), fun c h => (by cases h), fun j u h => (by simp at h)⟩
 | p :: t, o, h => by
  obtain ⟨c, c1, c2, c3⟩ := h 0 p rfl; obtain ⟨rows, q1, q2, q4, q3⟩ := cloneShape.row t (o + 1) (fun j x hj => by
   obtain ⟨c, a1, a2, a3⟩ := h (j + 1) x (by simpa using hj); exact ⟨c, a1, a2, fun i u hu => by have := a3 i u hu; rwa [show o + (j + 1) = o + 1 + j by omega] at this⟩)
  refine ⟨c :: rows, by simp [q1], fun j x c' hx hc => ?_, fun c' hc => ?_, fun j u hu => ?_⟩
  ·cases j with
   | zero =>
    obtain rfl := Option.some.inj hx; obtain rfl := Option.some.inj hc; exact ⟨c1, c2⟩
   | succ j => exact q2 j x c' (by simpa using hx) (by simpa using hc)
  ·rcases List.mem_cons.1 hc with rfl | hc
   ·exact ⟨c1, k47.K_one (Foot.now c2)⟩
   ·exact q4 c' hc
  ·rw [List.flatten_cons] at hu; by_cases hj : j < 2
   ·rw [List.getElem?_append_left (by omega)] at hu; have := c3 j u hu; rwa [show (o + 0) * 2 + j = o * 2 + j by omega] at this
   ·rw [List.getElem?_append_right (by omega), c1] at hu; have := q3 (j - 2) u hu; rwa [show (o + 1) * 2 + (j - 2) = o * 2 + j by omega] at this
theorem bytes_Compare.bytesOf (A0 : Option Addr) (c0 : Nat) (l0 : List Int) (w : World) (h : Kd.C (Kd.int .u8) w A0 l0.length l0) : (Extern.Bytes.bytesOf (.slice A0 l0.length c0)).run Try.prog w = .ok ⟨(Lib.bytesOf l0).toArray⟩ w := by
 obtain ⟨h1, h2, h3⟩ := Kd.reads_of_C (enc := Value.int .u8) (d := (0 : Int)) (h1 := fun _ => rfl) h; have hc : ∀ a, A0 = some a → ∀ j x, l0[j]? = some x → w.cell? (a.add j) = some (.int .u8 x) := fun a ha j x hj => by
  have hjl : j < l0.length := (List.getElem?_eq_some_iff.1 hj).1; obtain ⟨ad, e, hcell⟩ := h3 (by omega); rw [ha] at e; obtain rfl := Option.some.inj e; have := hcell j hjl; rw [this, List.getD_eq_getElem?_getD, hj]; rfl
 clear h h1 h2; cases A0 with
 | none =>
  have e : l0 = [] := by
   cases l0 with
   | nil => rfl
   | cons x t => obtain ⟨ad, e, _⟩ := h3 (by simp); exact absurd e (by simp)
  subst e; rfl
 | some a =>
  have hl := Lib.run_loadBytesX (P := Try.prog) w l0 a .empty (hc a rfl); have he : (⟨ByteArray.empty.data ++ (Lib.bytesOf l0).toArray⟩ : ByteArray) = ⟨(Lib.bytesOf l0).toArray⟩ := by
   apply ByteArray.ext; show (#[] : Array UInt8) ++ (Lib.bytesOf l0).toArray = (Lib.bytesOf l0).toArray; simp
  rw [he] at hl; exact hl
theorem bytes_Compare.run (A0 : Option Addr) (c0 : Nat) (l0 : List Int) (A1 : Option Addr) (c1 : Nat) (l1 : List Int) (w : World) (h0 : Kd.C (Kd.int .u8) w A0 l0.length l0) (h1 : Kd.C (Kd.int .u8) w A1 l1.length l1) :
 (Extern.BytealgCompare.compare #[.slice A0 l0.length c0, .slice A1 l1.length c1]).run Try.prog w = .ok (.int .i64 (Lib.compareBytes (Lib.bytesOf l0) (Lib.bytesOf l1))) w := by
 change Sem.run Try.prog (do pure (goInt (Extern.BytealgCompare.cmp (← Extern.Bytes.bytesOf (.slice A0 l0.length c0)) (← Extern.Bytes.bytesOf (.slice A1 l1.length c1))))) w = _
 simp only [Sem.run_bind, Sem.run_pure, bytes_Compare.bytesOf A0 c0 l0 w h0, bytes_Compare.bytesOf A1 c1 l1 w h1, Result.andThen]; rw [Lib.cmp_eq]; rfl
end Go.Proofs.Ytoljcfocgaonpaa.I
