/- Words and walks of this claim, of the text Ix17. -/
import Derived.Test.YtoljcfocgaonpaaGreatKaQW0
import Derived.Test.YtoljcfocgaonpaaGreatKaIx0
import Derived.Test.YtoljcfocgaonpaaGreatKaIx11
import Derived.Test.YtoljcfocgaonpaaGreatKaIx14
import Derived.Test.YtoljcfocgaonpaaGreatKaIx15
import Derived.Test.YtoljcfocgaonpaaGreatKaIx16
namespace Go.Proofs.I
open Go.RowKit Go.Proofs.Zw.PrintWords Go.Proofs.Zw.PrintLast Go.Proofs.Zw.PrintMore
set_option maxHeartbeats 8000000
set_option maxRecDepth 100000
attribute [local go_sem] Dw Ec El Es Dd Dj Dr Eb
set_option linter.unusedVariables false
set_option linter.unusedSimpArgs false
def Bx.f (k : Nat) (l0_0 : List (S44)) (a1 : Int) : Option (List Int × Bool) := (Ba.f k l0_0 a1).bind fun t421 => (if t421 < 0 then (some (([] : List Int), false)) else (if 0 ≤ t421 then (if t421 < (l0_0.length : Int) then ((Aj.f k ((Ad l0_0 t421).f0) ((Ad l0_0 t421).f1) (wrap64 (a1 - ((Ad l0_0 t421).f1)))).bind fun bt424 => (some (bt424.1, bt424.2))) else (none)) else (none)))
def Bx.T4 : Bool × List (List Nat × List Nat) := (true, [([], []), ([0], [0]), ([], []), ([1, 2], [1, 2]), ([3], [3]), ([], []), ([], []), ([6], [6]), ([], []), ([7, 8], [7, 8]), ([9], [9]), ([10], [10]), ([5, 11], [5, 11]), ([4, 12], [4, 12]), ([13], [13]), ([13], [13]), ([14, 13, 0, 1, 2, 3, 4, 5, 6, 7, 8, 9, 10, 11, 12, 13, 14, 15], [14]), ([15, 16, 0, 1, 2, 3, 4, 5, 6, 7, 8, 9, 10, 11, 12, 13, 14, 15, 16], [15])])
def Bx.B4 : List Nat := [0, 1, 0, 7, 15, 0, 0, 64, 0, 448, 960, 1984, 4064, 8191, 16383, 16383, 65535, 131071]
theorem Bx.tab4 : rtab .any (Jp Tryz.f18 4) = Bx.T4 := by kernel_rfl
theorem Bx.bits4 : Ff Bx.T4.2 Bx.B4 = true := by kernel_rfl
theorem Bx.calls (k : Nat) (A0_0 : Option Addr) (c0_0 : Nat) (l0_0 : List (S44)) (a1 : Int) (r1 : List Int) (r2 : Bool) (w : World) (hr0_0 : Kd.C k44 w A0_0 l0_0.length l0_0) (hc0_0 : l0_0.length ≤ c0_0) (h : Bx.f k l0_0 a1 = some (r1, r2)) :
 Calls Tryz.prog 18 #[.agg #[.slice A0_0 l0_0.length c0_0], .int .i64 a1] w fun e w' => ∃ v0_ : Value, e = .returned (.tuple #[v0_, .bool r2]) ∧ Kd.R (Kd.int .u8) 5 w' w.heap.size (fun _ => True) v0_ r1 ∧ Below w.heap.size w w' := by
 have hu24 := Tryz.underlying24; have hu44 := Tryz.underlying44; have HR0_0 := zk hr0_0; have HC0_0 := zk hc0_0; clear hr0_0 hc0_0; have HB := zk (Below.refl w.heap.size w); have H : ((Ba.f k l0_0 a1).bind fun t421 => (if t421 < 0 then (some (([] : List Int), false)) else (if 0 ≤ t421 then (if t421 < (l0_0.length : Int) then ((Aj.f k ((Ad l0_0 t421).f0) ((Ad l0_0 t421).f1) (wrap64 (a1 - ((Ad l0_0 t421).f1)))).bind fun bt424 => (some (bt424.1, bt424.2))) else (none)) else (none)))) = some (r1, r2) := h; clear h; replace H := Option.bind_eq_some_iff.mp H; obtain ⟨t421, A30, H⟩ := H; replace H : (if t421 < 0 then (some (([] : List Int), false)) else (if 0 ≤ t421 then (if t421 < (l0_0.length : Int) then ((Aj.f k ((Ad l0_0 t421).f0) ((Ad l0_0 t421).f1) (wrap64 (a1 - ((Ad l0_0 t421).f1)))).bind fun bt424 => (some (bt424.1, bt424.2))) else (none)) else (none))) = some (r1, r2) := H; have A3 := zk A30; clear A30; by_cases c4 : t421 < 0
 ·rw [if_pos c4] at H; have c4b0 : decide (t421 < 0) = true := decide_eq_true c4; clear c4; simp only [Option.some.injEq, Prod.mk.injEq] at H; obtain ⟨rfl, rfl⟩ := H; go_enter Tryz.func18, Tryz.ntmps18
  go_wp2_with (first | ((with_reducible refine Bd (N := 2) rfl ?_); refine Bb ?hg (N := 2) ?hd (cs := #[.slice A0_0 l0_0.length c0_0]) (t := 24) ?hr ?_; (case hd => rfl); (case hg => rfl); (case hr => first | (go_simp; done) | (go_simp; rfl)); intro gb420 hg w5 hbox hb; have BK420 := zk (hbox); have GE420 := zk ((zg hg HB.out : w.heap.size ≤ gb420)); replace HB := zs HB hb;  clear hb hbox hg; have hcz6_0 : w5.cell? ⟨gb420, 0, none⟩ = some (.slice A0_0 l0_0.length c0_0) := zh BK420.out 0; have hfz6_0 := Ac BK420.out 0) | ((with_reducible refine Al (f := 32) rfl ?_); refine Bz (some 9) rfl rfl Tryz.func32 zz rfl #[.agg #[.slice A0_0 l0_0.length c0_0], .int .i64 a1] rfl zM ?_; (with_reducible refine (Ba.calls k _ _ l0_0 a1 t421 _ ?side1 ?side2 A3.out).mono ?_); (case side1 => exact zc (Kd.C_below HR0_0.out HB.out)); (case side2 => exact HC0_0.out); rintro e w7 ⟨rfl, hb⟩; refine ⟨_, rfl, ?_⟩; replace BK420 := zk (zbb BK420.out hb); replace HB := zs HB hb;  (try clear hb); (try clear hb2); (try clear hk); (try clear hi)))
  go_ret2
  exact ⟨_, ze, by first | exact Kd.R_nil _ _ _ _ _ | exact Kd.N_nil _ _ _ _ _ | exact Kd.V_nil _ _ _ _ _ | exact Kd.Q_nil _ _ _ _ _ | exact Kd.S_nil _ _ _ _ _, zU HB.out⟩
 ·rw [if_neg c4] at H; have c4b0 : decide (t421 < 0) = false := decide_eq_false c4; clear c4; by_cases c8 : 0 ≤ t421
  ·rw [if_pos c8] at H; have c8b0 : decide (0 ≤ t421) = true := decide_eq_true c8; clear c8; by_cases c9 : t421 < (l0_0.length : Int)
   ·rw [if_pos c9] at H; have c9b0 : decide (t421 < (l0_0.length : Int)) = true := decide_eq_true c9; clear c9; replace H := Option.bind_eq_some_iff.mp H; obtain ⟨⟨t424, t427⟩, A100, H⟩ := H; replace H : (some (t424, t427)) = some (r1, r2) := H; have A10 := zk A100; clear A100; simp only [Option.some.injEq, Prod.mk.injEq] at H; obtain ⟨rfl, rfl⟩ := H; go_enter Tryz.func18, Tryz.ntmps18
    try go_wp2_with (first | ((with_reducible refine Bd (N := 2) rfl ?_); refine Bb ?hg (N := 2) ?hd (cs := #[.slice A0_0 l0_0.length c0_0]) (t := 24) ?hr ?_; (case hd => rfl); (case hg => rfl); (case hr => first | (go_simp; done) | (go_simp; rfl)); intro gb420 hg w11 hbox hb; have BK420 := zk (hbox); have GE420 := zk ((zg hg HB.out : w.heap.size ≤ gb420)); replace HB := zs HB hb;  clear hb hbox hg; have hcz12_0 : w11.cell? ⟨gb420, 0, none⟩ = some (.slice A0_0 l0_0.length c0_0) := zh BK420.out 0; have hfz12_0 := Ac BK420.out 0) | ((with_reducible refine Al (f := 32) rfl ?_); refine Bz (some 9) rfl rfl Tryz.func32 zz rfl #[.agg #[.slice A0_0 l0_0.length c0_0], .int .i64 a1] rfl zM ?_; (with_reducible refine (Ba.calls k _ _ l0_0 a1 t421 _ ?side1 ?side2 A3.out).mono ?_); (case side1 => exact zc (Kd.C_below HR0_0.out HB.out)); (case side2 => exact HC0_0.out); rintro e w13 ⟨rfl, hb⟩; refine ⟨_, rfl, ?_⟩; replace BK420 := zk (zbb BK420.out hb); replace HB := zs HB hb;  (try clear hb); (try clear hb2); (try clear hk); (try clear hi)))
    have n0_ := zk (Ay BK420.out); have n1_ := zk (Bv HB.out); clear BK420; clear HB; have BK420 := n0_; have HB := n1_; clear n0_ n1_; have p422 : 0 ≤ (t421 : Int) := zT; have q422 : t421 < (l0_0.length : Int) := zT; obtain ⟨ad422, A422_0, c422_0, e422, hx422_0, hx422_1, hl422_0, hi422_0⟩ := Cz HR0_0.out t421 p422 q422; have hw422_1 := hx422_1; have hw422_0 := hx422_0; cases e422; replace hx422_0 := zcl HB.out hx422_0; replace hx422_1 := zcl HB.out hx422_1; have HR422_0 := zk hi422_0; have HC422_0 := zk hl422_0; clear hi422_0 hl422_0; replace p422 := eq_true p422; replace q422 := eq_true q422; have p423 : 0 ≤ (t421 : Int) := zT; have q423 : t421 < (l0_0.length : Int) := zT; obtain ⟨ad423, A423_0, c423_0, e423, hx423_0, hx423_1, hl423_0, hi423_0⟩ := Cz HR0_0.out t421 p423 q423; have hw423_1 := hx423_1; have hw423_0 := hx423_0; obtain rfl : ad422 = ad423 := (by injection e423); replace hx423_0 := zcl HB.out hx423_0; replace hx423_1 := zcl HB.out hx423_1; have HR423_0 := zk hi423_0; have HC423_0 := zk hl423_0; clear hi423_0 hl423_0; replace p423 := eq_true p423; replace q423 := eq_true q423; have ea_ := Option.some.inj (hx422_0.symm.trans hx423_0); injection ea_ with ea_ en_ ec_
    subst ea_; subst ec_; clear en_; refine Ew (n := 18) (S := fun w' => w'.cell? ⟨gb420, 0, none⟩ = some (.slice (some ad422) l0_0.length c0_0) ∧ w'.cell? (ad422.add ((t421).toNat * 2)) = some (.slice A422_0 ((Ad l0_0 t421).f0).length c422_0) ∧ w'.cell? ⟨(ad422.add ((t421).toNat * 2)).block, (ad422.add ((t421).toNat * 2)).off + 1, none⟩ = some (.int .i64 ((Ad l0_0 t421).f1)) ∧ w'.cell? (ad422.add ((t421).toNat * 2)) = some (.slice A422_0 ((Ad l0_0 t421).f0).length c422_0) ∧ w'.cell? ⟨(ad422.add ((t421).toNat * 2)).block, (ad422.add ((t421).toNat * 2)).off + 1, none⟩ = some (.int .i64 ((Ad l0_0 t421).f1))) (ds := []) #[false, false, false, false, false, false, false, false, false, false, false, false, false, false, false, false, false, false] zz rfl rfl ⟨(Ag BK420.out 0).trans rfl, (zcl HB.out hw422_0), (zcl HB.out hw422_1), (zcl HB.out hw423_0), (zcl HB.out hw423_1)⟩ (fun hHeld => ?_); refine Cy Bx.tab4 Bx.bits4 (fun HT_ HW_ => ?_); generalize w13.drew = w14 at BK420 HB HR422_0 HR423_0 hx422_0 hx422_1 hx423_0 hx423_1 hHeld ⊢; refine zp 0 (some 12) (v := ?_) (a' := ?_) (bz 18 1) rfl rfl HT_.out zz zQ ?_ ?_ ?_; rotate_left
    ·intro w'; go_simp; with_reducible rfl
    rotate_left
    ·simp only [zy]; rfl
    refine zp 2 (some 14) (v := ?_) (a' := ?_) (bz 18 5) rfl rfl HT_.out zz zQ ?_ ?_ ?_; rotate_left
    ·intro w'; go_simp; with_reducible rfl
    rotate_left
    ·simp only [zy]; rfl
    refine zp 5 (some 17) (v := ?_) (a' := ?_) (bz 18 37) rfl rfl HT_.out zz zQ ?_ ?_ ?_; rotate_left
    ·intro w'; go_simp; with_reducible rfl
    rotate_left
    ·simp only [zy]; rfl
    refine zp 6 (some 18) (v := ?_) (a' := ?_) (bz 18 101) rfl rfl HT_.out zz zQ ?_ ?_ ?_; rotate_left
    ·intro w'; go_simp; with_reducible rfl
    rotate_left
    ·simp only [zy]; rfl
    refine zp 8 (some 20) (v := ?_) (a' := ?_) (bz 18 357) rfl rfl HT_.out zz zQ ?_ ?_ ?_; rotate_left
    ·intro w'; go_simp; with_reducible rfl
    rotate_left
    ·simp only [zy]; rfl
    refine take_ (i := 1) (N := some 13) (v := ?_) (a' := ?_) (bz 18 359) rfl rfl (Bk HT_.out HW_.out zz) zQ (Or.inl ⟨by rfl, ?_⟩) hHeld ?_ ?_; rotate_left
    ·rintro w' ⟨s0, s1, s2, s3, s4⟩; go_simp; with_reducible rfl
    rotate_left
    ·simp only [zy]; rfl
    refine zp 3 (some 15) (v := ?_) (a' := ?_) (bz 18 367) rfl rfl HT_.out zz zQ ?_ ?_ ?_; rotate_left
    ·intro w'; go_simp; with_reducible rfl
    rotate_left
    ·simp only [zy]; rfl
    refine take_ (i := 4) (N := some 16) (v := ?_) (a' := ?_) (bz 18 383) rfl rfl (Bk HT_.out HW_.out zz) zQ (Or.inl ⟨by rfl, ?_⟩) hHeld ?_ ?_; rotate_left
    ·rintro w' ⟨s0, s1, s2, s3, s4⟩; go_simp; with_reducible rfl
    rotate_left
    ·simp only [zy]; rfl
    refine take_ (i := 7) (N := some 19) (v := ?_) (a' := ?_) (bz 18 511) rfl rfl (Bk HT_.out HW_.out zz) zQ (Or.inl ⟨by rfl, ?_⟩) hHeld ?_ ?_; rotate_left
    ·rintro w' ⟨s0, s1, s2, s3, s4⟩; go_simp; with_reducible rfl
    rotate_left
    ·simp only [zy]; rfl
    refine zp 9 (some 21) (v := ?_) (a' := ?_) (bz 18 1023) rfl rfl HT_.out zz zQ ?_ ?_ ?_; rotate_left
    ·intro w'; go_simp; with_reducible rfl
    rotate_left
    ·simp only [zy]; rfl
    refine zp 10 (some 22) (v := ?_) (a' := ?_) (bz 18 2047) rfl rfl HT_.out zz zQ ?_ ?_ ?_; rotate_left
    ·intro w'; go_simp; with_reducible rfl
    rotate_left
    ·simp only [zy]; rfl
    refine take_ (i := 11) (N := some 23) (v := ?_) (a' := ?_) (bz 18 4095) rfl rfl (Bk HT_.out HW_.out zz) zQ (Or.inl ⟨by rfl, ?_⟩) hHeld ?_ ?_; rotate_left
    ·rintro w' ⟨s0, s1, s2, s3, s4⟩; go_simp; with_reducible rfl
    rotate_left
    ·simp only [zy]; rfl
    refine zp 12 (some 24) (v := ?_) (a' := ?_) (bz 18 8191) rfl rfl HT_.out zz zQ ?_ ?_ ?_; rotate_left
    ·intro w'; go_simp; with_reducible rfl
    rotate_left
    ·simp only [zy]; rfl
    refine one_ (i := 13) (N := some 25) (bz 18 16383) rfl rfl (Eh HT_.out zz) (by decide) (fun K hK => ?_); refine Gy Tryz.func33 zz rfl #[.agg #[.slice A422_0 ((Ad l0_0 t421).f0).length c422_0, .int .i64 ((Ad l0_0 t421).f1)], .int .i64 (wrap64 (a1 - ((Ad l0_0 t421).f1)))] (by rfl) rfl rfl zM ?_; with_reducible refine (Aj.calls k _ _ ((Ad l0_0 t421).f0) ((Ad l0_0 t421).f1) (wrap64 (a1 - ((Ad l0_0 t421).f1))) t424 t427 _ ?side1 ?side2 A10.out).mono ?_; (case side1 => exact zc (Kd.C_below HR422_0.out HB.out))
    (case side2 => exact HC422_0.out)
    rintro e w15 ⟨v425, rfl, ho0, hb⟩; refine ⟨_, rfl, ?_⟩; have n0_ := zk (Kd.R_lower ho0 (Ar (zU HB.out))); have n1_ := zk (zbb BK420.out hb); have n2_ := zs HB hb; clear BK420; clear HB; have HO426 := n0_; have BK420 := n1_; have HB := n2_; clear n0_ n1_ n2_; (try clear hb); (try clear hb2); (try clear hk); (try clear hi); (try clear ho0); refine hK.out _ _ ⟨(Ag BK420.out 0).trans rfl, (zcl HB.out hw422_0), (zcl HB.out hw422_1), (zcl HB.out hw423_0), (zcl HB.out hw423_1)⟩ (fun hHeld => ?_); clear hK K; refine Fi (a' := ?_) ?_ ?_; rotate_left
    ·show Act.put _ (some 25) _ = _; simp only [zy]; rfl
    refine zp 14 (some 26) (v := ?_) (a' := ?_) (bz 18 32767) rfl rfl HT_.out zz zQ ?_ ?_ ?_; rotate_left
    ·intro w'; go_simp; with_reducible rfl
    rotate_left
    ·simp only [zy]; rfl
    refine zp 15 (some 27) (v := ?_) (a' := ?_) (bz 18 65535) rfl rfl HT_.out zz zQ ?_ ?_ ?_; rotate_left
    ·intro w'; go_simp; with_reducible rfl
    rotate_left
    ·simp only [zy]; rfl
    refine zp 16 (some 4) (v := ?_) (a' := ?_) (bz 18 131071) rfl rfl HT_.out zz zQ ?_ ?_ ?_; rotate_left
    ·intro w'; go_simp; with_reducible rfl
    rotate_left
    ·simp only [zy]; rfl
    refine zp 17 (some 5) (v := ?_) (a' := ?_) (bz 18 262143) rfl rfl HT_.out zz zQ ?_ ?_ ?_; rotate_left
    ·intro w'; go_simp; with_reducible rfl
    rotate_left
    ·simp only [zy]; rfl
    refine Gg (Ei HT_.out zz) ?_; try go_wp2
    go_ret2
    exact ⟨_, ze, by (with_reducible repeat (first | apply zA | apply zB | apply zC)); exact HO426.out, zU HB.out⟩
   ·rw [if_neg c9] at H; cases H
  ·rw [if_neg c8] at H; cases H
def Ci.f (k : Nat) (l0_0 : List (S44)) (a1 : Int) : Option (List Int × Int) := (Az.f k l0_0).bind fun t429 => (if t429 = true then ((Bx.f k l0_0 a1).bind fun bt430 => (if bt430.2 = true then (some (bt430.1, 0)) else (some (([] : List Int), 100)))) else (some (([] : List Int), 84)))
theorem Ci.calls (k : Nat) (A0_0 : Option Addr) (c0_0 : Nat) (l0_0 : List (S44)) (a1 : Int) (r1 : List Int) (r2 : Int) (w : World) (hr0_0 : Kd.C k44 w A0_0 l0_0.length l0_0) (hc0_0 : l0_0.length ≤ c0_0) (h : Ci.f k l0_0 a1 = some (r1, r2)) :
 Calls Tryz.prog 7 #[.agg #[.slice A0_0 l0_0.length c0_0], .int .i64 a1] w fun e w' => ∃ v0_ : Value, e = .returned (.tuple #[v0_, .int .i64 r2]) ∧ Kd.R (Kd.int .u8) 5 w' w.heap.size (fun _ => True) v0_ r1 ∧ Below w.heap.size w w' := by
 have hu24 := Tryz.underlying24; have HR0_0 := zk hr0_0; have HC0_0 := zk hc0_0; clear hr0_0 hc0_0; have HB := zk (Below.refl w.heap.size w); have H : ((Az.f k l0_0).bind fun t429 => (if t429 = true then ((Bx.f k l0_0 a1).bind fun bt430 => (if bt430.2 = true then (some (bt430.1, 0)) else (some (([] : List Int), 100)))) else (some (([] : List Int), 84)))) = some (r1, r2) := h; clear h; replace H := Option.bind_eq_some_iff.mp H; obtain ⟨t429, A30, H⟩ := H; replace H : (if t429 = true then ((Bx.f k l0_0 a1).bind fun bt430 => (if bt430.2 = true then (some (bt430.1, 0)) else (some (([] : List Int), 100)))) else (some (([] : List Int), 84))) = some (r1, r2) := H; have A3 := zk A30; clear A30; by_cases c4 : t429 = true
 ·subst c4; have H1 : ((Bx.f k l0_0 a1).bind fun bt430 => (if bt430.2 = true then (some (bt430.1, 0)) else (some (([] : List Int), 100)))) = some (r1, r2) := by rw [if_pos rfl] at H; exact H
  clear H; have H := H1; clear H1; replace H := Option.bind_eq_some_iff.mp H; obtain ⟨⟨t430, t433⟩, A50, H⟩ := H; replace H : (if t433 = true then (some (t430, 0)) else (some (([] : List Int), 100))) = some (r1, r2) := H; have A5 := zk A50; clear A50; by_cases c6 : t433 = true
  ·subst c6; have H1 : (some (t430, 0)) = some (r1, r2) := by rw [if_pos rfl] at H; exact H
   clear H; have H := H1; clear H1; simp only [Option.some.injEq, Prod.mk.injEq] at H; obtain ⟨rfl, rfl⟩ := H; go_enter Tryz.func7, Tryz.ntmps7
   go_wp2_with (first | ((with_reducible refine Bd (N := 2) rfl ?_); refine Bb ?hg (N := 2) ?hd (cs := #[.slice A0_0 l0_0.length c0_0]) (t := 24) ?hr ?_; (case hd => rfl); (case hg => rfl); (case hr => first | (go_simp; done) | (go_simp; rfl)); intro gb428 hg w7 hbox hb; have BK428 := zk (hbox); have GE428 := zk ((zg hg HB.out : w.heap.size ≤ gb428)); replace HB := zs HB hb;  clear hb hbox hg; have hcz8_0 : w7.cell? ⟨gb428, 0, none⟩ = some (.slice A0_0 l0_0.length c0_0) := zh BK428.out 0; have hfz8_0 := Ac BK428.out 0) | ((with_reducible refine Al (f := 17) rfl ?_); refine Bz (some 9) rfl rfl Tryz.func17 zz rfl #[.agg #[.slice A0_0 l0_0.length c0_0]] rfl zM ?_; (with_reducible refine (Az.calls k _ _ l0_0 true _ ?side1 ?side2 A3.out).mono ?_); (case side1 => exact zc (Kd.C_below HR0_0.out HB.out)); (case side2 => exact HC0_0.out); rintro e w9 ⟨rfl, hb⟩; refine ⟨_, rfl, ?_⟩; replace BK428 := zk (zbb BK428.out hb); replace HB := zs HB hb;  (try clear hb); (try clear hb2); (try clear hk); (try clear hi); have hcz10_0 : w9.cell? ⟨gb428, 0, none⟩ = some (.slice A0_0 l0_0.length c0_0) := zh BK428.out 0; have hfz10_0 := Ac BK428.out 0) | ((with_reducible refine Al (f := 18) rfl ?_); refine Bz (some 14) rfl rfl Tryz.func18 zz rfl #[.agg #[.slice A0_0 l0_0.length c0_0], .int .i64 a1] rfl zM ?_; (with_reducible refine (Bx.calls k _ _ l0_0 a1 t430 true _ ?side1 ?side2 A5.out).mono ?_); (case side1 => exact zc (Kd.C_below HR0_0.out HB.out)); (case side2 => exact HC0_0.out); rintro e w11 ⟨v431, rfl, ho0, hb⟩; refine ⟨_, rfl, ?_⟩; have HO432 := zk (Kd.R_lower ho0 (Ar (zU HB.out))); replace BK428 := zk (zbb BK428.out hb); replace HB := zs HB hb;  (try clear hb); (try clear hb2); (try clear hk); (try clear hi); (try clear ho0)))
   go_ret2
   exact ⟨_, ze, by (with_reducible repeat (first | apply zA | apply zB | apply zC)); exact HO432.out, zU HB.out⟩
  ·replace c6 := Bool.eq_false_iff.mpr c6; subst c6; have H1 : (some (([] : List Int), 100)) = some (r1, r2) := by rw [if_neg (show ¬ (false = true) by decide)] at H; exact H
   clear H; have H := H1; clear H1; simp only [Option.some.injEq, Prod.mk.injEq] at H; obtain ⟨rfl, rfl⟩ := H; go_enter Tryz.func7, Tryz.ntmps7
   go_wp2_with (first | ((with_reducible refine Bd (N := 2) rfl ?_); refine Bb ?hg (N := 2) ?hd (cs := #[.slice A0_0 l0_0.length c0_0]) (t := 24) ?hr ?_; (case hd => rfl); (case hg => rfl); (case hr => first | (go_simp; done) | (go_simp; rfl)); intro gb428 hg w12 hbox hb; have BK428 := zk (hbox); have GE428 := zk ((zg hg HB.out : w.heap.size ≤ gb428)); replace HB := zs HB hb;  clear hb hbox hg; have hcz13_0 : w12.cell? ⟨gb428, 0, none⟩ = some (.slice A0_0 l0_0.length c0_0) := zh BK428.out 0; have hfz13_0 := Ac BK428.out 0) | ((with_reducible refine Al (f := 17) rfl ?_); refine Bz (some 9) rfl rfl Tryz.func17 zz rfl #[.agg #[.slice A0_0 l0_0.length c0_0]] rfl zM ?_; (with_reducible refine (Az.calls k _ _ l0_0 true _ ?side1 ?side2 A3.out).mono ?_); (case side1 => exact zc (Kd.C_below HR0_0.out HB.out)); (case side2 => exact HC0_0.out); rintro e w14 ⟨rfl, hb⟩; refine ⟨_, rfl, ?_⟩; replace BK428 := zk (zbb BK428.out hb); replace HB := zs HB hb;  (try clear hb); (try clear hb2); (try clear hk); (try clear hi); have hcz15_0 : w14.cell? ⟨gb428, 0, none⟩ = some (.slice A0_0 l0_0.length c0_0) := zh BK428.out 0; have hfz15_0 := Ac BK428.out 0) | ((with_reducible refine Al (f := 18) rfl ?_); refine Bz (some 14) rfl rfl Tryz.func18 zz rfl #[.agg #[.slice A0_0 l0_0.length c0_0], .int .i64 a1] rfl zM ?_; (with_reducible refine (Bx.calls k _ _ l0_0 a1 t430 false _ ?side1 ?side2 A5.out).mono ?_); (case side1 => exact zc (Kd.C_below HR0_0.out HB.out)); (case side2 => exact HC0_0.out); rintro e w16 ⟨v431, rfl, ho0, hb⟩; refine ⟨_, rfl, ?_⟩; have HO432 := zk (Kd.R_lower ho0 (Ar (zU HB.out))); replace BK428 := zk (zbb BK428.out hb); replace HB := zs HB hb;  (try clear hb); (try clear hb2); (try clear hk); (try clear hi); (try clear ho0)))
   go_ret2
   exact ⟨_, ze, by first | exact Kd.R_nil _ _ _ _ _ | exact Kd.N_nil _ _ _ _ _ | exact Kd.V_nil _ _ _ _ _ | exact Kd.Q_nil _ _ _ _ _ | exact Kd.S_nil _ _ _ _ _, zU HB.out⟩
 ·replace c4 := Bool.eq_false_iff.mpr c4; subst c4; have H1 : (some (([] : List Int), 84)) = some (r1, r2) := by rw [if_neg (show ¬ (false = true) by decide)] at H; exact H
  clear H; have H := H1; clear H1; simp only [Option.some.injEq, Prod.mk.injEq] at H; obtain ⟨rfl, rfl⟩ := H; go_enter Tryz.func7, Tryz.ntmps7
  go_wp2_with (first | ((with_reducible refine Bd (N := 2) rfl ?_); refine Bb ?hg (N := 2) ?hd (cs := #[.slice A0_0 l0_0.length c0_0]) (t := 24) ?hr ?_; (case hd => rfl); (case hg => rfl); (case hr => first | (go_simp; done) | (go_simp; rfl)); intro gb428 hg w17 hbox hb; have BK428 := zk (hbox); have GE428 := zk ((zg hg HB.out : w.heap.size ≤ gb428)); replace HB := zs HB hb;  clear hb hbox hg; have hcz18_0 : w17.cell? ⟨gb428, 0, none⟩ = some (.slice A0_0 l0_0.length c0_0) := zh BK428.out 0; have hfz18_0 := Ac BK428.out 0) | ((with_reducible refine Al (f := 17) rfl ?_); refine Bz (some 9) rfl rfl Tryz.func17 zz rfl #[.agg #[.slice A0_0 l0_0.length c0_0]] rfl zM ?_; (with_reducible refine (Az.calls k _ _ l0_0 false _ ?side1 ?side2 A3.out).mono ?_); (case side1 => exact zc (Kd.C_below HR0_0.out HB.out)); (case side2 => exact HC0_0.out); rintro e w19 ⟨rfl, hb⟩; refine ⟨_, rfl, ?_⟩; replace BK428 := zk (zbb BK428.out hb); replace HB := zs HB hb;  (try clear hb); (try clear hb2); (try clear hk); (try clear hi)))
  go_ret2
  exact ⟨_, ze, by first | exact Kd.R_nil _ _ _ _ _ | exact Kd.N_nil _ _ _ _ _ | exact Kd.V_nil _ _ _ _ _ | exact Kd.Q_nil _ _ _ _ _ | exact Kd.S_nil _ _ _ _ _, zU HB.out⟩
theorem Nk (w : World) (p : Nat → Bool) (m : Nat) (h : m < 256) : Sem.run Tryz.prog (Instr.index 92 (.agg (Em p)) (.int .i64 (m : Int))) w = .ok (.bool (p m)) w := by
 have h1 : (0 : Int) ≤ (m : Int) ∧ (m : Int) < ((256 : Nat) : Int) := by omega
 have he : sizeOf 4 = sizeOf 4 := rfl; simp [Instr.index, asIntOf, run_underlying hu92, h1]; rw [if_pos h]; have h4 : Tryz.prog.underlying 4 = some .bool := by kernel_rfl
 have hg := Jk p m h; simp [part, isAgg, run_underlying h4, hg]
def hasB (b : Bool) (l : List S58) (x : Int) : Bool := hasP (Ej b l) x
theorem R3Has.calls (k : Nat) (A0 : Option Addr) (c0 : Nat) (l0 : List S58) (x : Int) (b : Bool) (w : World) (hr0 : Kd.C k58 w A0 l0.length l0) (hc0 : l0.length ≤ c0) (h : Bc.f k l0 = some b) (hok : b = true → ∀ r ∈ l0, Hh r = true) (hsm : l0.length ≤ 8796093022207) :
 Calls Tryz.prog 74 #[.slice A0 l0.length c0, .int .i64 x] w fun e w' => e = .returned (.bool (hasB b l0 x)) ∧ Below w.heap.size w w' := by
 have hMem := R3Members.calls k A0 c0 l0 b w hr0 hc0 h hok hsm; clear hr0 hc0 h hok; change Calls Tryz.prog 65 _ w (fun e w' => e = .returned (.agg (Em (Ej b l0))) ∧ _) at hMem
 unfold hasB hasP; generalize Ej b l0 = p at hMem ⊢; by_cases c : 0 ≤ x
 ·by_cases d : x ≤ 255
  ·rw [if_pos c, if_pos d]; obtain ⟨m, rfl⟩ := Int.eq_ofNat_of_zero_le c; have cb : decide (0 ≤ (m : Int)) = true := decide_eq_true c; have db : decide ((m : Int) ≤ 255) = true := decide_eq_true d; have p2 : (0 ≤ (m : Int)) = True := eq_true (by omega); have q2 : ((m : Int) < 256) = True := eq_true (by omega); have hm : m < 256 := by omega
   clear c d; go_enter Tryz.func74, Tryz.ntmps74
   go_wp2_with (go_at_call 65; refine hMem.mono ?_; rintro e w1 ⟨rfl, hb⟩; clear hMem; have HB2 := zk hb; clear hb)
   rw [Nk _ _ _ (by omega)]; go_wp2
   go_ret
   exact ⟨by simp, HB2.out⟩
  ·rw [if_pos c, if_neg d]; have cb : decide (0 ≤ x) = true := decide_eq_true c; have db : decide (x ≤ 255) = false := decide_eq_false d; clear c d; go_enter Tryz.func74, Tryz.ntmps74
   go_wp2
   go_ret
   exact ⟨by simp, by repeat (first | exact Below.refl _ _ | apply Cx)⟩
 ·rw [if_neg c]; have cb : decide (0 ≤ x) = false := decide_eq_false c; clear c; go_enter Tryz.func74, Tryz.ntmps74
  go_wp2
  go_ret
  exact ⟨by simp, by repeat (first | exact Below.refl _ _ | apply Cx)⟩
theorem R3Rank.calls (k : Nat) (A0 : Option Addr) (c0 : Nat) (l0 : List S58) (x : Int) (b : Bool) (w : World) (hr0 : Kd.C k58 w A0 l0.length l0) (hc0 : l0.length ≤ c0) (h : Bc.f k l0 = some b) (hok : b = true → ∀ r ∈ l0, Hh r = true) (hsm : l0.length ≤ 8796093022207) :
 Calls Tryz.prog 57 #[.slice A0 l0.length c0, .int .i64 x] w fun e w' => e = .returned (.tuple #[.int .i64 (if hasB b l0 x = true then (cntB (Ej b l0) x.toNat : Int) else 0), .bool (hasB b l0 x)]) ∧ Below w.heap.size w w' := by
 have hHas := R3Has.calls k A0 c0 l0 x b w hr0 hc0 h hok hsm; have hMem := fun (w1 : World) (hB : Below w.heap.size w w1) => R3Members.calls k A0 c0 l0 b w1 (Kd.C_below hr0 hB) hc0 h hok hsm
 clear hr0 hc0 h hok; change ∀ w1, Below w.heap.size w w1 → Calls Tryz.prog 65 _ w1 (fun e w' => e = .returned (.agg (Em (Ej b l0))) ∧ _) at hMem
 have hrange : hasB b l0 x = true → 0 ≤ x ∧ x ≤ 255 := fun hh => by
  unfold hasB hasP at hh; by_cases c : 0 ≤ x
  ·by_cases d : x ≤ 255
   ·exact ⟨c, d⟩
   ·rw [if_pos c, if_neg d] at hh; cases hh
  ·rw [if_neg c] at hh; cases hh
 have hle := Lf (Ej b l0) x.toNat; generalize Ej b l0 = p at hMem hle ⊢; generalize hasB b l0 x = q at hHas hrange ⊢; cases q with
 | false =>
  clear hMem; go_enter Tryz.func57, Tryz.ntmps57
  go_wp2_with (go_at_call 74; refine hHas.mono ?_; rintro e w1 ⟨rfl, hb⟩; clear hHas; have HB2 := zk hb; clear hb)
  go_ret2
  exact ⟨by simp, HB2.out⟩
 | true =>
  obtain ⟨x0, x1⟩ := hrange rfl; obtain ⟨m, rfl⟩ := Int.eq_ofNat_of_zero_le x0; have M_ := zk (show m ≤ 255 by omega); clear x0 x1 hrange hle; go_enter Tryz.func57, Tryz.ntmps57
  go_wp2_with (first | (go_at_call 74; refine hHas.mono ?_; rintro e w1 ⟨rfl, hb⟩; clear hHas; have HB2 := zk hb; clear hb) | (go_at_call 65; refine (hMem _ HB2.out).mono ?_; rintro e w2 ⟨rfl, hb⟩; clear hMem; have HB3 := zk (Dz HB2.out hb); clear hb HB2))
  rw [Ij w2 p]; have D := zk (Fl w2 (.cells (Em p) 92)); have HB4 := zk (Ct HB3.out (.cells (Em p) 92)); clear HB3; generalize w2.heap.size = g at D ⊢; generalize w2.alloc (.cells (Em p) 92) = w3 at D HB4 ⊢; go_wp2
  go_loopg [7, 8] 257 (fun kq v7 v8 w' => ∃ n : Nat, v7 = .int .i64 (cntB p n : Nat) ∧ v8 = .int .i64 (n : Int) ∧ Aa (n + kq = 257) ∧ Aa (n ≤ m) ∧ Aa (w'.heap[g]? = some (.cells (Em p) 92 (0, 0))) ∧ Aa (Below w.heap.size w w'))
  case atStart => exact ⟨0, rfl, rfl, ⟨by omega⟩, ⟨by omega⟩, D, HB4⟩
  case round =>
   obtain ⟨n, rfl, rfl, HN, HN2, C, HB'⟩ := hrel; have hcl := Lf p n
   cases gk with
   | zero => exact absurd HN.out (by have := HN2.out; have := M_.out; omega)
   | succ k1 =>
   by_cases c : n < m
   ·have cb : decide ((n : Int) < (m : Int)) = true := decide_eq_true (by omega); have cb2 : decide (n < m) = true := decide_eq_true c; have p2 : (0 ≤ (n : Int)) = True := eq_true (by omega); have q2 : ((n : Int) < 256) = True := eq_true (by have := M_.out; omega); have c_ := zk c; have hcl_ := zk hcl; have hc := Ag C.out n; rw [Jk _ _ (by have := M_.out; omega)] at hc; clear c hcl; cases hpn : p n with
    | true =>
     rw [hpn] at hc; go_wp2
     have hcl := hcl_.out; have hN := HN.out; have c := c_.out; have hM := M_.out; go_roundg k1
     case measure => omega
     case rel => exact ⟨n + 1, by simp only [cntB, hpn, if_true]; rw [w64' (by omega) (by omega)]; simp, by rw [w64' (by omega) (by omega)]; simp, ⟨by omega⟩, ⟨by omega⟩, C, HB'⟩
    | false =>
     rw [hpn] at hc; go_wp2
     have hcl := hcl_.out; have hN := HN.out; have c := c_.out; have hM := M_.out; go_roundg k1
     case measure => omega
     case rel => exact ⟨n + 1, by simp only [cntB, hpn, Bool.false_eq_true, if_false, Nat.add_zero], by rw [w64' (by omega) (by omega)]; simp, ⟨by omega⟩, ⟨by omega⟩, C, HB'⟩
   ·have cb : decide ((n : Int) < (m : Int)) = false := decide_eq_false (by omega); have cb2 : decide (n < m) = false := decide_eq_false c; have hn := zk (show n = m by have := HN2.out; omega); clear c hcl; go_wp2
    go_ret2
    have hn := hn.out; subst hn; exact ⟨by simp, HB'.out⟩
def Dx.f (k : Nat) (l0 : List (S58)) (a1 : Int) : Option (Int × Bool) := (Ey k l0).bind fun p => some ((if hasP p a1 = true then (cntB p a1.toNat : Int) else 0), hasP p a1)
theorem Dx.calls (k : Nat) (A0 : Option Addr) (c0 : Nat) (l0 : List (S58)) (a1 : Int) (r1 : Int) (r2 : Bool) (w : World) (hr0 : Kd.C k58 w A0 l0.length l0) (hc0 : l0.length ≤ c0) (h : Dx.f k l0 a1 = some (r1, r2)) :
 Calls Tryz.prog 57 #[.slice A0 l0.length c0, .int .i64 a1] w fun e w' => e = .returned (.tuple #[.int .i64 r1, .bool r2]) ∧ Below w.heap.size w w' := by
 obtain ⟨p, h1, h2⟩ := Option.bind_eq_some_iff.mp h; obtain ⟨b, hv, rfl, hok, hsm⟩ := Mr h1; have hh := R3Rank.calls k A0 c0 l0 a1 b w hr0 hc0 hv hok hsm; obtain ⟨rfl, rfl⟩ := Prod.mk.inj (Option.some.inj h2); exact hh
end Go.Proofs.I
