/- Words and walks of this claim, of the text Ix20. -/
import Derived.Test.YtoljcfocgaonpaaGreatKaQW0
import Derived.Test.YtoljcfocgaonpaaGreatKaIx0
import Derived.Test.YtoljcfocgaonpaaGreatKaIx12
import Derived.Test.YtoljcfocgaonpaaGreatKaIx14
namespace Go.Proofs.I
open Go.RowKit Go.Proofs.Zw.PrintWords Go.Proofs.Zw.PrintLast Go.Proofs.Zw.PrintMore
set_option maxHeartbeats 8000000
set_option maxRecDepth 100000
attribute [local go_sem] Dw Ec El Es Dd Dj Dr Eb
set_option linter.unusedVariables false
set_option linter.unusedSimpArgs false
def Ae.l0 : Nat → Int → Int → Bool → Int → List (S44) → Option (Int × Bool)
 | 0, _, _, _, _, _ => none
 | k + 1, x1, x6, x7, x8, x475000 => if x8 < (x475000.length : Int) then (if 0 ≤ x8 then ((Am.f k ((Ad x475000 x8).f0) ((Ad x475000 x8).f1)).bind fun t478 => (if (mx x1 ((Ad x475000 x8).f1)) ≤ (wrap64 ((wrap64 (((Ad x475000 x8).f1) + t478)) - 1)) then (if x7 = true then (if (mx x1 ((Ad x475000 x8).f1)) < x6 then (Ae.l0 k x1 (mx x1 ((Ad x475000 x8).f1)) true (wrap64 (x8 + 1)) x475000) else (Ae.l0 k x1 x6 x7 (wrap64 (x8 + 1)) x475000)) else (Ae.l0 k x1 (mx x1 ((Ad x475000 x8).f1)) true (wrap64 (x8 + 1)) x475000)) else (Ae.l0 k x1 x6 x7 (wrap64 (x8 + 1)) x475000))) else (none)) else (some (x6, x7))
def Ae.f (k : Nat) (l0_0 : List (S44)) (a1 : Int) : Option (Int × Bool) := (Az.f k l0_0).bind fun t475 => (if t475 = true then (Ae.l0 k a1 0 false 0 l0_0) else (some (0, false)))
def Ae.T9 : Bool × List (List Nat × List Nat) := (true, [([], []), ([], []), ([1], [1]), ([], []), ([3], [3]), ([2, 4], [2, 4]), ([5], [5]), ([0, 6], [0, 6]), ([7, 4], [7]), ([8], [8]), ([9, 8], [8, 9]), ([10, 8, 8], [8, 10]), ([11], [11]), ([11], [11]), ([12, 13, 11], [11, 12, 13]), ([11, 14, 8], [8, 11, 14]), ([8, 15], [8, 15])])
def Ae.B9 : List Nat := [0, 0, 2, 0, 8, 30, 62, 127, 255, 511, 1023, 2047, 4095, 4095, 16383, 32767, 65535]
theorem Ae.tab9 : rtab .any (Jp Tryz.f11 9) = Ae.T9 := by kernel_rfl
theorem Ae.bits9 : Ff Ae.T9.2 Ae.B9 = true := by kernel_rfl
theorem Ae.calls (k : Nat) (A0_0 : Option Addr) (c0_0 : Nat) (l0_0 : List (S44)) (a1 : Int) (r1 : Int) (r2 : Bool) (w : World) (hr0_0 : Kd.C k44 w A0_0 l0_0.length l0_0) (hc0_0 : l0_0.length ≤ c0_0) (h : Ae.f k l0_0 a1 = some (r1, r2)) :
 Calls Tryz.prog 11 #[.agg #[.slice A0_0 l0_0.length c0_0], .int .i64 a1] w fun e w' => e = .returned (.tuple #[.int .i64 r1, .bool r2]) ∧ Below w.heap.size w w' := by
 have hu24 := Tryz.underlying24; have hu44 := Tryz.underlying44; have HR0_0 := zk hr0_0; have HC0_0 := zk hc0_0; clear hr0_0 hc0_0; have HB := zk (Below.refl w.heap.size w); have H : ((Az.f k l0_0).bind fun t475 => (if t475 = true then (Ae.l0 k a1 0 false 0 l0_0) else (some (0, false)))) = some (r1, r2) := h; clear h; replace H := Option.bind_eq_some_iff.mp H; obtain ⟨t475, A30, H⟩ := H; replace H : (if t475 = true then (Ae.l0 k a1 0 false 0 l0_0) else (some (0, false))) = some (r1, r2) := H; have A3 := zk A30; clear A30; by_cases c4 : t475 = true
 ·subst c4; have H1 : (Ae.l0 k a1 0 false 0 l0_0) = some (r1, r2) := by rw [if_pos rfl] at H; exact H
  clear H; have H := H1; clear H1; have H' := zk H; clear H; go_enter Tryz.func11, Tryz.ntmps11
  go_wp2_with (first | ((with_reducible refine Bd (N := 2) rfl ?_); refine Bb ?hg (N := 2) ?hd (cs := #[.slice A0_0 l0_0.length c0_0]) (t := 24) ?hr ?_; (case hd => rfl); (case hg => rfl); (case hr => first | (go_simp; done) | (go_simp; rfl)); intro gb474 hg w5 hbox hb; have BK474 := zk (hbox); have GE474 := zk ((zg hg HB.out : w.heap.size ≤ gb474)); replace HB := zs HB hb;  clear hb hbox hg; have hcz6_0 : w5.cell? ⟨gb474, 0, none⟩ = some (.slice A0_0 l0_0.length c0_0) := zh BK474.out 0; have hfz6_0 := Ac BK474.out 0) | ((with_reducible refine Al (f := 17) rfl ?_); refine Bz (some 12) rfl rfl Tryz.func17 zz rfl #[.agg #[.slice A0_0 l0_0.length c0_0]] rfl zM ?_; (with_reducible refine (Az.calls k _ _ l0_0 true _ ?side1 ?side2 A3.out).mono ?_); (case side1 => exact zc (Kd.C_below HR0_0.out HB.out)); (case side2 => exact HC0_0.out); rintro e w7 ⟨rfl, hb⟩; refine ⟨_, rfl, ?_⟩; replace BK474 := zk (zbb BK474.out hb); replace HB := zs HB hb;  (try clear hb); (try clear hb2); (try clear hk); (try clear hi)))
  go_loopg [6, 7, 8] k (fun kq v6 v7 v8 w' => ∃ (x6_1 : Int) (x7_1 : Bool) (x8_1 : Int), v6 = .int .i64 x6_1 ∧ v7 = .bool x7_1 ∧ v8 = .int .i64 x8_1 ∧ Aa (Ae.l0 kq a1 x6_1 x7_1 x8_1 l0_0 = some (r1, r2)) ∧ Aa (kq ≤ k) ∧ Aa (w'.heap[gb474]? = some (.cells #[(.slice A0_0 l0_0.length c0_0)] 24 (0, 0))) ∧ Aa (Below w.heap.size w w'))
  case atStart => exact ⟨(0), (false), (0), zR, zR, zR, H', ⟨Nat.le_refl _⟩, ⟨zb BK474.out⟩, ⟨zU HB.out⟩⟩
  case round =>
   clear H'; (try clear c1); (try clear p2); (try clear c4); (try clear hcz6_0); (try clear hfz6_0); obtain ⟨x6_1, x7_1, x8_1, rfl, rfl, rfl, HA, HK1, BK474, HB⟩ := hrel
   cases gk with
   | zero => exact absurd HA.out (by simp [Ae.l0])
   | succ k1 =>
    have H := HA.out; clear HA; simp only [Ae.l0] at H; by_cases c8 : x8_1 < (l0_0.length : Int)
    ·rw [if_pos c8] at H; have c8b0 : decide (x8_1 < (l0_0.length : Int)) = true := decide_eq_true c8; clear c8; by_cases c9 : 0 ≤ x8_1
     ·rw [if_pos c9] at H; have c9b0 : decide (0 ≤ x8_1) = true := decide_eq_true c9; clear c9; obtain ⟨ji10, hji10⟩ : ∃ j_ : Int, (mx a1 ((Ad l0_0 x8_1).f1)) = j_ := ⟨_, rfl⟩
      replace H : ((Am.f k1 ((Ad l0_0 x8_1).f0) ((Ad l0_0 x8_1).f1)).bind fun t478 => (if (ji10) ≤ (wrap64 ((wrap64 (((Ad l0_0 x8_1).f1) + t478)) - 1)) then (if x7_1 = true then (if (ji10) < x6_1 then (Ae.l0 k1 a1 ji10 true (wrap64 (x8_1 + 1)) l0_0) else (Ae.l0 k1 a1 x6_1 x7_1 (wrap64 (x8_1 + 1)) l0_0)) else (Ae.l0 k1 a1 ji10 true (wrap64 (x8_1 + 1)) l0_0)) else (Ae.l0 k1 a1 x6_1 x7_1 (wrap64 (x8_1 + 1)) l0_0))) = some (r1, r2) := by first | (rw [hji10] at H; exact H) | (simp only [hji10] at H ⊢; exact H)
      have hji10_ : (if a1 < ((Ad l0_0 x8_1).f1) then ((Ad l0_0 x8_1).f1) else a1) = ji10 := hji10; replace H := Option.bind_eq_some_iff.mp H; obtain ⟨t478, A110, H⟩ := H; replace H : (if (ji10) ≤ (wrap64 ((wrap64 (((Ad l0_0 x8_1).f1) + t478)) - 1)) then (if x7_1 = true then (if (ji10) < x6_1 then (Ae.l0 k1 a1 ji10 true (wrap64 (x8_1 + 1)) l0_0) else (Ae.l0 k1 a1 x6_1 x7_1 (wrap64 (x8_1 + 1)) l0_0)) else (Ae.l0 k1 a1 ji10 true (wrap64 (x8_1 + 1)) l0_0)) else (Ae.l0 k1 a1 x6_1 x7_1 (wrap64 (x8_1 + 1)) l0_0)) = some (r1, r2) := H; have A11 := zk A110; clear A110; by_cases c12 : (ji10) ≤ (wrap64 ((wrap64 (((Ad l0_0 x8_1).f1) + t478)) - 1))
      ·rw [if_pos c12] at H; have c12b0 : decide ((ji10) ≤ (wrap64 ((wrap64 (((Ad l0_0 x8_1).f1) + t478)) - 1))) = true := decide_eq_true c12; clear c12; by_cases c13 : x7_1 = true
       ·subst c13; have H1 : (if (ji10) < x6_1 then (Ae.l0 k1 a1 ji10 true (wrap64 (x8_1 + 1)) l0_0) else (Ae.l0 k1 a1 x6_1 true (wrap64 (x8_1 + 1)) l0_0)) = some (r1, r2) := by rw [if_pos rfl] at H; exact H
        clear H; have H := H1; clear H1; by_cases c14 : (ji10) < x6_1
        ·rw [if_pos c14] at H; have c14b0 : decide ((ji10) < x6_1) = true := decide_eq_true c14; clear c14; have H' := zk H; clear H; have hcz15_0 : wr.cell? ⟨gb474, 0, none⟩ = some (.slice A0_0 l0_0.length c0_0) := zh BK474.out 0; have hfz15_0 := Ac BK474.out 0; have p476 : 0 ≤ (x8_1 : Int) := zT; have q476 : x8_1 < (l0_0.length : Int) := zT; obtain ⟨ad476, A476_0, c476_0, e476, hx476_0, hx476_1, hl476_0, hi476_0⟩ := Cz HR0_0.out x8_1 p476 q476; cases e476; replace hx476_0 := zcl HB.out hx476_0; replace hx476_1 := zcl HB.out hx476_1; have HR476_0 := zk hi476_0; have HC476_0 := zk hl476_0; clear hi476_0 hl476_0; replace p476 := eq_true p476; replace q476 := eq_true q476; try go_wp2_with (first | ((with_reducible refine Bd (N := 9) rfl ?_); refine Bb ?hg (N := 9) ?hd (cs := #[.slice none 0 0, .int .i64 0]) (t := 44) ?hr ?_; (case hd => rfl); (case hg => rfl); (case hr => first | (go_simp; done) | (go_simp; rfl)); intro gb477 hg w16 hbox hb; have BK477 := zk (hbox); have GE477 := zk ((zg hg HB.out : w.heap.size ≤ gb477)); replace HB := zs HB hb; have NB474_477 := zk ((zlt hg BK474.out : gb474 ≠ gb477)); have NB477_474 := zk ((zgt hg BK474.out : gb477 ≠ gb474)); replace BK474 := zk (zbb BK474.out hb);  clear hb hbox hg; have hnb17 := NB477_474.out; have hnc17 := NB474_477.out; have hcz18_0 : w16.cell? ⟨gb477, 0, none⟩ = some (.slice none 0 0) := zh BK477.out 0; have hcz18_1 : w16.cell? ⟨gb477, 1, none⟩ = some (.int .i64 0) := zh BK477.out 1; have hfz18_0 := Ac BK477.out 0; have hfz18_1 := Ac BK477.out 1))
         have n0_ : Aa (((w16.setCell ⟨gb477, 0, none⟩ (.slice A476_0 ((Ad l0_0 x8_1).f0).length c476_0)).setCell ⟨gb477, 1, none⟩ (.int .i64 ((Ad l0_0 x8_1).f1))).heap[gb474]? = some (.cells #[.slice (some ad476) l0_0.length c0_0] 24 (0, 0))) := ⟨zb BK474.out⟩; have n1_ : Aa (((w16.setCell ⟨gb477, 0, none⟩ (.slice A476_0 ((Ad l0_0 x8_1).f0).length c476_0)).setCell ⟨gb477, 1, none⟩ (.int .i64 ((Ad l0_0 x8_1).f1))).heap[gb477]? = some (.cells #[.slice A476_0 ((Ad l0_0 x8_1).f0).length c476_0, .int .i64 ((Ad l0_0 x8_1).f1)] 44 (0, 0))) := ⟨by (with_reducible repeat (first | refine Bj ?_ _ | refine Ay ?_ | refine Be ?_ _)); refine Ca (cs := #[.slice A476_0 ((Ad l0_0 x8_1).f0).length c476_0, .int .i64 0]) ?_ 1 _ rfl; (with_reducible repeat (first | refine Bj ?_ _ | refine Ay ?_ | refine Be ?_ _)); refine Ca (cs := #[.slice none 0 0, .int .i64 0]) ?_ 0 _ rfl; exact zb BK477.out⟩; have n2_ : Aa (Below w.heap.size w ((w16.setCell ⟨gb477, 0, none⟩ (.slice A476_0 ((Ad l0_0 x8_1).f0).length c476_0)).setCell ⟨gb477, 1, none⟩ (.int .i64 ((Ad l0_0 x8_1).f1)))) := ⟨zU HB.out⟩; (try clear BK474); (try clear BK477); (try clear HB); generalize ((w16.setCell ⟨gb477, 0, none⟩ (.slice A476_0 ((Ad l0_0 x8_1).f0).length c476_0)).setCell ⟨gb477, 1, none⟩ (.int .i64 ((Ad l0_0 x8_1).f1))) = w19 at n0_ n1_ n2_ ⊢; have BK474 := n0_; have BK477 := n1_; have HB := n2_; clear n0_ n1_ n2_; have n0_ := zk (Ay BK474.out); have n1_ := zk (Ay BK477.out); have n2_ := zk (Bv HB.out); clear BK474; clear BK477; clear HB; have BK474 := n0_; have BK477 := n1_; have HB := n2_; clear n0_ n1_ n2_; refine Ew (n := 17) (S := fun w' => w'.cell? ⟨gb477, 0, none⟩ = some (.slice A476_0 ((Ad l0_0 x8_1).f0).length c476_0) ∧ w'.cell? ⟨gb477, 1, none⟩ = some (.int .i64 ((Ad l0_0 x8_1).f1))) (ds := []) #[false, false, false, false, false, false, false, false, false, false, false, false, false, false, false, false, false] zz rfl rfl ⟨(Ag BK477.out 0).trans rfl, (Ag BK477.out 1).trans rfl⟩ (fun hHeld => ?_); refine Cy Ae.tab9 Ae.bits9 (fun HT_ HW_ => ?_); generalize w19.drew = w20 at BK474 BK477 HB hHeld ⊢; refine zp 0 (some 30) (v := ?_) (a' := ?_) (bz 17 1) rfl rfl HT_.out zz zQ ?_ ?_ ?_; rotate_left
         ·intro w'; go_simp; with_reducible rfl
         rotate_left
         ·simp only [zy]; rfl
         refine zp 1 (some 31) (v := ?_) (a' := ?_) (bz 17 3) rfl rfl HT_.out zz zQ ?_ ?_ ?_; rotate_left
         ·intro w'; go_simp; with_reducible rfl
         rotate_left
         ·simp only [zy]; rfl
         refine take_ (i := 2) (N := some 32) (v := ?_) (a' := ?_) (bz 17 7) rfl rfl (Bk HT_.out HW_.out zz) zQ (Or.inl ⟨by rfl, ?_⟩) hHeld ?_ ?_; rotate_left
         ·rintro w' ⟨s0, s1⟩; go_simp; with_reducible rfl
         rotate_left
         ·simp only [zy]; rfl
         refine take_ (i := 3) (N := some 33) (v := ?_) (a' := ?_) (bz 17 15) rfl rfl (Bk HT_.out HW_.out zz) zQ (Or.inl ⟨by rfl, ?_⟩) hHeld ?_ ?_; rotate_left
         ·rintro w' ⟨s0, s1⟩; go_simp; with_reducible rfl
         rotate_left
         ·simp only [zy]; rfl
         refine one_ (i := 4) (N := some 34) (bz 17 31) rfl rfl (Eh HT_.out zz) (by decide) (fun K hK => ?_); refine Gy Tryz.func22 zz rfl #[.agg #[.slice A476_0 ((Ad l0_0 x8_1).f0).length c476_0, .int .i64 ((Ad l0_0 x8_1).f1)]] (by rfl) rfl rfl zM ?_; with_reducible refine (Am.calls k1 _ _ ((Ad l0_0 x8_1).f0) ((Ad l0_0 x8_1).f1) t478 _ ?side1 ?side2 A11.out).mono ?_; (case side1 => exact zc (Kd.C_below HR476_0.out HB.out))
         (case side2 => exact HC476_0.out)
         rintro e w21 ⟨rfl, hb⟩; refine ⟨_, rfl, ?_⟩; have n0_ := zk (zbb BK474.out hb); have n1_ := zk (zbb BK477.out hb); have n2_ := zs HB hb; clear BK474; clear BK477; clear HB; have BK474 := n0_; have BK477 := n1_; have HB := n2_; clear n0_ n1_ n2_; (try clear hb); (try clear hb2); (try clear hk); (try clear hi); refine hK.out _ _ ⟨(Ag BK477.out 0).trans rfl, (Ag BK477.out 1).trans rfl⟩ (fun hHeld => ?_); clear hK K; refine Fi (a' := ?_) ?_ ?_; rotate_left
         ·show Act.put _ (some 34) _ = _; simp only [zy]; rfl
         refine zp 5 (some 35) (v := ?_) (a' := ?_) (bz 17 63) rfl rfl HT_.out zz zQ ?_ ?_ ?_; rotate_left
         ·intro w'; go_simp; with_reducible rfl
         rotate_left
         ·simp only [zy]; rfl
         refine zp 6 (some 36) (v := ?_) (a' := ?_) (bz 17 127) rfl rfl HT_.out zz zQ ?_ ?_ ?_; rotate_left
         ·intro w'; go_simp; with_reducible rfl
         rotate_left
         ·simp only [zy]; rfl
         refine zp 7 (some 37) (v := ?_) (a' := ?_) (bz 17 255) rfl rfl HT_.out zz zQ ?_ ?_ ?_; rotate_left
         ·intro w'; go_simp; with_reducible rfl
         rotate_left
         ·simp only [zy]; rfl
         refine zp 8 (some 38) (v := ?_) (a' := ?_) (bz 17 511) rfl rfl HT_.out zz zQ ?_ ?_ ?_; rotate_left
         ·intro w'; go_simp; with_reducible rfl
         rotate_left
         ·simp only [zy]; rfl
         refine zp 9 (some 39) (v := ?_) (a' := ?_) (bz 17 1023) rfl rfl HT_.out zz zQ ?_ ?_ ?_; rotate_left
         ·intro w'; go_simp; with_reducible rfl
         rotate_left
         ·simp only [zy]; rfl
         refine zp 10 (some 40) (v := ?_) (a' := ?_) (bz 17 2047) rfl rfl HT_.out zz zQ ?_ ?_ ?_; rotate_left
         ·intro w'; go_simp; with_reducible rfl
         rotate_left
         ·simp only [zy]; rfl
         refine zp 11 (some 41) (v := ?_) (a' := ?_) (bz 17 4095) rfl rfl HT_.out zz zQ ?_ ?_ ?_; rotate_left
         ·intro w'; go_simp; with_reducible rfl
         rotate_left
         ·simp only [zy]; rfl
         refine zp 12 (some 42) (v := ?_) (a' := ?_) (bz 17 8191) rfl rfl HT_.out zz zQ ?_ ?_ ?_; rotate_left
         ·intro w'; go_simp; with_reducible rfl
         rotate_left
         ·simp only [zy]; rfl
         refine zp 13 (some 43) (v := ?_) (a' := ?_) (bz 17 16383) rfl rfl HT_.out zz zQ ?_ ?_ ?_; rotate_left
         ·intro w'; go_simp; with_reducible rfl
         rotate_left
         ·simp only [zy]; rfl
         refine zp 14 (some 44) (v := ?_) (a' := ?_) (bz 17 32767) rfl rfl HT_.out zz zQ ?_ ?_ ?_; rotate_left
         ·intro w'; go_simp; with_reducible rfl
         rotate_left
         ·simp only [zy]; rfl
         refine zp 15 (some 45) (v := ?_) (a' := ?_) (bz 17 65535) rfl rfl HT_.out zz zQ ?_ ?_ ?_; rotate_left
         ·intro w'; go_simp; with_reducible rfl
         rotate_left
         ·simp only [zy]; rfl
         refine zp 16 (some 46) (v := ?_) (a' := ?_) (bz 17 131071) rfl rfl HT_.out zz zQ ?_ ?_ ?_; rotate_left
         ·intro w'; go_simp; with_reducible rfl
         rotate_left
         ·simp only [zy]; rfl
         refine Gg (Ei HT_.out zz) ?_; try go_wp2
         go_roundg k1
         case measure => have := HK1.out; omega
         case rel => exact ⟨(ji10), (true), (wrap64 (x8_1 + 1)), (by first | rfl | (simp; done) | (rw [← hji10_, if_pos (by omega)]; first | done | rfl) | (rw [← hji10_, if_neg (by omega)]; first | done | rfl) | (simp only [← hji10] <;> (first | rfl | simp)) | (simp [*]; done)), zR, zR, H', ⟨by have := HK1.out; omega⟩, ⟨zb BK474.out⟩, ⟨zU HB.out⟩⟩
        ·rw [if_neg c14] at H; have c14b0 : decide ((ji10) < x6_1) = false := decide_eq_false c14; clear c14; have H' := zk H; clear H; have hcz22_0 : wr.cell? ⟨gb474, 0, none⟩ = some (.slice A0_0 l0_0.length c0_0) := zh BK474.out 0; have hfz22_0 := Ac BK474.out 0; have p476 : 0 ≤ (x8_1 : Int) := zT; have q476 : x8_1 < (l0_0.length : Int) := zT; obtain ⟨ad476, A476_0, c476_0, e476, hx476_0, hx476_1, hl476_0, hi476_0⟩ := Cz HR0_0.out x8_1 p476 q476; cases e476; replace hx476_0 := zcl HB.out hx476_0; replace hx476_1 := zcl HB.out hx476_1; have HR476_0 := zk hi476_0; have HC476_0 := zk hl476_0; clear hi476_0 hl476_0; replace p476 := eq_true p476; replace q476 := eq_true q476; try go_wp2_with (first | ((with_reducible refine Bd (N := 9) rfl ?_); refine Bb ?hg (N := 9) ?hd (cs := #[.slice none 0 0, .int .i64 0]) (t := 44) ?hr ?_; (case hd => rfl); (case hg => rfl); (case hr => first | (go_simp; done) | (go_simp; rfl)); intro gb477 hg w23 hbox hb; have BK477 := zk (hbox); have GE477 := zk ((zg hg HB.out : w.heap.size ≤ gb477)); replace HB := zs HB hb; have NB474_477 := zk ((zlt hg BK474.out : gb474 ≠ gb477)); have NB477_474 := zk ((zgt hg BK474.out : gb477 ≠ gb474)); replace BK474 := zk (zbb BK474.out hb);  clear hb hbox hg; have hnb24 := NB477_474.out; have hnc24 := NB474_477.out; have hcz25_0 : w23.cell? ⟨gb477, 0, none⟩ = some (.slice none 0 0) := zh BK477.out 0; have hcz25_1 : w23.cell? ⟨gb477, 1, none⟩ = some (.int .i64 0) := zh BK477.out 1; have hfz25_0 := Ac BK477.out 0; have hfz25_1 := Ac BK477.out 1))
         have n0_ : Aa (((w23.setCell ⟨gb477, 0, none⟩ (.slice A476_0 ((Ad l0_0 x8_1).f0).length c476_0)).setCell ⟨gb477, 1, none⟩ (.int .i64 ((Ad l0_0 x8_1).f1))).heap[gb474]? = some (.cells #[.slice (some ad476) l0_0.length c0_0] 24 (0, 0))) := ⟨zb BK474.out⟩; have n1_ : Aa (((w23.setCell ⟨gb477, 0, none⟩ (.slice A476_0 ((Ad l0_0 x8_1).f0).length c476_0)).setCell ⟨gb477, 1, none⟩ (.int .i64 ((Ad l0_0 x8_1).f1))).heap[gb477]? = some (.cells #[.slice A476_0 ((Ad l0_0 x8_1).f0).length c476_0, .int .i64 ((Ad l0_0 x8_1).f1)] 44 (0, 0))) := ⟨by (with_reducible repeat (first | refine Bj ?_ _ | refine Ay ?_ | refine Be ?_ _)); refine Ca (cs := #[.slice A476_0 ((Ad l0_0 x8_1).f0).length c476_0, .int .i64 0]) ?_ 1 _ rfl; (with_reducible repeat (first | refine Bj ?_ _ | refine Ay ?_ | refine Be ?_ _)); refine Ca (cs := #[.slice none 0 0, .int .i64 0]) ?_ 0 _ rfl; exact zb BK477.out⟩; have n2_ : Aa (Below w.heap.size w ((w23.setCell ⟨gb477, 0, none⟩ (.slice A476_0 ((Ad l0_0 x8_1).f0).length c476_0)).setCell ⟨gb477, 1, none⟩ (.int .i64 ((Ad l0_0 x8_1).f1)))) := ⟨zU HB.out⟩; (try clear BK474); (try clear BK477); (try clear HB); generalize ((w23.setCell ⟨gb477, 0, none⟩ (.slice A476_0 ((Ad l0_0 x8_1).f0).length c476_0)).setCell ⟨gb477, 1, none⟩ (.int .i64 ((Ad l0_0 x8_1).f1))) = w26 at n0_ n1_ n2_ ⊢; have BK474 := n0_; have BK477 := n1_; have HB := n2_; clear n0_ n1_ n2_; have n0_ := zk (Ay BK474.out); have n1_ := zk (Ay BK477.out); have n2_ := zk (Bv HB.out); clear BK474; clear BK477; clear HB; have BK474 := n0_; have BK477 := n1_; have HB := n2_; clear n0_ n1_ n2_; refine Ew (n := 17) (S := fun w' => w'.cell? ⟨gb477, 0, none⟩ = some (.slice A476_0 ((Ad l0_0 x8_1).f0).length c476_0) ∧ w'.cell? ⟨gb477, 1, none⟩ = some (.int .i64 ((Ad l0_0 x8_1).f1))) (ds := []) #[false, false, false, false, false, false, false, false, false, false, false, false, false, false, false, false, false] zz rfl rfl ⟨(Ag BK477.out 0).trans rfl, (Ag BK477.out 1).trans rfl⟩ (fun hHeld => ?_); refine Cy Ae.tab9 Ae.bits9 (fun HT_ HW_ => ?_); generalize w26.drew = w27 at BK474 BK477 HB hHeld ⊢; refine zp 0 (some 30) (v := ?_) (a' := ?_) (bz 17 1) rfl rfl HT_.out zz zQ ?_ ?_ ?_; rotate_left
         ·intro w'; go_simp; with_reducible rfl
         rotate_left
         ·simp only [zy]; rfl
         refine zp 1 (some 31) (v := ?_) (a' := ?_) (bz 17 3) rfl rfl HT_.out zz zQ ?_ ?_ ?_; rotate_left
         ·intro w'; go_simp; with_reducible rfl
         rotate_left
         ·simp only [zy]; rfl
         refine take_ (i := 2) (N := some 32) (v := ?_) (a' := ?_) (bz 17 7) rfl rfl (Bk HT_.out HW_.out zz) zQ (Or.inl ⟨by rfl, ?_⟩) hHeld ?_ ?_; rotate_left
         ·rintro w' ⟨s0, s1⟩; go_simp; with_reducible rfl
         rotate_left
         ·simp only [zy]; rfl
         refine take_ (i := 3) (N := some 33) (v := ?_) (a' := ?_) (bz 17 15) rfl rfl (Bk HT_.out HW_.out zz) zQ (Or.inl ⟨by rfl, ?_⟩) hHeld ?_ ?_; rotate_left
         ·rintro w' ⟨s0, s1⟩; go_simp; with_reducible rfl
         rotate_left
         ·simp only [zy]; rfl
         refine one_ (i := 4) (N := some 34) (bz 17 31) rfl rfl (Eh HT_.out zz) (by decide) (fun K hK => ?_); refine Gy Tryz.func22 zz rfl #[.agg #[.slice A476_0 ((Ad l0_0 x8_1).f0).length c476_0, .int .i64 ((Ad l0_0 x8_1).f1)]] (by rfl) rfl rfl zM ?_; with_reducible refine (Am.calls k1 _ _ ((Ad l0_0 x8_1).f0) ((Ad l0_0 x8_1).f1) t478 _ ?side1 ?side2 A11.out).mono ?_; (case side1 => exact zc (Kd.C_below HR476_0.out HB.out))
         (case side2 => exact HC476_0.out)
         rintro e w28 ⟨rfl, hb⟩; refine ⟨_, rfl, ?_⟩; have n0_ := zk (zbb BK474.out hb); have n1_ := zk (zbb BK477.out hb); have n2_ := zs HB hb; clear BK474; clear BK477; clear HB; have BK474 := n0_; have BK477 := n1_; have HB := n2_; clear n0_ n1_ n2_; (try clear hb); (try clear hb2); (try clear hk); (try clear hi); refine hK.out _ _ ⟨(Ag BK477.out 0).trans rfl, (Ag BK477.out 1).trans rfl⟩ (fun hHeld => ?_); clear hK K; refine Fi (a' := ?_) ?_ ?_; rotate_left
         ·show Act.put _ (some 34) _ = _; simp only [zy]; rfl
         refine zp 5 (some 35) (v := ?_) (a' := ?_) (bz 17 63) rfl rfl HT_.out zz zQ ?_ ?_ ?_; rotate_left
         ·intro w'; go_simp; with_reducible rfl
         rotate_left
         ·simp only [zy]; rfl
         refine zp 6 (some 36) (v := ?_) (a' := ?_) (bz 17 127) rfl rfl HT_.out zz zQ ?_ ?_ ?_; rotate_left
         ·intro w'; go_simp; with_reducible rfl
         rotate_left
         ·simp only [zy]; rfl
         refine zp 7 (some 37) (v := ?_) (a' := ?_) (bz 17 255) rfl rfl HT_.out zz zQ ?_ ?_ ?_; rotate_left
         ·intro w'; go_simp; with_reducible rfl
         rotate_left
         ·simp only [zy]; rfl
         refine zp 8 (some 38) (v := ?_) (a' := ?_) (bz 17 511) rfl rfl HT_.out zz zQ ?_ ?_ ?_; rotate_left
         ·intro w'; go_simp; with_reducible rfl
         rotate_left
         ·simp only [zy]; rfl
         refine zp 9 (some 39) (v := ?_) (a' := ?_) (bz 17 1023) rfl rfl HT_.out zz zQ ?_ ?_ ?_; rotate_left
         ·intro w'; go_simp; with_reducible rfl
         rotate_left
         ·simp only [zy]; rfl
         refine zp 10 (some 40) (v := ?_) (a' := ?_) (bz 17 2047) rfl rfl HT_.out zz zQ ?_ ?_ ?_; rotate_left
         ·intro w'; go_simp; with_reducible rfl
         rotate_left
         ·simp only [zy]; rfl
         refine zp 11 (some 41) (v := ?_) (a' := ?_) (bz 17 4095) rfl rfl HT_.out zz zQ ?_ ?_ ?_; rotate_left
         ·intro w'; go_simp; with_reducible rfl
         rotate_left
         ·simp only [zy]; rfl
         refine zp 12 (some 42) (v := ?_) (a' := ?_) (bz 17 8191) rfl rfl HT_.out zz zQ ?_ ?_ ?_; rotate_left
         ·intro w'; go_simp; with_reducible rfl
         rotate_left
         ·simp only [zy]; rfl
         refine zp 13 (some 43) (v := ?_) (a' := ?_) (bz 17 16383) rfl rfl HT_.out zz zQ ?_ ?_ ?_; rotate_left
         ·intro w'; go_simp; with_reducible rfl
         rotate_left
         ·simp only [zy]; rfl
         refine zp 14 (some 44) (v := ?_) (a' := ?_) (bz 17 32767) rfl rfl HT_.out zz zQ ?_ ?_ ?_; rotate_left
         ·intro w'; go_simp; with_reducible rfl
         rotate_left
         ·simp only [zy]; rfl
         refine zp 15 (some 45) (v := ?_) (a' := ?_) (bz 17 65535) rfl rfl HT_.out zz zQ ?_ ?_ ?_; rotate_left
         ·intro w'; go_simp; with_reducible rfl
         rotate_left
         ·simp only [zy]; rfl
         refine zp 16 (some 46) (v := ?_) (a' := ?_) (bz 17 131071) rfl rfl HT_.out zz zQ ?_ ?_ ?_; rotate_left
         ·intro w'; go_simp; with_reducible rfl
         rotate_left
         ·simp only [zy]; rfl
         refine Gg (Ei HT_.out zz) ?_; try go_wp2
         go_roundg k1
         case measure => have := HK1.out; omega
         case rel => exact ⟨(x6_1), (true), (wrap64 (x8_1 + 1)), zR, zR, zR, H', ⟨by have := HK1.out; omega⟩, ⟨zb BK474.out⟩, ⟨zU HB.out⟩⟩
       ·replace c13 := Bool.eq_false_iff.mpr c13; subst c13; have H1 : (Ae.l0 k1 a1 ji10 true (wrap64 (x8_1 + 1)) l0_0) = some (r1, r2) := by rw [if_neg (show ¬ (false = true) by decide)] at H; exact H
        clear H; have H := H1; clear H1; have H' := zk H; clear H; have hcz29_0 : wr.cell? ⟨gb474, 0, none⟩ = some (.slice A0_0 l0_0.length c0_0) := zh BK474.out 0; have hfz29_0 := Ac BK474.out 0; have p476 : 0 ≤ (x8_1 : Int) := zT; have q476 : x8_1 < (l0_0.length : Int) := zT; obtain ⟨ad476, A476_0, c476_0, e476, hx476_0, hx476_1, hl476_0, hi476_0⟩ := Cz HR0_0.out x8_1 p476 q476; cases e476; replace hx476_0 := zcl HB.out hx476_0; replace hx476_1 := zcl HB.out hx476_1; have HR476_0 := zk hi476_0; have HC476_0 := zk hl476_0; clear hi476_0 hl476_0; replace p476 := eq_true p476; replace q476 := eq_true q476; try go_wp2_with (first | ((with_reducible refine Bd (N := 9) rfl ?_); refine Bb ?hg (N := 9) ?hd (cs := #[.slice none 0 0, .int .i64 0]) (t := 44) ?hr ?_; (case hd => rfl); (case hg => rfl); (case hr => first | (go_simp; done) | (go_simp; rfl)); intro gb477 hg w30 hbox hb; have BK477 := zk (hbox); have GE477 := zk ((zg hg HB.out : w.heap.size ≤ gb477)); replace HB := zs HB hb; have NB474_477 := zk ((zlt hg BK474.out : gb474 ≠ gb477)); have NB477_474 := zk ((zgt hg BK474.out : gb477 ≠ gb474)); replace BK474 := zk (zbb BK474.out hb);  clear hb hbox hg; have hnb31 := NB477_474.out; have hnc31 := NB474_477.out; have hcz32_0 : w30.cell? ⟨gb477, 0, none⟩ = some (.slice none 0 0) := zh BK477.out 0; have hcz32_1 : w30.cell? ⟨gb477, 1, none⟩ = some (.int .i64 0) := zh BK477.out 1; have hfz32_0 := Ac BK477.out 0; have hfz32_1 := Ac BK477.out 1))
        have n0_ : Aa (((w30.setCell ⟨gb477, 0, none⟩ (.slice A476_0 ((Ad l0_0 x8_1).f0).length c476_0)).setCell ⟨gb477, 1, none⟩ (.int .i64 ((Ad l0_0 x8_1).f1))).heap[gb474]? = some (.cells #[.slice (some ad476) l0_0.length c0_0] 24 (0, 0))) := ⟨zb BK474.out⟩; have n1_ : Aa (((w30.setCell ⟨gb477, 0, none⟩ (.slice A476_0 ((Ad l0_0 x8_1).f0).length c476_0)).setCell ⟨gb477, 1, none⟩ (.int .i64 ((Ad l0_0 x8_1).f1))).heap[gb477]? = some (.cells #[.slice A476_0 ((Ad l0_0 x8_1).f0).length c476_0, .int .i64 ((Ad l0_0 x8_1).f1)] 44 (0, 0))) := ⟨by (with_reducible repeat (first | refine Bj ?_ _ | refine Ay ?_ | refine Be ?_ _)); refine Ca (cs := #[.slice A476_0 ((Ad l0_0 x8_1).f0).length c476_0, .int .i64 0]) ?_ 1 _ rfl; (with_reducible repeat (first | refine Bj ?_ _ | refine Ay ?_ | refine Be ?_ _)); refine Ca (cs := #[.slice none 0 0, .int .i64 0]) ?_ 0 _ rfl; exact zb BK477.out⟩; have n2_ : Aa (Below w.heap.size w ((w30.setCell ⟨gb477, 0, none⟩ (.slice A476_0 ((Ad l0_0 x8_1).f0).length c476_0)).setCell ⟨gb477, 1, none⟩ (.int .i64 ((Ad l0_0 x8_1).f1)))) := ⟨zU HB.out⟩; (try clear BK474); (try clear BK477); (try clear HB); generalize ((w30.setCell ⟨gb477, 0, none⟩ (.slice A476_0 ((Ad l0_0 x8_1).f0).length c476_0)).setCell ⟨gb477, 1, none⟩ (.int .i64 ((Ad l0_0 x8_1).f1))) = w33 at n0_ n1_ n2_ ⊢; have BK474 := n0_; have BK477 := n1_; have HB := n2_; clear n0_ n1_ n2_; have n0_ := zk (Ay BK474.out); have n1_ := zk (Ay BK477.out); have n2_ := zk (Bv HB.out); clear BK474; clear BK477; clear HB; have BK474 := n0_; have BK477 := n1_; have HB := n2_; clear n0_ n1_ n2_; refine Ew (n := 17) (S := fun w' => w'.cell? ⟨gb477, 0, none⟩ = some (.slice A476_0 ((Ad l0_0 x8_1).f0).length c476_0) ∧ w'.cell? ⟨gb477, 1, none⟩ = some (.int .i64 ((Ad l0_0 x8_1).f1))) (ds := []) #[false, false, false, false, false, false, false, false, false, false, false, false, false, false, false, false, false] zz rfl rfl ⟨(Ag BK477.out 0).trans rfl, (Ag BK477.out 1).trans rfl⟩ (fun hHeld => ?_); refine Cy Ae.tab9 Ae.bits9 (fun HT_ HW_ => ?_); generalize w33.drew = w34 at BK474 BK477 HB hHeld ⊢; refine zp 0 (some 30) (v := ?_) (a' := ?_) (bz 17 1) rfl rfl HT_.out zz zQ ?_ ?_ ?_; rotate_left
        ·intro w'; go_simp; with_reducible rfl
        rotate_left
        ·simp only [zy]; rfl
        refine zp 1 (some 31) (v := ?_) (a' := ?_) (bz 17 3) rfl rfl HT_.out zz zQ ?_ ?_ ?_; rotate_left
        ·intro w'; go_simp; with_reducible rfl
        rotate_left
        ·simp only [zy]; rfl
        refine take_ (i := 2) (N := some 32) (v := ?_) (a' := ?_) (bz 17 7) rfl rfl (Bk HT_.out HW_.out zz) zQ (Or.inl ⟨by rfl, ?_⟩) hHeld ?_ ?_; rotate_left
        ·rintro w' ⟨s0, s1⟩; go_simp; with_reducible rfl
        rotate_left
        ·simp only [zy]; rfl
        refine take_ (i := 3) (N := some 33) (v := ?_) (a' := ?_) (bz 17 15) rfl rfl (Bk HT_.out HW_.out zz) zQ (Or.inl ⟨by rfl, ?_⟩) hHeld ?_ ?_; rotate_left
        ·rintro w' ⟨s0, s1⟩; go_simp; with_reducible rfl
        rotate_left
        ·simp only [zy]; rfl
        refine one_ (i := 4) (N := some 34) (bz 17 31) rfl rfl (Eh HT_.out zz) (by decide) (fun K hK => ?_); refine Gy Tryz.func22 zz rfl #[.agg #[.slice A476_0 ((Ad l0_0 x8_1).f0).length c476_0, .int .i64 ((Ad l0_0 x8_1).f1)]] (by rfl) rfl rfl zM ?_; with_reducible refine (Am.calls k1 _ _ ((Ad l0_0 x8_1).f0) ((Ad l0_0 x8_1).f1) t478 _ ?side1 ?side2 A11.out).mono ?_; (case side1 => exact zc (Kd.C_below HR476_0.out HB.out))
        (case side2 => exact HC476_0.out)
        rintro e w35 ⟨rfl, hb⟩; refine ⟨_, rfl, ?_⟩; have n0_ := zk (zbb BK474.out hb); have n1_ := zk (zbb BK477.out hb); have n2_ := zs HB hb; clear BK474; clear BK477; clear HB; have BK474 := n0_; have BK477 := n1_; have HB := n2_; clear n0_ n1_ n2_; (try clear hb); (try clear hb2); (try clear hk); (try clear hi); refine hK.out _ _ ⟨(Ag BK477.out 0).trans rfl, (Ag BK477.out 1).trans rfl⟩ (fun hHeld => ?_); clear hK K; refine Fi (a' := ?_) ?_ ?_; rotate_left
        ·show Act.put _ (some 34) _ = _; simp only [zy]; rfl
        refine zp 5 (some 35) (v := ?_) (a' := ?_) (bz 17 63) rfl rfl HT_.out zz zQ ?_ ?_ ?_; rotate_left
        ·intro w'; go_simp; with_reducible rfl
        rotate_left
        ·simp only [zy]; rfl
        refine zp 6 (some 36) (v := ?_) (a' := ?_) (bz 17 127) rfl rfl HT_.out zz zQ ?_ ?_ ?_; rotate_left
        ·intro w'; go_simp; with_reducible rfl
        rotate_left
        ·simp only [zy]; rfl
        refine zp 7 (some 37) (v := ?_) (a' := ?_) (bz 17 255) rfl rfl HT_.out zz zQ ?_ ?_ ?_; rotate_left
        ·intro w'; go_simp; with_reducible rfl
        rotate_left
        ·simp only [zy]; rfl
        refine zp 8 (some 38) (v := ?_) (a' := ?_) (bz 17 511) rfl rfl HT_.out zz zQ ?_ ?_ ?_; rotate_left
        ·intro w'; go_simp; with_reducible rfl
        rotate_left
        ·simp only [zy]; rfl
        refine zp 9 (some 39) (v := ?_) (a' := ?_) (bz 17 1023) rfl rfl HT_.out zz zQ ?_ ?_ ?_; rotate_left
        ·intro w'; go_simp; with_reducible rfl
        rotate_left
        ·simp only [zy]; rfl
        refine zp 10 (some 40) (v := ?_) (a' := ?_) (bz 17 2047) rfl rfl HT_.out zz zQ ?_ ?_ ?_; rotate_left
        ·intro w'; go_simp; with_reducible rfl
        rotate_left
        ·simp only [zy]; rfl
        refine zp 11 (some 41) (v := ?_) (a' := ?_) (bz 17 4095) rfl rfl HT_.out zz zQ ?_ ?_ ?_; rotate_left
        ·intro w'; go_simp; with_reducible rfl
        rotate_left
        ·simp only [zy]; rfl
        refine Dv (i := 12) (N := some 42) (v := undef) (a' := ?_) (bz 17 8191) rfl rfl (Da HT_.out zz) zQ (Or.inr ⟨by rfl, rfl⟩) ?_ ?_; rotate_left
        ·simp only [zy]; rfl
        refine Dv (i := 13) (N := some 43) (v := undef) (a' := ?_) (bz 17 16383) rfl rfl (Da HT_.out zz) zQ (Or.inr ⟨by rfl, rfl⟩) ?_ ?_; rotate_left
        ·simp only [zy]; rfl
        refine Dv (i := 14) (N := some 44) (v := undef) (a' := ?_) (bz 17 32767) rfl rfl (Da HT_.out zz) zQ (Or.inr ⟨by rfl, rfl⟩) ?_ ?_; rotate_left
        ·simp only [zy]; rfl
        refine zp 15 (some 45) (v := ?_) (a' := ?_) (bz 17 65535) rfl rfl HT_.out zz zQ ?_ ?_ ?_; rotate_left
        ·intro w'; go_simp; with_reducible rfl
        rotate_left
        ·simp only [zy]; rfl
        refine zp 16 (some 46) (v := ?_) (a' := ?_) (bz 17 131071) rfl rfl HT_.out zz zQ ?_ ?_ ?_; rotate_left
        ·intro w'; go_simp; with_reducible rfl
        rotate_left
        ·simp only [zy]; rfl
        refine Gg (Ei HT_.out zz) ?_; try go_wp2
        go_roundg k1
        case measure => have := HK1.out; omega
        case rel => exact ⟨(ji10), (true), (wrap64 (x8_1 + 1)), (by first | rfl | (simp; done) | (rw [← hji10_, if_pos (by omega)]; first | done | rfl) | (rw [← hji10_, if_neg (by omega)]; first | done | rfl) | (simp only [← hji10] <;> (first | rfl | simp)) | (simp [*]; done)), zR, zR, H', ⟨by have := HK1.out; omega⟩, ⟨zb BK474.out⟩, ⟨zU HB.out⟩⟩
      ·rw [if_neg c12] at H; have c12b0 : decide ((ji10) ≤ (wrap64 ((wrap64 (((Ad l0_0 x8_1).f1) + t478)) - 1))) = false := decide_eq_false c12; clear c12; have H' := zk H; clear H; have hcz36_0 : wr.cell? ⟨gb474, 0, none⟩ = some (.slice A0_0 l0_0.length c0_0) := zh BK474.out 0; have hfz36_0 := Ac BK474.out 0; have p476 : 0 ≤ (x8_1 : Int) := zT; have q476 : x8_1 < (l0_0.length : Int) := zT; obtain ⟨ad476, A476_0, c476_0, e476, hx476_0, hx476_1, hl476_0, hi476_0⟩ := Cz HR0_0.out x8_1 p476 q476; cases e476; replace hx476_0 := zcl HB.out hx476_0; replace hx476_1 := zcl HB.out hx476_1; have HR476_0 := zk hi476_0; have HC476_0 := zk hl476_0; clear hi476_0 hl476_0; replace p476 := eq_true p476; replace q476 := eq_true q476; try go_wp2_with (first | ((with_reducible refine Bd (N := 9) rfl ?_); refine Bb ?hg (N := 9) ?hd (cs := #[.slice none 0 0, .int .i64 0]) (t := 44) ?hr ?_; (case hd => rfl); (case hg => rfl); (case hr => first | (go_simp; done) | (go_simp; rfl)); intro gb477 hg w37 hbox hb; have BK477 := zk (hbox); have GE477 := zk ((zg hg HB.out : w.heap.size ≤ gb477)); replace HB := zs HB hb; have NB474_477 := zk ((zlt hg BK474.out : gb474 ≠ gb477)); have NB477_474 := zk ((zgt hg BK474.out : gb477 ≠ gb474)); replace BK474 := zk (zbb BK474.out hb);  clear hb hbox hg; have hnb38 := NB477_474.out; have hnc38 := NB474_477.out; have hcz39_0 : w37.cell? ⟨gb477, 0, none⟩ = some (.slice none 0 0) := zh BK477.out 0; have hcz39_1 : w37.cell? ⟨gb477, 1, none⟩ = some (.int .i64 0) := zh BK477.out 1; have hfz39_0 := Ac BK477.out 0; have hfz39_1 := Ac BK477.out 1))
       have n0_ : Aa (((w37.setCell ⟨gb477, 0, none⟩ (.slice A476_0 ((Ad l0_0 x8_1).f0).length c476_0)).setCell ⟨gb477, 1, none⟩ (.int .i64 ((Ad l0_0 x8_1).f1))).heap[gb474]? = some (.cells #[.slice (some ad476) l0_0.length c0_0] 24 (0, 0))) := ⟨zb BK474.out⟩; have n1_ : Aa (((w37.setCell ⟨gb477, 0, none⟩ (.slice A476_0 ((Ad l0_0 x8_1).f0).length c476_0)).setCell ⟨gb477, 1, none⟩ (.int .i64 ((Ad l0_0 x8_1).f1))).heap[gb477]? = some (.cells #[.slice A476_0 ((Ad l0_0 x8_1).f0).length c476_0, .int .i64 ((Ad l0_0 x8_1).f1)] 44 (0, 0))) := ⟨by (with_reducible repeat (first | refine Bj ?_ _ | refine Ay ?_ | refine Be ?_ _)); refine Ca (cs := #[.slice A476_0 ((Ad l0_0 x8_1).f0).length c476_0, .int .i64 0]) ?_ 1 _ rfl; (with_reducible repeat (first | refine Bj ?_ _ | refine Ay ?_ | refine Be ?_ _)); refine Ca (cs := #[.slice none 0 0, .int .i64 0]) ?_ 0 _ rfl; exact zb BK477.out⟩; have n2_ : Aa (Below w.heap.size w ((w37.setCell ⟨gb477, 0, none⟩ (.slice A476_0 ((Ad l0_0 x8_1).f0).length c476_0)).setCell ⟨gb477, 1, none⟩ (.int .i64 ((Ad l0_0 x8_1).f1)))) := ⟨zU HB.out⟩; (try clear BK474); (try clear BK477); (try clear HB); generalize ((w37.setCell ⟨gb477, 0, none⟩ (.slice A476_0 ((Ad l0_0 x8_1).f0).length c476_0)).setCell ⟨gb477, 1, none⟩ (.int .i64 ((Ad l0_0 x8_1).f1))) = w40 at n0_ n1_ n2_ ⊢; have BK474 := n0_; have BK477 := n1_; have HB := n2_; clear n0_ n1_ n2_; have n0_ := zk (Ay BK474.out); have n1_ := zk (Ay BK477.out); have n2_ := zk (Bv HB.out); clear BK474; clear BK477; clear HB; have BK474 := n0_; have BK477 := n1_; have HB := n2_; clear n0_ n1_ n2_; refine Ew (n := 17) (S := fun w' => w'.cell? ⟨gb477, 0, none⟩ = some (.slice A476_0 ((Ad l0_0 x8_1).f0).length c476_0) ∧ w'.cell? ⟨gb477, 1, none⟩ = some (.int .i64 ((Ad l0_0 x8_1).f1))) (ds := []) #[false, false, false, false, false, false, false, false, false, false, false, false, false, false, false, false, false] zz rfl rfl ⟨(Ag BK477.out 0).trans rfl, (Ag BK477.out 1).trans rfl⟩ (fun hHeld => ?_); refine Cy Ae.tab9 Ae.bits9 (fun HT_ HW_ => ?_); generalize w40.drew = w41 at BK474 BK477 HB hHeld ⊢; refine zp 0 (some 30) (v := ?_) (a' := ?_) (bz 17 1) rfl rfl HT_.out zz zQ ?_ ?_ ?_; rotate_left
       ·intro w'; go_simp; with_reducible rfl
       rotate_left
       ·simp only [zy]; rfl
       refine zp 1 (some 31) (v := ?_) (a' := ?_) (bz 17 3) rfl rfl HT_.out zz zQ ?_ ?_ ?_; rotate_left
       ·intro w'; go_simp; with_reducible rfl
       rotate_left
       ·simp only [zy]; rfl
       refine take_ (i := 2) (N := some 32) (v := ?_) (a' := ?_) (bz 17 7) rfl rfl (Bk HT_.out HW_.out zz) zQ (Or.inl ⟨by rfl, ?_⟩) hHeld ?_ ?_; rotate_left
       ·rintro w' ⟨s0, s1⟩; go_simp; with_reducible rfl
       rotate_left
       ·simp only [zy]; rfl
       refine take_ (i := 3) (N := some 33) (v := ?_) (a' := ?_) (bz 17 15) rfl rfl (Bk HT_.out HW_.out zz) zQ (Or.inl ⟨by rfl, ?_⟩) hHeld ?_ ?_; rotate_left
       ·rintro w' ⟨s0, s1⟩; go_simp; with_reducible rfl
       rotate_left
       ·simp only [zy]; rfl
       refine one_ (i := 4) (N := some 34) (bz 17 31) rfl rfl (Eh HT_.out zz) (by decide) (fun K hK => ?_); refine Gy Tryz.func22 zz rfl #[.agg #[.slice A476_0 ((Ad l0_0 x8_1).f0).length c476_0, .int .i64 ((Ad l0_0 x8_1).f1)]] (by rfl) rfl rfl zM ?_; with_reducible refine (Am.calls k1 _ _ ((Ad l0_0 x8_1).f0) ((Ad l0_0 x8_1).f1) t478 _ ?side1 ?side2 A11.out).mono ?_; (case side1 => exact zc (Kd.C_below HR476_0.out HB.out))
       (case side2 => exact HC476_0.out)
       rintro e w42 ⟨rfl, hb⟩; refine ⟨_, rfl, ?_⟩; have n0_ := zk (zbb BK474.out hb); have n1_ := zk (zbb BK477.out hb); have n2_ := zs HB hb; clear BK474; clear BK477; clear HB; have BK474 := n0_; have BK477 := n1_; have HB := n2_; clear n0_ n1_ n2_; (try clear hb); (try clear hb2); (try clear hk); (try clear hi); refine hK.out _ _ ⟨(Ag BK477.out 0).trans rfl, (Ag BK477.out 1).trans rfl⟩ (fun hHeld => ?_); clear hK K; refine Fi (a' := ?_) ?_ ?_; rotate_left
       ·show Act.put _ (some 34) _ = _; simp only [zy]; rfl
       refine zp 5 (some 35) (v := ?_) (a' := ?_) (bz 17 63) rfl rfl HT_.out zz zQ ?_ ?_ ?_; rotate_left
       ·intro w'; go_simp; with_reducible rfl
       rotate_left
       ·simp only [zy]; rfl
       refine zp 6 (some 36) (v := ?_) (a' := ?_) (bz 17 127) rfl rfl HT_.out zz zQ ?_ ?_ ?_; rotate_left
       ·intro w'; go_simp; with_reducible rfl
       rotate_left
       ·simp only [zy]; rfl
       refine zp 7 (some 37) (v := ?_) (a' := ?_) (bz 17 255) rfl rfl HT_.out zz zQ ?_ ?_ ?_; rotate_left
       ·intro w'; go_simp; with_reducible rfl
       rotate_left
       ·simp only [zy]; rfl
       refine zp 8 (some 38) (v := ?_) (a' := ?_) (bz 17 511) rfl rfl HT_.out zz zQ ?_ ?_ ?_; rotate_left
       ·intro w'; go_simp; with_reducible rfl
       rotate_left
       ·simp only [zy]; rfl
       refine Dv (i := 9) (N := some 39) (v := undef) (a' := ?_) (bz 17 1023) rfl rfl (Da HT_.out zz) zQ (Or.inr ⟨by rfl, rfl⟩) ?_ ?_; rotate_left
       ·simp only [zy]; rfl
       refine Dv (i := 10) (N := some 40) (v := undef) (a' := ?_) (bz 17 2047) rfl rfl (Da HT_.out zz) zQ (Or.inr ⟨by rfl, rfl⟩) ?_ ?_; rotate_left
       ·simp only [zy]; rfl
       refine Dv (i := 11) (N := some 41) (v := undef) (a' := ?_) (bz 17 4095) rfl rfl (Da HT_.out zz) zQ (Or.inr ⟨by rfl, rfl⟩) ?_ ?_; rotate_left
       ·simp only [zy]; rfl
       refine Dv (i := 12) (N := some 42) (v := undef) (a' := ?_) (bz 17 8191) rfl rfl (Da HT_.out zz) zQ (Or.inr ⟨by rfl, rfl⟩) ?_ ?_; rotate_left
       ·simp only [zy]; rfl
       refine Dv (i := 13) (N := some 43) (v := undef) (a' := ?_) (bz 17 16383) rfl rfl (Da HT_.out zz) zQ (Or.inr ⟨by rfl, rfl⟩) ?_ ?_; rotate_left
       ·simp only [zy]; rfl
       refine Dv (i := 14) (N := some 44) (v := undef) (a' := ?_) (bz 17 32767) rfl rfl (Da HT_.out zz) zQ (Or.inr ⟨by rfl, rfl⟩) ?_ ?_; rotate_left
       ·simp only [zy]; rfl
       refine Dv (i := 15) (N := some 45) (v := undef) (a' := ?_) (bz 17 65535) rfl rfl (Da HT_.out zz) zQ (Or.inr ⟨by rfl, rfl⟩) ?_ ?_; rotate_left
       ·simp only [zy]; rfl
       refine zp 16 (some 46) (v := ?_) (a' := ?_) (bz 17 131071) rfl rfl HT_.out zz zQ ?_ ?_ ?_; rotate_left
       ·intro w'; go_simp; with_reducible rfl
       rotate_left
       ·simp only [zy]; rfl
       refine Gg (Ei HT_.out zz) ?_; try go_wp2
       go_roundg k1
       case measure => have := HK1.out; omega
       case rel => exact ⟨(x6_1), (x7_1), (wrap64 (x8_1 + 1)), zR, zR, zR, H', ⟨by have := HK1.out; omega⟩, ⟨zb BK474.out⟩, ⟨zU HB.out⟩⟩
     ·rw [if_neg c9] at H; cases H
    ·rw [if_neg c8] at H; have c8b0 : decide (x8_1 < (l0_0.length : Int)) = false := decide_eq_false c8; clear c8; simp only [Option.some.injEq, Prod.mk.injEq] at H; obtain ⟨rfl, rfl⟩ := H; have hcz43_0 : wr.cell? ⟨gb474, 0, none⟩ = some (.slice A0_0 l0_0.length c0_0) := zh BK474.out 0; have hfz43_0 := Ac BK474.out 0; go_wp2
     go_ret2
     exact ⟨ze, zU HB.out⟩
 ·replace c4 := Bool.eq_false_iff.mpr c4; subst c4; have H1 : (some (0, false)) = some (r1, r2) := by rw [if_neg (show ¬ (false = true) by decide)] at H; exact H
  clear H; have H := H1; clear H1; simp only [Option.some.injEq, Prod.mk.injEq] at H; obtain ⟨rfl, rfl⟩ := H; go_enter Tryz.func11, Tryz.ntmps11
  go_wp2_with (first | ((with_reducible refine Bd (N := 2) rfl ?_); refine Bb ?hg (N := 2) ?hd (cs := #[.slice A0_0 l0_0.length c0_0]) (t := 24) ?hr ?_; (case hd => rfl); (case hg => rfl); (case hr => first | (go_simp; done) | (go_simp; rfl)); intro gb474 hg w44 hbox hb; have BK474 := zk (hbox); have GE474 := zk ((zg hg HB.out : w.heap.size ≤ gb474)); replace HB := zs HB hb;  clear hb hbox hg; have hcz45_0 : w44.cell? ⟨gb474, 0, none⟩ = some (.slice A0_0 l0_0.length c0_0) := zh BK474.out 0; have hfz45_0 := Ac BK474.out 0) | ((with_reducible refine Al (f := 17) rfl ?_); refine Bz (some 12) rfl rfl Tryz.func17 zz rfl #[.agg #[.slice A0_0 l0_0.length c0_0]] rfl zM ?_; (with_reducible refine (Az.calls k _ _ l0_0 false _ ?side1 ?side2 A3.out).mono ?_); (case side1 => exact zc (Kd.C_below HR0_0.out HB.out)); (case side2 => exact HC0_0.out); rintro e w46 ⟨rfl, hb⟩; refine ⟨_, rfl, ?_⟩; replace BK474 := zk (zbb BK474.out hb); replace HB := zs HB hb;  (try clear hb); (try clear hb2); (try clear hk); (try clear hi)))
  go_ret2
  exact ⟨ze, zU HB.out⟩
end Go.Proofs.I
