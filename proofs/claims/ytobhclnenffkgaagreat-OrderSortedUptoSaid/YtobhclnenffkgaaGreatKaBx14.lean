/- Words and walks of this claim, of the text Bx14. -/
import Derived.Test.YtobhclnenffkgaaGreatKaQW0
import Derived.Test.YtobhclnenffkgaaGreatKaBx0
import Derived.Test.YtobhclnenffkgaaGreatKaBx12
namespace Go.Proofs.YtobhclnenffkgaaGreat.B
open Go.RowKit Go.Proofs.YtobhclnenffkgaaGreatW.PrintWords Go.Proofs.YtobhclnenffkgaaGreatW.PrintLast Go.Proofs.YtobhclnenffkgaaGreatW.PrintMore
set_option maxHeartbeats 8000000
set_option maxRecDepth 100000
attribute [local go_sem] max2_int min2_int max_two min_two max_three min_three max_four min_four
set_option linter.unusedVariables false
set_option linter.unusedSimpArgs false
def leadtrailref10_Find.l0 : Nat → Int → Int → List (S48) → Option (Int)
 | 0, _, _, _ => none
 | k + 1, x1, x5, x415000 => if x5 < (x415000.length : Int) then (if 0 ≤ x5 then (if x1 ≥ ((rd_T48 x415000 x5).f1) then ((leadtrailref08_Count.f k ((rd_T48 x415000 x5).f0) ((rd_T48 x415000 x5).f1)).bind fun t418 => (if x1 ≤ (wrap64 ((wrap64 (((rd_T48 x415000 x5).f1) + t418)) - 1)) then (some x5) else (leadtrailref10_Find.l0 k x1 (wrap64 (x5 + 1)) x415000))) else (leadtrailref10_Find.l0 k x1 (wrap64 (x5 + 1)) x415000)) else (none)) else (some (-1))
def leadtrailref10_Find.f (k : Nat) (l0_0 : List (S48)) (a1 : Int) : Option (Int) := leadtrailref10_Find.l0 k a1 0 l0_0
def leadtrailref10_Find.T4 : Bool × List (List Nat × List Nat) := (true, [([], []), ([], []), ([1], [1]), ([], []), ([2, 3], [2, 3]), ([4], [4]), ([5], [5]), ([0, 6], [0, 6]), ([7], [7]), ([8], [8]), ([8], [8]), ([10, 8], [8, 10]), ([8], [8]), ([11, 12, 8], [8, 11, 12]), ([13, 8], [8, 13]), ([14, 8], [8, 14]), ([8], [8]), ([16, 8], [8, 16]), ([8], [8]), ([17, 18, 8], [8, 17, 18]), ([19, 8], [8, 19]), ([20, 8, 8], [8, 20]), ([15, 21, 8], [8, 15, 21]), ([22, 8], [8, 22]), ([9, 23, 8], [8, 9, 23]), ([8, 24], [8, 24])])
def leadtrailref10_Find.B4 : List Nat := [0, 0, 2, 0, 14, 30, 62, 127, 255, 511, 511, 1535, 511, 7679, 15871, 32255, 511, 66047, 511, 459263, 983551, 2032127, 4193791, 8388095, 16777215, 33554431]
theorem leadtrailref10_Find.tab4 : rtab .any (opsOf Tryz.f25 4) = leadtrailref10_Find.T4 := by kernel_rfl
theorem leadtrailref10_Find.bits4 : waitsOk leadtrailref10_Find.T4.2 leadtrailref10_Find.B4 = true := by kernel_rfl
theorem leadtrailref10_Find.calls (k : Nat) (A0_0 : Option Addr) (c0_0 : Nat) (l0_0 : List (S48)) (a1 : Int) (r : Int) (w : World) (hr0_0 : Kd.C k48 w A0_0 l0_0.length l0_0) (hc0_0 : l0_0.length ≤ c0_0) (h : leadtrailref10_Find.f k l0_0 a1 = some r) :
 Calls Tryz.prog 25 #[.agg #[.slice A0_0 l0_0.length c0_0], .int .i64 a1] w fun e w' => e = .returned (.int .i64 r) ∧ Below w.heap.size w w' := by
 have hu24 := Tryz.underlying24; have hu48 := Tryz.underlying48; have HR0_0 := zk hr0_0; have HC0_0 := zk hc0_0; clear hr0_0 hc0_0; have HB := zk (Below.refl w.heap.size w); have H : (leadtrailref10_Find.l0 k a1 0 l0_0) = some r := h; clear h; have H' := zk H; clear H; go_enter Tryz.func25, Tryz.ntmps25
 go_wp2_with (first | ((with_reducible refine gate_dst (N := 2) rfl ?_); refine box_event ?hg (N := 2) ?hd (cs := #[.slice A0_0 l0_0.length c0_0]) (t := 24) ?hr ?_; (case hd => rfl); (case hg => rfl); (case hr => first | (go_simp; done) | (go_simp; rfl)); intro gb414 hg w3 hbox hb; have BK414 := zk (hbox); have GE414 := zk ((zg hg HB.out : w.heap.size ≤ gb414)); replace HB := zs HB hb;  clear hb hbox hg))
 go_loopg [5] k (fun kq v5 w' => ∃ (x5_1 : Int), v5 = .int .i64 x5_1 ∧ Aside0 (leadtrailref10_Find.l0 kq a1 x5_1 l0_0 = some r) ∧ Aside0 (kq ≤ k) ∧ Aside0 (w'.heap[gb414]? = some (.cells #[(.slice A0_0 l0_0.length c0_0)] 24 (0, 0))) ∧ Aside0 (Below w.heap.size w w'))
 case atStart => exact ⟨(0), zR, H', ⟨Nat.le_refl _⟩, ⟨zb BK414.out⟩, ⟨zU HB.out⟩⟩
 case round =>
  clear H'; (try clear c2); (try clear p2); obtain ⟨x5_1, rfl, HA, HK1, BK414, HB⟩ := hrel
  cases gk with
  | zero => exact absurd HA.out (by simp [leadtrailref10_Find.l0])
  | succ k1 =>
   have H := HA.out; clear HA; simp only [leadtrailref10_Find.l0] at H; by_cases c4 : x5_1 < (l0_0.length : Int)
   ·rw [if_pos c4] at H; have c4b0 : decide (x5_1 < (l0_0.length : Int)) = true := decide_eq_true c4; clear c4; by_cases c5 : 0 ≤ x5_1
    ·rw [if_pos c5] at H; have c5b0 : decide (0 ≤ x5_1) = true := decide_eq_true c5; clear c5; by_cases c6 : a1 ≥ ((rd_T48 l0_0 x5_1).f1)
     ·rw [if_pos c6] at H; have c6b0 : decide (((rd_T48 l0_0 x5_1).f1) ≤ a1) = true := decide_eq_true c6; clear c6; replace H := Option.bind_eq_some_iff.mp H; obtain ⟨t418, A70, H⟩ := H; replace H : (if a1 ≤ (wrap64 ((wrap64 (((rd_T48 l0_0 x5_1).f1) + t418)) - 1)) then (some x5_1) else (leadtrailref10_Find.l0 k1 a1 (wrap64 (x5_1 + 1)) l0_0)) = some r := H; have A7 := zk A70; clear A70; by_cases c8 : a1 ≤ (wrap64 ((wrap64 (((rd_T48 l0_0 x5_1).f1) + t418)) - 1))
      ·rw [if_pos c8] at H; have c8b0 : decide (a1 ≤ (wrap64 ((wrap64 (((rd_T48 l0_0 x5_1).f1) + t418)) - 1))) = true := decide_eq_true c8; clear c8; obtain rfl := Option.some.inj H; have hcz9_0 : wr.cell? ⟨gb414, 0, none⟩ = some (.slice A0_0 l0_0.length c0_0) := zh BK414.out 0; have hfz9_0 := blk_frozen BK414.out 0; try go_wp2
       have n0_ := zk (blk_drew BK414.out); have n1_ := zk (below_drew1 HB.out); clear BK414; clear HB; have BK414 := n0_; have HB := n1_; clear n0_ n1_; have p415 : 0 ≤ (x5_1 : Int) := zT; have q415 : x5_1 < (l0_0.length : Int) := zT; obtain ⟨ad415, A415_0, c415_0, e415, hx415_0, hx415_1, hl415_0, hi415_0⟩ := at_T48 HR0_0.out x5_1 p415 q415; have hw415_1 := hx415_1; have hw415_0 := hx415_0; cases e415; replace hx415_0 := zcl HB.out hx415_0; replace hx415_1 := zcl HB.out hx415_1; have HR415_0 := zk hi415_0; have HC415_0 := zk hl415_0; clear hi415_0 hl415_0; replace p415 := eq_true p415; replace q415 := eq_true q415; have p416 : 0 ≤ (x5_1 : Int) := zT; have q416 : x5_1 < (l0_0.length : Int) := zT; obtain ⟨ad416, A416_0, c416_0, e416, hx416_0, hx416_1, hl416_0, hi416_0⟩ := at_T48 HR0_0.out x5_1 p416 q416; have hw416_1 := hx416_1; have hw416_0 := hx416_0; obtain rfl : ad415 = ad416 := (by injection e416); replace hx416_0 := zcl HB.out hx416_0; replace hx416_1 := zcl HB.out hx416_1; have HR416_0 := zk hi416_0; have HC416_0 := zk hl416_0; clear hi416_0 hl416_0; replace p416 := eq_true p416; replace q416 := eq_true q416; have ea_ := Option.some.inj (hx415_0.symm.trans hx416_0); injection ea_ with ea_ en_ ec_
       subst ea_; subst ec_; clear en_; have p417 : 0 ≤ (x5_1 : Int) := zT; have q417 : x5_1 < (l0_0.length : Int) := zT; obtain ⟨ad417, A417_0, c417_0, e417, hx417_0, hx417_1, hl417_0, hi417_0⟩ := at_T48 HR0_0.out x5_1 p417 q417; have hw417_1 := hx417_1; have hw417_0 := hx417_0; obtain rfl : ad415 = ad417 := (by injection e417); replace hx417_0 := zcl HB.out hx417_0; replace hx417_1 := zcl HB.out hx417_1; have HR417_0 := zk hi417_0; have HC417_0 := zk hl417_0; clear hi417_0 hl417_0; replace p417 := eq_true p417; replace q417 := eq_true q417; have ea_ := Option.some.inj (hx415_0.symm.trans hx417_0); injection ea_ with ea_ en_ ec_
       subst ea_; subst ec_; clear en_; refine start_ (n := 26) (S := fun w' => w'.cell? ⟨gb414, 0, none⟩ = some (.slice (some ad415) l0_0.length c0_0) ∧ w'.cell? (ad415.add ((x5_1).toNat * 2)) = some (.slice A415_0 ((rd_T48 l0_0 x5_1).f0).length c415_0) ∧ w'.cell? ⟨(ad415.add ((x5_1).toNat * 2)).block, (ad415.add ((x5_1).toNat * 2)).off + 1, none⟩ = some (.int .i64 ((rd_T48 l0_0 x5_1).f1)) ∧ w'.cell? (ad415.add ((x5_1).toNat * 2)) = some (.slice A415_0 ((rd_T48 l0_0 x5_1).f0).length c415_0) ∧ w'.cell? ⟨(ad415.add ((x5_1).toNat * 2)).block, (ad415.add ((x5_1).toNat * 2)).off + 1, none⟩ = some (.int .i64 ((rd_T48 l0_0 x5_1).f1)) ∧ w'.cell? (ad415.add ((x5_1).toNat * 2)) = some (.slice A415_0 ((rd_T48 l0_0 x5_1).f0).length c415_0) ∧ w'.cell? ⟨(ad415.add ((x5_1).toNat * 2)).block, (ad415.add ((x5_1).toNat * 2)).off + 1, none⟩ = some (.int .i64 ((rd_T48 l0_0 x5_1).f1))) (ds := []) #[false, false, false, false, false, false, false, false, false, false, false, false, false, false, false, false, false, false, false, false, false, false, false, false, false, false] zz rfl rfl ⟨(blk_cell BK414.out 0).trans rfl, (zcl HB.out hw415_0), (zcl HB.out hw415_1), (zcl HB.out hw416_0), (zcl HB.out hw416_1), (zcl HB.out hw417_0), (zcl HB.out hw417_1)⟩ (fun hHeld => ?_); refine with_tabW leadtrailref10_Find.tab4 leadtrailref10_Find.bits4 (fun HT_ HW_ => ?_); generalize wr.drew = w10 at BK414 HB HR415_0 HR416_0 HR417_0 hx415_0 hx415_1 hx416_0 hx416_1 hx417_0 hx417_1 hHeld ⊢; refine zp 0 (some 13) (v := ?_) (a' := ?_) (bz 26 1) rfl rfl HT_.out zz zQ ?_ ?_ ?_; rotate_left
       ·intro w'; go_simp; with_reducible rfl
       rotate_left
       ·simp only [zy]; rfl
       refine zp 1 (some 14) (v := ?_) (a' := ?_) (bz 26 3) rfl rfl HT_.out zz zQ ?_ ?_ ?_; rotate_left
       ·intro w'; go_simp; with_reducible rfl
       rotate_left
       ·simp only [zy]; rfl
       refine zp 3 (some 16) (v := ?_) (a' := ?_) (bz 26 11) rfl rfl HT_.out zz zQ ?_ ?_ ?_; rotate_left
       ·intro w'; go_simp; with_reducible rfl
       rotate_left
       ·simp only [zy]; rfl
       refine take_ (i := 2) (N := some 15) (v := ?_) (a' := ?_) (bz 26 15) rfl rfl (take_ofW HT_.out HW_.out zz) zQ (Or.inl ⟨by rfl, ?_⟩) hHeld ?_ ?_; rotate_left
       ·rintro w' ⟨s0, s1, s2, s3, s4, s5, s6⟩; go_simp; with_reducible rfl
       rotate_left
       ·simp only [zy]; rfl
       refine zp 4 (some 17) (v := ?_) (a' := ?_) (bz 26 31) rfl rfl HT_.out zz zQ ?_ ?_ ?_; rotate_left
       ·intro w'; go_simp; with_reducible rfl
       rotate_left
       ·simp only [zy]; rfl
       refine zp 5 (some 18) (v := ?_) (a' := ?_) (bz 26 63) rfl rfl HT_.out zz zQ ?_ ?_ ?_; rotate_left
       ·intro w'; go_simp; with_reducible rfl
       rotate_left
       ·simp only [zy]; rfl
       refine take_ (i := 6) (N := some 19) (v := ?_) (a' := ?_) (bz 26 127) rfl rfl (take_ofW HT_.out HW_.out zz) zQ (Or.inl ⟨by rfl, ?_⟩) hHeld ?_ ?_; rotate_left
       ·rintro w' ⟨s0, s1, s2, s3, s4, s5, s6⟩; go_simp; with_reducible rfl
       rotate_left
       ·simp only [zy]; rfl
       refine zp 7 (some 20) (v := ?_) (a' := ?_) (bz 26 255) rfl rfl HT_.out zz zQ ?_ ?_ ?_; rotate_left
       ·intro w'; go_simp; with_reducible rfl
       rotate_left
       ·simp only [zy]; rfl
       refine zp 8 (some 21) (v := ?_) (a' := ?_) (bz 26 511) rfl rfl HT_.out zz zQ ?_ ?_ ?_; rotate_left
       ·intro w'; go_simp; with_reducible rfl
       rotate_left
       ·simp only [zy]; rfl
       refine zp 9 (some 22) (v := ?_) (a' := ?_) (bz 26 1023) rfl rfl HT_.out zz zQ ?_ ?_ ?_; rotate_left
       ·intro w'; go_simp; with_reducible rfl
       rotate_left
       ·simp only [zy]; rfl
       refine zp 10 (some 23) (v := ?_) (a' := ?_) (bz 26 2047) rfl rfl HT_.out zz zQ ?_ ?_ ?_; rotate_left
       ·intro w'; go_simp; with_reducible rfl
       rotate_left
       ·simp only [zy]; rfl
       refine zp 12 (some 25) (v := ?_) (a' := ?_) (bz 26 6143) rfl rfl HT_.out zz zQ ?_ ?_ ?_; rotate_left
       ·intro w'; go_simp; with_reducible rfl
       rotate_left
       ·simp only [zy]; rfl
       refine zp 16 (some 29) (v := ?_) (a' := ?_) (bz 26 71679) rfl rfl HT_.out zz zQ ?_ ?_ ?_; rotate_left
       ·intro w'; go_simp; with_reducible rfl
       rotate_left
       ·simp only [zy]; rfl
       refine zp 18 (some 31) (v := ?_) (a' := ?_) (bz 26 333823) rfl rfl HT_.out zz zQ ?_ ?_ ?_; rotate_left
       ·intro w'; go_simp; with_reducible rfl
       rotate_left
       ·simp only [zy]; rfl
       refine take_ (i := 11) (N := some 24) (v := ?_) (a' := ?_) (bz 26 335871) rfl rfl (take_ofW HT_.out HW_.out zz) zQ (Or.inl ⟨by rfl, ?_⟩) hHeld ?_ ?_; rotate_left
       ·rintro w' ⟨s0, s1, s2, s3, s4, s5, s6⟩; go_simp; with_reducible rfl
       rotate_left
       ·simp only [zy]; rfl
       refine zp 13 (some 26) (v := ?_) (a' := ?_) (bz 26 344063) rfl rfl HT_.out zz zQ ?_ ?_ ?_; rotate_left
       ·intro w'; go_simp; with_reducible rfl
       rotate_left
       ·simp only [zy]; rfl
       refine zp 14 (some 27) (v := ?_) (a' := ?_) (bz 26 360447) rfl rfl HT_.out zz zQ ?_ ?_ ?_; rotate_left
       ·intro w'; go_simp; with_reducible rfl
       rotate_left
       ·simp only [zy]; rfl
       refine take_ (i := 15) (N := some 28) (v := ?_) (a' := ?_) (bz 26 393215) rfl rfl (take_ofW HT_.out HW_.out zz) zQ (Or.inl ⟨by rfl, ?_⟩) hHeld ?_ ?_; rotate_left
       ·rintro w' ⟨s0, s1, s2, s3, s4, s5, s6⟩; go_simp; with_reducible rfl
       rotate_left
       ·simp only [zy]; rfl
       refine take_ (i := 17) (N := some 30) (v := ?_) (a' := ?_) (bz 26 524287) rfl rfl (take_ofW HT_.out HW_.out zz) zQ (Or.inl ⟨by rfl, ?_⟩) hHeld ?_ ?_; rotate_left
       ·rintro w' ⟨s0, s1, s2, s3, s4, s5, s6⟩; go_simp; with_reducible rfl
       rotate_left
       ·simp only [zy]; rfl
       refine zp 19 (some 32) (v := ?_) (a' := ?_) (bz 26 1048575) rfl rfl HT_.out zz zQ ?_ ?_ ?_; rotate_left
       ·intro w'; go_simp; with_reducible rfl
       rotate_left
       ·simp only [zy]; rfl
       refine take_ (i := 20) (N := some 33) (v := ?_) (a' := ?_) (bz 26 2097151) rfl rfl (take_ofW HT_.out HW_.out zz) zQ (Or.inl ⟨by rfl, ?_⟩) hHeld ?_ ?_; rotate_left
       ·rintro w' ⟨s0, s1, s2, s3, s4, s5, s6⟩; go_simp; with_reducible rfl
       rotate_left
       ·simp only [zy]; rfl
       refine one_ (i := 21) (N := some 34) (bz 26 4194303) rfl rfl (one_of HT_.out zz) (by decide) (fun K hK => ?_); refine goes_ Tryz.func24 zz rfl #[.agg #[.slice A415_0 ((rd_T48 l0_0 x5_1).f0).length c415_0, .int .i64 ((rd_T48 l0_0 x5_1).f1)]] (by rfl) rfl rfl zM ?_; with_reducible refine (leadtrailref08_Count.calls k1 _ _ ((rd_T48 l0_0 x5_1).f0) ((rd_T48 l0_0 x5_1).f1) t418 _ ?side1 ?side2 A7.out).mono ?_; (case side1 => exact zc (Kd.C_below HR417_0.out HB.out))
       (case side2 => exact HC417_0.out)
       rintro e w11 ⟨rfl, hb⟩; refine ⟨_, rfl, ?_⟩; have n0_ := zk (zbb BK414.out hb); have n1_ := zs HB hb; clear BK414; clear HB; have BK414 := n0_; have HB := n1_; clear n0_ n1_; (try clear hb); (try clear hb2); (try clear hk); (try clear hi); refine hK.out _ _ ⟨(blk_cell BK414.out 0).trans rfl, (zcl HB.out hw415_0), (zcl HB.out hw415_1), (zcl HB.out hw416_0), (zcl HB.out hw416_1), (zcl HB.out hw417_0), (zcl HB.out hw417_1)⟩ (fun hHeld => ?_); clear hK K; refine norm_ (a' := ?_) ?_ ?_; rotate_left
       ·show Act.put _ (some 34) _ = _; simp only [zy]; rfl
       refine zp 22 (some 35) (v := ?_) (a' := ?_) (bz 26 8388607) rfl rfl HT_.out zz zQ ?_ ?_ ?_; rotate_left
       ·intro w'; go_simp; with_reducible rfl
       rotate_left
       ·simp only [zy]; rfl
       refine zp 23 (some 36) (v := ?_) (a' := ?_) (bz 26 16777215) rfl rfl HT_.out zz zQ ?_ ?_ ?_; rotate_left
       ·intro w'; go_simp; with_reducible rfl
       rotate_left
       ·simp only [zy]; rfl
       refine zp 24 (some 37) (v := ?_) (a' := ?_) (bz 26 33554431) rfl rfl HT_.out zz zQ ?_ ?_ ?_; rotate_left
       ·intro w'; go_simp; with_reducible rfl
       rotate_left
       ·simp only [zy]; rfl
       refine zp 25 (some 38) (v := ?_) (a' := ?_) (bz 26 67108863) rfl rfl HT_.out zz zQ ?_ ?_ ?_; rotate_left
       ·intro w'; go_simp; with_reducible rfl
       rotate_left
       ·simp only [zy]; rfl
       refine done_ (done_of HT_.out zz) ?_; try go_wp2
       go_ret
       exact ⟨ze, zU HB.out⟩
      ·rw [if_neg c8] at H; have c8b0 : decide (a1 ≤ (wrap64 ((wrap64 (((rd_T48 l0_0 x5_1).f1) + t418)) - 1))) = false := decide_eq_false c8; clear c8; have H' := zk H; clear H; have hcz12_0 : wr.cell? ⟨gb414, 0, none⟩ = some (.slice A0_0 l0_0.length c0_0) := zh BK414.out 0; have hfz12_0 := blk_frozen BK414.out 0; try go_wp2
       have n0_ := zk (blk_drew BK414.out); have n1_ := zk (below_drew1 HB.out); clear BK414; clear HB; have BK414 := n0_; have HB := n1_; clear n0_ n1_; have p415 : 0 ≤ (x5_1 : Int) := zT; have q415 : x5_1 < (l0_0.length : Int) := zT; obtain ⟨ad415, A415_0, c415_0, e415, hx415_0, hx415_1, hl415_0, hi415_0⟩ := at_T48 HR0_0.out x5_1 p415 q415; have hw415_1 := hx415_1; have hw415_0 := hx415_0; cases e415; replace hx415_0 := zcl HB.out hx415_0; replace hx415_1 := zcl HB.out hx415_1; have HR415_0 := zk hi415_0; have HC415_0 := zk hl415_0; clear hi415_0 hl415_0; replace p415 := eq_true p415; replace q415 := eq_true q415; have p416 : 0 ≤ (x5_1 : Int) := zT; have q416 : x5_1 < (l0_0.length : Int) := zT; obtain ⟨ad416, A416_0, c416_0, e416, hx416_0, hx416_1, hl416_0, hi416_0⟩ := at_T48 HR0_0.out x5_1 p416 q416; have hw416_1 := hx416_1; have hw416_0 := hx416_0; obtain rfl : ad415 = ad416 := (by injection e416); replace hx416_0 := zcl HB.out hx416_0; replace hx416_1 := zcl HB.out hx416_1; have HR416_0 := zk hi416_0; have HC416_0 := zk hl416_0; clear hi416_0 hl416_0; replace p416 := eq_true p416; replace q416 := eq_true q416; have ea_ := Option.some.inj (hx415_0.symm.trans hx416_0); injection ea_ with ea_ en_ ec_
       subst ea_; subst ec_; clear en_; have p417 : 0 ≤ (x5_1 : Int) := zT; have q417 : x5_1 < (l0_0.length : Int) := zT; obtain ⟨ad417, A417_0, c417_0, e417, hx417_0, hx417_1, hl417_0, hi417_0⟩ := at_T48 HR0_0.out x5_1 p417 q417; have hw417_1 := hx417_1; have hw417_0 := hx417_0; obtain rfl : ad415 = ad417 := (by injection e417); replace hx417_0 := zcl HB.out hx417_0; replace hx417_1 := zcl HB.out hx417_1; have HR417_0 := zk hi417_0; have HC417_0 := zk hl417_0; clear hi417_0 hl417_0; replace p417 := eq_true p417; replace q417 := eq_true q417; have ea_ := Option.some.inj (hx415_0.symm.trans hx417_0); injection ea_ with ea_ en_ ec_
       subst ea_; subst ec_; clear en_; refine start_ (n := 26) (S := fun w' => w'.cell? ⟨gb414, 0, none⟩ = some (.slice (some ad415) l0_0.length c0_0) ∧ w'.cell? (ad415.add ((x5_1).toNat * 2)) = some (.slice A415_0 ((rd_T48 l0_0 x5_1).f0).length c415_0) ∧ w'.cell? ⟨(ad415.add ((x5_1).toNat * 2)).block, (ad415.add ((x5_1).toNat * 2)).off + 1, none⟩ = some (.int .i64 ((rd_T48 l0_0 x5_1).f1)) ∧ w'.cell? (ad415.add ((x5_1).toNat * 2)) = some (.slice A415_0 ((rd_T48 l0_0 x5_1).f0).length c415_0) ∧ w'.cell? ⟨(ad415.add ((x5_1).toNat * 2)).block, (ad415.add ((x5_1).toNat * 2)).off + 1, none⟩ = some (.int .i64 ((rd_T48 l0_0 x5_1).f1)) ∧ w'.cell? (ad415.add ((x5_1).toNat * 2)) = some (.slice A415_0 ((rd_T48 l0_0 x5_1).f0).length c415_0) ∧ w'.cell? ⟨(ad415.add ((x5_1).toNat * 2)).block, (ad415.add ((x5_1).toNat * 2)).off + 1, none⟩ = some (.int .i64 ((rd_T48 l0_0 x5_1).f1))) (ds := []) #[false, false, false, false, false, false, false, false, false, false, false, false, false, false, false, false, false, false, false, false, false, false, false, false, false, false] zz rfl rfl ⟨(blk_cell BK414.out 0).trans rfl, (zcl HB.out hw415_0), (zcl HB.out hw415_1), (zcl HB.out hw416_0), (zcl HB.out hw416_1), (zcl HB.out hw417_0), (zcl HB.out hw417_1)⟩ (fun hHeld => ?_); refine with_tabW leadtrailref10_Find.tab4 leadtrailref10_Find.bits4 (fun HT_ HW_ => ?_); generalize wr.drew = w13 at BK414 HB HR415_0 HR416_0 HR417_0 hx415_0 hx415_1 hx416_0 hx416_1 hx417_0 hx417_1 hHeld ⊢; refine zp 0 (some 13) (v := ?_) (a' := ?_) (bz 26 1) rfl rfl HT_.out zz zQ ?_ ?_ ?_; rotate_left
       ·intro w'; go_simp; with_reducible rfl
       rotate_left
       ·simp only [zy]; rfl
       refine zp 1 (some 14) (v := ?_) (a' := ?_) (bz 26 3) rfl rfl HT_.out zz zQ ?_ ?_ ?_; rotate_left
       ·intro w'; go_simp; with_reducible rfl
       rotate_left
       ·simp only [zy]; rfl
       refine zp 3 (some 16) (v := ?_) (a' := ?_) (bz 26 11) rfl rfl HT_.out zz zQ ?_ ?_ ?_; rotate_left
       ·intro w'; go_simp; with_reducible rfl
       rotate_left
       ·simp only [zy]; rfl
       refine take_ (i := 2) (N := some 15) (v := ?_) (a' := ?_) (bz 26 15) rfl rfl (take_ofW HT_.out HW_.out zz) zQ (Or.inl ⟨by rfl, ?_⟩) hHeld ?_ ?_; rotate_left
       ·rintro w' ⟨s0, s1, s2, s3, s4, s5, s6⟩; go_simp; with_reducible rfl
       rotate_left
       ·simp only [zy]; rfl
       refine zp 4 (some 17) (v := ?_) (a' := ?_) (bz 26 31) rfl rfl HT_.out zz zQ ?_ ?_ ?_; rotate_left
       ·intro w'; go_simp; with_reducible rfl
       rotate_left
       ·simp only [zy]; rfl
       refine zp 5 (some 18) (v := ?_) (a' := ?_) (bz 26 63) rfl rfl HT_.out zz zQ ?_ ?_ ?_; rotate_left
       ·intro w'; go_simp; with_reducible rfl
       rotate_left
       ·simp only [zy]; rfl
       refine take_ (i := 6) (N := some 19) (v := ?_) (a' := ?_) (bz 26 127) rfl rfl (take_ofW HT_.out HW_.out zz) zQ (Or.inl ⟨by rfl, ?_⟩) hHeld ?_ ?_; rotate_left
       ·rintro w' ⟨s0, s1, s2, s3, s4, s5, s6⟩; go_simp; with_reducible rfl
       rotate_left
       ·simp only [zy]; rfl
       refine zp 7 (some 20) (v := ?_) (a' := ?_) (bz 26 255) rfl rfl HT_.out zz zQ ?_ ?_ ?_; rotate_left
       ·intro w'; go_simp; with_reducible rfl
       rotate_left
       ·simp only [zy]; rfl
       refine zp 8 (some 21) (v := ?_) (a' := ?_) (bz 26 511) rfl rfl HT_.out zz zQ ?_ ?_ ?_; rotate_left
       ·intro w'; go_simp; with_reducible rfl
       rotate_left
       ·simp only [zy]; rfl
       refine zp 9 (some 22) (v := ?_) (a' := ?_) (bz 26 1023) rfl rfl HT_.out zz zQ ?_ ?_ ?_; rotate_left
       ·intro w'; go_simp; with_reducible rfl
       rotate_left
       ·simp only [zy]; rfl
       refine zp 10 (some 23) (v := ?_) (a' := ?_) (bz 26 2047) rfl rfl HT_.out zz zQ ?_ ?_ ?_; rotate_left
       ·intro w'; go_simp; with_reducible rfl
       rotate_left
       ·simp only [zy]; rfl
       refine zp 12 (some 25) (v := ?_) (a' := ?_) (bz 26 6143) rfl rfl HT_.out zz zQ ?_ ?_ ?_; rotate_left
       ·intro w'; go_simp; with_reducible rfl
       rotate_left
       ·simp only [zy]; rfl
       refine zp 16 (some 29) (v := ?_) (a' := ?_) (bz 26 71679) rfl rfl HT_.out zz zQ ?_ ?_ ?_; rotate_left
       ·intro w'; go_simp; with_reducible rfl
       rotate_left
       ·simp only [zy]; rfl
       refine zp 18 (some 31) (v := ?_) (a' := ?_) (bz 26 333823) rfl rfl HT_.out zz zQ ?_ ?_ ?_; rotate_left
       ·intro w'; go_simp; with_reducible rfl
       rotate_left
       ·simp only [zy]; rfl
       refine take_ (i := 11) (N := some 24) (v := ?_) (a' := ?_) (bz 26 335871) rfl rfl (take_ofW HT_.out HW_.out zz) zQ (Or.inl ⟨by rfl, ?_⟩) hHeld ?_ ?_; rotate_left
       ·rintro w' ⟨s0, s1, s2, s3, s4, s5, s6⟩; go_simp; with_reducible rfl
       rotate_left
       ·simp only [zy]; rfl
       refine zp 13 (some 26) (v := ?_) (a' := ?_) (bz 26 344063) rfl rfl HT_.out zz zQ ?_ ?_ ?_; rotate_left
       ·intro w'; go_simp; with_reducible rfl
       rotate_left
       ·simp only [zy]; rfl
       refine zp 14 (some 27) (v := ?_) (a' := ?_) (bz 26 360447) rfl rfl HT_.out zz zQ ?_ ?_ ?_; rotate_left
       ·intro w'; go_simp; with_reducible rfl
       rotate_left
       ·simp only [zy]; rfl
       refine take_ (i := 15) (N := some 28) (v := ?_) (a' := ?_) (bz 26 393215) rfl rfl (take_ofW HT_.out HW_.out zz) zQ (Or.inl ⟨by rfl, ?_⟩) hHeld ?_ ?_; rotate_left
       ·rintro w' ⟨s0, s1, s2, s3, s4, s5, s6⟩; go_simp; with_reducible rfl
       rotate_left
       ·simp only [zy]; rfl
       refine take_ (i := 17) (N := some 30) (v := ?_) (a' := ?_) (bz 26 524287) rfl rfl (take_ofW HT_.out HW_.out zz) zQ (Or.inl ⟨by rfl, ?_⟩) hHeld ?_ ?_; rotate_left
       ·rintro w' ⟨s0, s1, s2, s3, s4, s5, s6⟩; go_simp; with_reducible rfl
       rotate_left
       ·simp only [zy]; rfl
       refine zp 19 (some 32) (v := ?_) (a' := ?_) (bz 26 1048575) rfl rfl HT_.out zz zQ ?_ ?_ ?_; rotate_left
       ·intro w'; go_simp; with_reducible rfl
       rotate_left
       ·simp only [zy]; rfl
       refine take_ (i := 20) (N := some 33) (v := ?_) (a' := ?_) (bz 26 2097151) rfl rfl (take_ofW HT_.out HW_.out zz) zQ (Or.inl ⟨by rfl, ?_⟩) hHeld ?_ ?_; rotate_left
       ·rintro w' ⟨s0, s1, s2, s3, s4, s5, s6⟩; go_simp; with_reducible rfl
       rotate_left
       ·simp only [zy]; rfl
       refine one_ (i := 21) (N := some 34) (bz 26 4194303) rfl rfl (one_of HT_.out zz) (by decide) (fun K hK => ?_); refine goes_ Tryz.func24 zz rfl #[.agg #[.slice A415_0 ((rd_T48 l0_0 x5_1).f0).length c415_0, .int .i64 ((rd_T48 l0_0 x5_1).f1)]] (by rfl) rfl rfl zM ?_; with_reducible refine (leadtrailref08_Count.calls k1 _ _ ((rd_T48 l0_0 x5_1).f0) ((rd_T48 l0_0 x5_1).f1) t418 _ ?side1 ?side2 A7.out).mono ?_; (case side1 => exact zc (Kd.C_below HR417_0.out HB.out))
       (case side2 => exact HC417_0.out)
       rintro e w14 ⟨rfl, hb⟩; refine ⟨_, rfl, ?_⟩; have n0_ := zk (zbb BK414.out hb); have n1_ := zs HB hb; clear BK414; clear HB; have BK414 := n0_; have HB := n1_; clear n0_ n1_; (try clear hb); (try clear hb2); (try clear hk); (try clear hi); refine hK.out _ _ ⟨(blk_cell BK414.out 0).trans rfl, (zcl HB.out hw415_0), (zcl HB.out hw415_1), (zcl HB.out hw416_0), (zcl HB.out hw416_1), (zcl HB.out hw417_0), (zcl HB.out hw417_1)⟩ (fun hHeld => ?_); clear hK K; refine norm_ (a' := ?_) ?_ ?_; rotate_left
       ·show Act.put _ (some 34) _ = _; simp only [zy]; rfl
       refine zp 22 (some 35) (v := ?_) (a' := ?_) (bz 26 8388607) rfl rfl HT_.out zz zQ ?_ ?_ ?_; rotate_left
       ·intro w'; go_simp; with_reducible rfl
       rotate_left
       ·simp only [zy]; rfl
       refine zp 23 (some 36) (v := ?_) (a' := ?_) (bz 26 16777215) rfl rfl HT_.out zz zQ ?_ ?_ ?_; rotate_left
       ·intro w'; go_simp; with_reducible rfl
       rotate_left
       ·simp only [zy]; rfl
       refine zp 24 (some 37) (v := ?_) (a' := ?_) (bz 26 33554431) rfl rfl HT_.out zz zQ ?_ ?_ ?_; rotate_left
       ·intro w'; go_simp; with_reducible rfl
       rotate_left
       ·simp only [zy]; rfl
       refine zp 25 (some 38) (v := ?_) (a' := ?_) (bz 26 67108863) rfl rfl HT_.out zz zQ ?_ ?_ ?_; rotate_left
       ·intro w'; go_simp; with_reducible rfl
       rotate_left
       ·simp only [zy]; rfl
       refine done_ (done_of HT_.out zz) ?_; try go_wp2
       go_roundg k1
       case measure => have := HK1.out; omega
       case rel => exact ⟨(wrap64 (x5_1 + 1)), zR, H', ⟨by have := HK1.out; omega⟩, ⟨zb BK414.out⟩, ⟨zU HB.out⟩⟩
     ·rw [if_neg c6] at H; have c6b0 : decide (((rd_T48 l0_0 x5_1).f1) ≤ a1) = false := decide_eq_false c6; clear c6; have H' := zk H; clear H; have hcz15_0 : wr.cell? ⟨gb414, 0, none⟩ = some (.slice A0_0 l0_0.length c0_0) := zh BK414.out 0; have hfz15_0 := blk_frozen BK414.out 0; try go_wp2
      have n0_ := zk (blk_drew BK414.out); have n1_ := zk (below_drew1 HB.out); clear BK414; clear HB; have BK414 := n0_; have HB := n1_; clear n0_ n1_; have p415 : 0 ≤ (x5_1 : Int) := zT; have q415 : x5_1 < (l0_0.length : Int) := zT; obtain ⟨ad415, A415_0, c415_0, e415, hx415_0, hx415_1, hl415_0, hi415_0⟩ := at_T48 HR0_0.out x5_1 p415 q415; have hw415_1 := hx415_1; have hw415_0 := hx415_0; cases e415; replace hx415_0 := zcl HB.out hx415_0; replace hx415_1 := zcl HB.out hx415_1; have HR415_0 := zk hi415_0; have HC415_0 := zk hl415_0; clear hi415_0 hl415_0; replace p415 := eq_true p415; replace q415 := eq_true q415; refine start_ (n := 26) (S := fun w' => w'.cell? ⟨gb414, 0, none⟩ = some (.slice (some ad415) l0_0.length c0_0) ∧ w'.cell? (ad415.add ((x5_1).toNat * 2)) = some (.slice A415_0 ((rd_T48 l0_0 x5_1).f0).length c415_0) ∧ w'.cell? ⟨(ad415.add ((x5_1).toNat * 2)).block, (ad415.add ((x5_1).toNat * 2)).off + 1, none⟩ = some (.int .i64 ((rd_T48 l0_0 x5_1).f1))) (ds := []) #[false, false, false, false, false, false, false, false, false, false, false, false, false, false, false, false, false, false, false, false, false, false, false, false, false, false] zz rfl rfl ⟨(blk_cell BK414.out 0).trans rfl, (zcl HB.out hw415_0), (zcl HB.out hw415_1)⟩ (fun hHeld => ?_); refine with_tabW leadtrailref10_Find.tab4 leadtrailref10_Find.bits4 (fun HT_ HW_ => ?_); generalize wr.drew = w16 at BK414 HB HR415_0 hx415_0 hx415_1 hHeld ⊢; refine zp 0 (some 13) (v := ?_) (a' := ?_) (bz 26 1) rfl rfl HT_.out zz zQ ?_ ?_ ?_; rotate_left
      ·intro w'; go_simp; with_reducible rfl
      rotate_left
      ·simp only [zy]; rfl
      refine zp 1 (some 14) (v := ?_) (a' := ?_) (bz 26 3) rfl rfl HT_.out zz zQ ?_ ?_ ?_; rotate_left
      ·intro w'; go_simp; with_reducible rfl
      rotate_left
      ·simp only [zy]; rfl
      refine zp 3 (some 16) (v := ?_) (a' := ?_) (bz 26 11) rfl rfl HT_.out zz zQ ?_ ?_ ?_; rotate_left
      ·intro w'; go_simp; with_reducible rfl
      rotate_left
      ·simp only [zy]; rfl
      refine take_ (i := 2) (N := some 15) (v := ?_) (a' := ?_) (bz 26 15) rfl rfl (take_ofW HT_.out HW_.out zz) zQ (Or.inl ⟨by rfl, ?_⟩) hHeld ?_ ?_; rotate_left
      ·rintro w' ⟨s0, s1, s2⟩; go_simp; with_reducible rfl
      rotate_left
      ·simp only [zy]; rfl
      refine zp 4 (some 17) (v := ?_) (a' := ?_) (bz 26 31) rfl rfl HT_.out zz zQ ?_ ?_ ?_; rotate_left
      ·intro w'; go_simp; with_reducible rfl
      rotate_left
      ·simp only [zy]; rfl
      refine zp 5 (some 18) (v := ?_) (a' := ?_) (bz 26 63) rfl rfl HT_.out zz zQ ?_ ?_ ?_; rotate_left
      ·intro w'; go_simp; with_reducible rfl
      rotate_left
      ·simp only [zy]; rfl
      refine take_ (i := 6) (N := some 19) (v := ?_) (a' := ?_) (bz 26 127) rfl rfl (take_ofW HT_.out HW_.out zz) zQ (Or.inl ⟨by rfl, ?_⟩) hHeld ?_ ?_; rotate_left
      ·rintro w' ⟨s0, s1, s2⟩; go_simp; with_reducible rfl
      rotate_left
      ·simp only [zy]; rfl
      refine zp 7 (some 20) (v := ?_) (a' := ?_) (bz 26 255) rfl rfl HT_.out zz zQ ?_ ?_ ?_; rotate_left
      ·intro w'; go_simp; with_reducible rfl
      rotate_left
      ·simp only [zy]; rfl
      refine zp 8 (some 21) (v := ?_) (a' := ?_) (bz 26 511) rfl rfl HT_.out zz zQ ?_ ?_ ?_; rotate_left
      ·intro w'; go_simp; with_reducible rfl
      rotate_left
      ·simp only [zy]; rfl
      refine pure_ (i := 9) (N := some 22) (v := undef) (a' := ?_) (bz 26 1023) rfl rfl (any_of HT_.out zz) zQ (Or.inr ⟨by rfl, rfl⟩) ?_ ?_; rotate_left
      ·simp only [zy]; rfl
      refine pure_ (i := 10) (N := some 23) (v := undef) (a' := ?_) (bz 26 2047) rfl rfl (any_of HT_.out zz) zQ (Or.inr ⟨by rfl, rfl⟩) ?_ ?_; rotate_left
      ·simp only [zy]; rfl
      refine pure_ (i := 11) (N := some 24) (v := undef) (a' := ?_) (bz 26 4095) rfl rfl (any_of HT_.out zz) zQ (Or.inr ⟨by rfl, rfl⟩) ?_ ?_; rotate_left
      ·simp only [zy]; rfl
      refine pure_ (i := 12) (N := some 25) (v := undef) (a' := ?_) (bz 26 8191) rfl rfl (any_of HT_.out zz) zQ (Or.inr ⟨by rfl, rfl⟩) ?_ ?_; rotate_left
      ·simp only [zy]; rfl
      refine pure_ (i := 13) (N := some 26) (v := undef) (a' := ?_) (bz 26 16383) rfl rfl (any_of HT_.out zz) zQ (Or.inr ⟨by rfl, rfl⟩) ?_ ?_; rotate_left
      ·simp only [zy]; rfl
      refine pure_ (i := 14) (N := some 27) (v := undef) (a' := ?_) (bz 26 32767) rfl rfl (any_of HT_.out zz) zQ (Or.inr ⟨by rfl, rfl⟩) ?_ ?_; rotate_left
      ·simp only [zy]; rfl
      refine pure_ (i := 15) (N := some 28) (v := undef) (a' := ?_) (bz 26 65535) rfl rfl (any_of HT_.out zz) zQ (Or.inr ⟨by rfl, rfl⟩) ?_ ?_; rotate_left
      ·simp only [zy]; rfl
      refine pure_ (i := 16) (N := some 29) (v := undef) (a' := ?_) (bz 26 131071) rfl rfl (any_of HT_.out zz) zQ (Or.inr ⟨by rfl, rfl⟩) ?_ ?_; rotate_left
      ·simp only [zy]; rfl
      refine pure_ (i := 17) (N := some 30) (v := undef) (a' := ?_) (bz 26 262143) rfl rfl (any_of HT_.out zz) zQ (Or.inr ⟨by rfl, rfl⟩) ?_ ?_; rotate_left
      ·simp only [zy]; rfl
      refine pure_ (i := 18) (N := some 31) (v := undef) (a' := ?_) (bz 26 524287) rfl rfl (any_of HT_.out zz) zQ (Or.inr ⟨by rfl, rfl⟩) ?_ ?_; rotate_left
      ·simp only [zy]; rfl
      refine pure_ (i := 19) (N := some 32) (v := undef) (a' := ?_) (bz 26 1048575) rfl rfl (any_of HT_.out zz) zQ (Or.inr ⟨by rfl, rfl⟩) ?_ ?_; rotate_left
      ·simp only [zy]; rfl
      refine pure_ (i := 20) (N := some 33) (v := undef) (a' := ?_) (bz 26 2097151) rfl rfl (any_of HT_.out zz) zQ (Or.inr ⟨by rfl, rfl⟩) ?_ ?_; rotate_left
      ·simp only [zy]; rfl
      refine pure_ (i := 21) (N := some 34) (v := undef) (a' := ?_) (bz 26 4194303) rfl rfl (any_of HT_.out zz) zQ (Or.inr ⟨by rfl, rfl⟩) ?_ ?_; rotate_left
      ·simp only [zy]; rfl
      refine pure_ (i := 22) (N := some 35) (v := undef) (a' := ?_) (bz 26 8388607) rfl rfl (any_of HT_.out zz) zQ (Or.inr ⟨by rfl, rfl⟩) ?_ ?_; rotate_left
      ·simp only [zy]; rfl
      refine pure_ (i := 23) (N := some 36) (v := undef) (a' := ?_) (bz 26 16777215) rfl rfl (any_of HT_.out zz) zQ (Or.inr ⟨by rfl, rfl⟩) ?_ ?_; rotate_left
      ·simp only [zy]; rfl
      refine pure_ (i := 24) (N := some 37) (v := undef) (a' := ?_) (bz 26 33554431) rfl rfl (any_of HT_.out zz) zQ (Or.inr ⟨by rfl, rfl⟩) ?_ ?_; rotate_left
      ·simp only [zy]; rfl
      refine zp 25 (some 38) (v := ?_) (a' := ?_) (bz 26 67108863) rfl rfl HT_.out zz zQ ?_ ?_ ?_; rotate_left
      ·intro w'; go_simp; with_reducible rfl
      rotate_left
      ·simp only [zy]; rfl
      refine done_ (done_of HT_.out zz) ?_; try go_wp2
      go_roundg k1
      case measure => have := HK1.out; omega
      case rel => exact ⟨(wrap64 (x5_1 + 1)), zR, H', ⟨by have := HK1.out; omega⟩, ⟨zb BK414.out⟩, ⟨zU HB.out⟩⟩
    ·rw [if_neg c5] at H; cases H
   ·rw [if_neg c4] at H; have c4b0 : decide (x5_1 < (l0_0.length : Int)) = false := decide_eq_false c4; clear c4; obtain rfl := Option.some.inj H; have hcz17_0 : wr.cell? ⟨gb414, 0, none⟩ = some (.slice A0_0 l0_0.length c0_0) := zh BK414.out 0; have hfz17_0 := blk_frozen BK414.out 0; go_wp2
    go_ret
    exact ⟨ze, zU HB.out⟩
end Go.Proofs.YtobhclnenffkgaaGreat.B
