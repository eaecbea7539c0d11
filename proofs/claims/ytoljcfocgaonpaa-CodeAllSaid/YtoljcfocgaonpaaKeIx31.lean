/- Words and walks of this claim, of the text Ix31. -/
import Derived.Test.YtoljcfocgaonpaaKeQW0
import Derived.Test.YtoljcfocgaonpaaKeIx0
import Derived.Test.YtoljcfocgaonpaaKeIx18
namespace Go.Proofs.Ytoljcfocgaonpaa.I
open Go.RowKit Go.Proofs.YtoljcfocgaonpaaW.PrintWords Go.Proofs.YtoljcfocgaonpaaW.PrintLast Go.Proofs.YtoljcfocgaonpaaW.PrintMore
attribute [local go_sem] max2_int min2_int max_two min_two max_three min_three max_four min_four
set_option linter.unusedVariables false
set_option linter.unusedSimpArgs false
def leadtrailref10_Find.l0 : Nat → Int → Int → List (S47) → Option (Int)
 | 0, _, _, _ => none
 | k + 1, x1, x5, x725000 => if x5 < (x725000.length : Int) then (if 0 ≤ x5 then (if x1 ≥ ((rd_T47 x725000 x5).f1) then ((leadtrailref08_Count.f k ((rd_T47 x725000 x5).f0) ((rd_T47 x725000 x5).f1)).bind fun t728 => (if x1 ≤ (wrap64 ((wrap64 (((rd_T47 x725000 x5).f1) + t728)) - 1)) then (some x5) else (leadtrailref10_Find.l0 k x1 (wrap64 (x5 + 1)) x725000))) else (leadtrailref10_Find.l0 k x1 (wrap64 (x5 + 1)) x725000)) else (none)) else (some (-1))
def leadtrailref10_Find.f (k : Nat) (l0_0 : List (S47)) (a1 : Int) : Option (Int) := leadtrailref10_Find.l0 k a1 0 l0_0
def leadtrailref10_Find.T4 : Bool × List (List Nat × List Nat) := (true, [([], []), ([], []), ([1], [1]), ([], []), ([2, 3], [2, 3]), ([4], [4]), ([5], [5]), ([0, 6], [0, 6]), ([7], [7]), ([8], [8]), ([8], [8]), ([10, 8], [8, 10]), ([8], [8]), ([11, 12, 8], [8, 11, 12]), ([13, 8], [8, 13]), ([14, 8], [8, 14]), ([8], [8]), ([16, 8], [8, 16]), ([8], [8]), ([17, 18, 8], [8, 17, 18]), ([19, 8], [8, 19]), ([20, 8, 8], [8, 20]), ([15, 21, 8], [8, 15, 21]), ([22, 8], [8, 22]), ([9, 23, 8], [8, 9, 23]), ([8, 24], [8, 24])])
def leadtrailref10_Find.B4 : List Nat := [0, 0, 2, 0, 14, 30, 62, 127, 255, 511, 511, 1535, 511, 7679, 15871, 32255, 511, 66047, 511, 459263, 983551, 2032127, 4193791, 8388095, 16777215, 33554431]
theorem leadtrailref10_Find.tab4 : rtab .any (opsOf Try.f97 4) = leadtrailref10_Find.T4 := by kernel_rfl
theorem leadtrailref10_Find.bits4 : waitsOk leadtrailref10_Find.T4.2 leadtrailref10_Find.B4 = true := by kernel_rfl
set_option maxHeartbeats 8000000 in
set_option maxRecDepth 100000 in
theorem leadtrailref10_Find.calls (k : Nat) (A0_0 : Option Addr) (c0_0 : Nat) (l0_0 : List (S47)) (a1 : Int) (r : Int) (w : World) (hr0_0 : Kd.C k47 w A0_0 l0_0.length l0_0) (hc0_0 : l0_0.length ≤ c0_0) (h : leadtrailref10_Find.f k l0_0 a1 = some r) :
 Calls Try.prog 97 #[.agg #[.slice A0_0 l0_0.length c0_0], .int .i64 a1] w fun e w' => e = .returned (.int .i64 r) ∧ Below w.heap.size w w' := by
 have hu69 := Try.underlying69; have hu47 := Try.underlying47; have HR0_0 := zk hr0_0; have HC0_0 := zk hc0_0; clear hr0_0 hc0_0; have HB := zk (Below.refl w.heap.size w); have H : (leadtrailref10_Find.l0 k a1 0 l0_0) = some r := h; clear h; have H' := zk H; clear H; go_enter Try.func97, Try.ntmps97
 go_wp2_with (first | ((with_reducible refine gate_dst (N := 2) rfl ?_); refine box_event ?hg (N := 2) ?hd (cs := #[.slice A0_0 l0_0.length c0_0]) (t := 69) ?hr ?_; (case hd => rfl); (case hg => rfl); (case hr => first | (go_simp; done) | (go_simp; rfl)); intro gb724 hg w3 hbox hb; have BK724 := zk (hbox); have GE724 := zk ((zg hg HB.out : w.heap.size ≤ gb724)); replace HB := zk (below_step (zU HB.out) hb);  clear hb hbox hg))
 go_loopg [5] k (fun kq v5 w' => ∃ (x5_1 : Int), v5 = .int .i64 x5_1 ∧ Aside0 (leadtrailref10_Find.l0 kq a1 x5_1 l0_0 = some r) ∧ Aside0 (kq ≤ k) ∧ Aside0 (w'.heap[gb724]? = some (.cells #[(.slice A0_0 l0_0.length c0_0)] 69 (0, 0))) ∧ Aside0 (Below w.heap.size w w'))
 case atStart => exact ⟨(0), zR, H', ⟨Nat.le_refl _⟩, ⟨zb BK724.out⟩, ⟨zU HB.out⟩⟩
 case round =>
  clear H'; (try clear p2); obtain ⟨x5_1, rfl, HA, HK1, BK724, HB⟩ := hrel
  cases gk with
  | zero => exact absurd HA.out (by simp [leadtrailref10_Find.l0])
  | succ k1 =>
   have H := HA.out; clear HA; simp only [leadtrailref10_Find.l0] at H; by_cases c4 : x5_1 < (l0_0.length : Int)
   ·rw [if_pos c4] at H; have c4b0 : decide (x5_1 < (l0_0.length : Int)) = true := decide_eq_true c4; clear c4; by_cases c5 : 0 ≤ x5_1
    ·rw [if_pos c5] at H; have c5b0 : decide (0 ≤ x5_1) = true := decide_eq_true c5; clear c5; by_cases c6 : a1 ≥ ((rd_T47 l0_0 x5_1).f1)
     ·rw [if_pos c6] at H; have c6b0 : decide (((rd_T47 l0_0 x5_1).f1) ≤ a1) = true := decide_eq_true c6; clear c6; replace H := Option.bind_eq_some_iff.mp H; obtain ⟨t728, A70, H⟩ := H; replace H : (if a1 ≤ (wrap64 ((wrap64 (((rd_T47 l0_0 x5_1).f1) + t728)) - 1)) then (some x5_1) else (leadtrailref10_Find.l0 k1 a1 (wrap64 (x5_1 + 1)) l0_0)) = some r := H; have A7 := zk A70; clear A70; by_cases c8 : a1 ≤ (wrap64 ((wrap64 (((rd_T47 l0_0 x5_1).f1) + t728)) - 1))
      ·rw [if_pos c8] at H; have c8b0 : decide (a1 ≤ (wrap64 ((wrap64 (((rd_T47 l0_0 x5_1).f1) + t728)) - 1))) = true := decide_eq_true c8; clear c8; obtain rfl := Option.some.inj H; have hcz9_0 : wr.cell? ⟨gb724, 0, none⟩ = some (.slice A0_0 l0_0.length c0_0) := zh BK724.out 0; have hfz9_0 := blk_frozen BK724.out 0; try go_wp2
       have n0_ := zk (blk_drew BK724.out); have n1_ := zk (below_drew1 HB.out); clear BK724; clear HB; have BK724 := n0_; have HB := n1_; clear n0_ n1_; have p725 : 0 ≤ (x5_1 : Int) := zT; have q725 : x5_1 < (l0_0.length : Int) := zT; obtain ⟨ad725, A725_0, c725_0, e725, hx725_0, hx725_1, hl725_0, hi725_0⟩ := at_T47 HR0_0.out x5_1 p725 q725; have hw725_1 := hx725_1; have hw725_0 := hx725_0; cases e725; replace hx725_0 := zcl HB.out hx725_0; replace hx725_1 := zcl HB.out hx725_1; have HR725_0 := zk hi725_0; have HC725_0 := zk hl725_0; clear hi725_0 hl725_0; replace p725 := eq_true p725; replace q725 := eq_true q725; have p726 : 0 ≤ (x5_1 : Int) := zT; have q726 : x5_1 < (l0_0.length : Int) := zT; obtain ⟨ad726, A726_0, c726_0, e726, hx726_0, hx726_1, hl726_0, hi726_0⟩ := at_T47 HR0_0.out x5_1 p726 q726; have hw726_1 := hx726_1; have hw726_0 := hx726_0; obtain rfl : ad725 = ad726 := (by injection e726); replace hx726_0 := zcl HB.out hx726_0; replace hx726_1 := zcl HB.out hx726_1; have HR726_0 := zk hi726_0; have HC726_0 := zk hl726_0; clear hi726_0 hl726_0; replace p726 := eq_true p726; replace q726 := eq_true q726; have ea_ := Option.some.inj (hx725_0.symm.trans hx726_0); injection ea_ with ea_ en_ ec_
       subst ea_; subst ec_; clear en_; have p727 : 0 ≤ (x5_1 : Int) := zT; have q727 : x5_1 < (l0_0.length : Int) := zT; obtain ⟨ad727, A727_0, c727_0, e727, hx727_0, hx727_1, hl727_0, hi727_0⟩ := at_T47 HR0_0.out x5_1 p727 q727; have hw727_1 := hx727_1; have hw727_0 := hx727_0; obtain rfl : ad725 = ad727 := (by injection e727); replace hx727_0 := zcl HB.out hx727_0; replace hx727_1 := zcl HB.out hx727_1; have HR727_0 := zk hi727_0; have HC727_0 := zk hl727_0; clear hi727_0 hl727_0; replace p727 := eq_true p727; replace q727 := eq_true q727; have ea_ := Option.some.inj (hx725_0.symm.trans hx727_0); injection ea_ with ea_ en_ ec_
       subst ea_; subst ec_; clear en_; refine start_ (n := 26) (S := fun w' => w'.cell? ⟨gb724, 0, none⟩ = some (.slice (some ad725) l0_0.length c0_0) ∧ w'.cell? (ad725.add ((x5_1).toNat * 2)) = some (.slice A725_0 ((rd_T47 l0_0 x5_1).f0).length c725_0) ∧ w'.cell? ⟨(ad725.add ((x5_1).toNat * 2)).block, (ad725.add ((x5_1).toNat * 2)).off + 1, none⟩ = some (.int .i64 ((rd_T47 l0_0 x5_1).f1)) ∧ w'.cell? (ad725.add ((x5_1).toNat * 2)) = some (.slice A725_0 ((rd_T47 l0_0 x5_1).f0).length c725_0) ∧ w'.cell? ⟨(ad725.add ((x5_1).toNat * 2)).block, (ad725.add ((x5_1).toNat * 2)).off + 1, none⟩ = some (.int .i64 ((rd_T47 l0_0 x5_1).f1)) ∧ w'.cell? (ad725.add ((x5_1).toNat * 2)) = some (.slice A725_0 ((rd_T47 l0_0 x5_1).f0).length c725_0) ∧ w'.cell? ⟨(ad725.add ((x5_1).toNat * 2)).block, (ad725.add ((x5_1).toNat * 2)).off + 1, none⟩ = some (.int .i64 ((rd_T47 l0_0 x5_1).f1))) (ds := []) #[false, false, false, false, false, false, false, false, false, false, false, false, false, false, false, false, false, false, false, false, false, false, false, false, false, false] zz rfl rfl ⟨(blk_cell BK724.out 0).trans rfl, (zcl HB.out hw725_0), (zcl HB.out hw725_1), (zcl HB.out hw726_0), (zcl HB.out hw726_1), (zcl HB.out hw727_0), (zcl HB.out hw727_1)⟩ (fun hHeld => ?_); refine with_tabW leadtrailref10_Find.tab4 leadtrailref10_Find.bits4 (fun HT_ HW_ => ?_); generalize wr.drew = w10 at BK724 HB HR725_0 HR726_0 HR727_0 hx725_0 hx725_1 hx726_0 hx726_1 hx727_0 hx727_1 hHeld ⊢; refine zp 0 (some 13) (v := ?_) (a' := ?_) (bz 26 1) rfl rfl HT_.out zz zQ ?_ ?_ ?_; rotate_left
       ·intro w'; go_simp; with_reducible rfl
       rotate_left
       ·simp only [Act.put, zv, i64_w, i32_w]; rfl
       refine zp 1 (some 14) (v := ?_) (a' := ?_) (bz 26 3) rfl rfl HT_.out zz zQ ?_ ?_ ?_; rotate_left
       ·intro w'; go_simp; with_reducible rfl
       rotate_left
       ·simp only [Act.put, zv, i64_w, i32_w]; rfl
       refine zp 3 (some 16) (v := ?_) (a' := ?_) (bz 26 11) rfl rfl HT_.out zz zQ ?_ ?_ ?_; rotate_left
       ·intro w'; go_simp; with_reducible rfl
       rotate_left
       ·simp only [Act.put, zv, i64_w, i32_w]; rfl
       refine take_ (i := 2) (N := some 15) (v := ?_) (a' := ?_) (bz 26 15) rfl rfl (take_ofW HT_.out HW_.out zz) zQ (Or.inl ⟨by rfl, ?_⟩) hHeld ?_ ?_; rotate_left
       ·rintro w' ⟨s0, s1, s2, s3, s4, s5, s6⟩; go_simp; with_reducible rfl
       rotate_left
       ·simp only [Act.put, zv, i64_w, i32_w]; rfl
       refine zp 4 (some 17) (v := ?_) (a' := ?_) (bz 26 31) rfl rfl HT_.out zz zQ ?_ ?_ ?_; rotate_left
       ·intro w'; go_simp; with_reducible rfl
       rotate_left
       ·simp only [Act.put, zv, i64_w, i32_w]; rfl
       refine zp 5 (some 18) (v := ?_) (a' := ?_) (bz 26 63) rfl rfl HT_.out zz zQ ?_ ?_ ?_; rotate_left
       ·intro w'; go_simp; with_reducible rfl
       rotate_left
       ·simp only [Act.put, zv, i64_w, i32_w]; rfl
       refine take_ (i := 6) (N := some 19) (v := ?_) (a' := ?_) (bz 26 127) rfl rfl (take_ofW HT_.out HW_.out zz) zQ (Or.inl ⟨by rfl, ?_⟩) hHeld ?_ ?_; rotate_left
       ·rintro w' ⟨s0, s1, s2, s3, s4, s5, s6⟩; go_simp; with_reducible rfl
       rotate_left
       ·simp only [Act.put, zv, i64_w, i32_w]; rfl
       refine zp 7 (some 20) (v := ?_) (a' := ?_) (bz 26 255) rfl rfl HT_.out zz zQ ?_ ?_ ?_; rotate_left
       ·intro w'; go_simp; with_reducible rfl
       rotate_left
       ·simp only [Act.put, zv, i64_w, i32_w]; rfl
       refine zp 8 (some 21) (v := ?_) (a' := ?_) (bz 26 511) rfl rfl HT_.out zz zQ ?_ ?_ ?_; rotate_left
       ·intro w'; go_simp; with_reducible rfl
       rotate_left
       ·simp only [Act.put, zv, i64_w, i32_w]; rfl
       refine zp 9 (some 22) (v := ?_) (a' := ?_) (bz 26 1023) rfl rfl HT_.out zz zQ ?_ ?_ ?_; rotate_left
       ·intro w'; go_simp; with_reducible rfl
       rotate_left
       ·simp only [Act.put, zv, i64_w, i32_w]; rfl
       refine zp 10 (some 23) (v := ?_) (a' := ?_) (bz 26 2047) rfl rfl HT_.out zz zQ ?_ ?_ ?_; rotate_left
       ·intro w'; go_simp; with_reducible rfl
       rotate_left
       ·simp only [Act.put, zv, i64_w, i32_w]; rfl
       refine zp 12 (some 25) (v := ?_) (a' := ?_) (bz 26 6143) rfl rfl HT_.out zz zQ ?_ ?_ ?_; rotate_left
       ·intro w'; go_simp; with_reducible rfl
       rotate_left
       ·simp only [Act.put, zv, i64_w, i32_w]; rfl
       refine zp 16 (some 29) (v := ?_) (a' := ?_) (bz 26 71679) rfl rfl HT_.out zz zQ ?_ ?_ ?_; rotate_left
       ·intro w'; go_simp; with_reducible rfl
       rotate_left
       ·simp only [Act.put, zv, i64_w, i32_w]; rfl
       refine zp 18 (some 31) (v := ?_) (a' := ?_) (bz 26 333823) rfl rfl HT_.out zz zQ ?_ ?_ ?_; rotate_left
       ·intro w'; go_simp; with_reducible rfl
       rotate_left
       ·simp only [Act.put, zv, i64_w, i32_w]; rfl
       refine take_ (i := 11) (N := some 24) (v := ?_) (a' := ?_) (bz 26 335871) rfl rfl (take_ofW HT_.out HW_.out zz) zQ (Or.inl ⟨by rfl, ?_⟩) hHeld ?_ ?_; rotate_left
       ·rintro w' ⟨s0, s1, s2, s3, s4, s5, s6⟩; go_simp; with_reducible rfl
       rotate_left
       ·simp only [Act.put, zv, i64_w, i32_w]; rfl
       refine zp 13 (some 26) (v := ?_) (a' := ?_) (bz 26 344063) rfl rfl HT_.out zz zQ ?_ ?_ ?_; rotate_left
       ·intro w'; go_simp; with_reducible rfl
       rotate_left
       ·simp only [Act.put, zv, i64_w, i32_w]; rfl
       refine zp 14 (some 27) (v := ?_) (a' := ?_) (bz 26 360447) rfl rfl HT_.out zz zQ ?_ ?_ ?_; rotate_left
       ·intro w'; go_simp; with_reducible rfl
       rotate_left
       ·simp only [Act.put, zv, i64_w, i32_w]; rfl
       refine take_ (i := 15) (N := some 28) (v := ?_) (a' := ?_) (bz 26 393215) rfl rfl (take_ofW HT_.out HW_.out zz) zQ (Or.inl ⟨by rfl, ?_⟩) hHeld ?_ ?_; rotate_left
       ·rintro w' ⟨s0, s1, s2, s3, s4, s5, s6⟩; go_simp; with_reducible rfl
       rotate_left
       ·simp only [Act.put, zv, i64_w, i32_w]; rfl
       refine take_ (i := 17) (N := some 30) (v := ?_) (a' := ?_) (bz 26 524287) rfl rfl (take_ofW HT_.out HW_.out zz) zQ (Or.inl ⟨by rfl, ?_⟩) hHeld ?_ ?_; rotate_left
       ·rintro w' ⟨s0, s1, s2, s3, s4, s5, s6⟩; go_simp; with_reducible rfl
       rotate_left
       ·simp only [Act.put, zv, i64_w, i32_w]; rfl
       refine zp 19 (some 32) (v := ?_) (a' := ?_) (bz 26 1048575) rfl rfl HT_.out zz zQ ?_ ?_ ?_; rotate_left
       ·intro w'; go_simp; with_reducible rfl
       rotate_left
       ·simp only [Act.put, zv, i64_w, i32_w]; rfl
       refine take_ (i := 20) (N := some 33) (v := ?_) (a' := ?_) (bz 26 2097151) rfl rfl (take_ofW HT_.out HW_.out zz) zQ (Or.inl ⟨by rfl, ?_⟩) hHeld ?_ ?_; rotate_left
       ·rintro w' ⟨s0, s1, s2, s3, s4, s5, s6⟩; go_simp; with_reducible rfl
       rotate_left
       ·simp only [Act.put, zv, i64_w, i32_w]; rfl
       refine one_ (i := 21) (N := some 34) (bz 26 4194303) rfl rfl (one_of HT_.out zz) (by decide) (fun K hK => ?_); refine goes_ Try.func83 zz rfl #[.agg #[.slice A725_0 ((rd_T47 l0_0 x5_1).f0).length c725_0, .int .i64 ((rd_T47 l0_0 x5_1).f1)]] (by rfl) rfl rfl zM ?_; with_reducible refine (leadtrailref08_Count.calls k1 _ _ ((rd_T47 l0_0 x5_1).f0) ((rd_T47 l0_0 x5_1).f1) t728 _ ?side1 ?side2 A7.out).mono ?_; (case side1 => exact zc (Kd.C_below HR727_0.out HB.out))
       (case side2 => exact HC727_0.out)
       rintro e w11 ⟨rfl, hb⟩; refine ⟨_, rfl, ?_⟩; have n0_ := zk (zbb BK724.out hb); have n1_ := zk (below_step (zU HB.out) hb); clear BK724; clear HB; have BK724 := n0_; have HB := n1_; clear n0_ n1_; (try clear hb); (try clear hb2); (try clear hk); (try clear hi); refine hK.out _ _ ⟨(blk_cell BK724.out 0).trans rfl, (zcl HB.out hw725_0), (zcl HB.out hw725_1), (zcl HB.out hw726_0), (zcl HB.out hw726_1), (zcl HB.out hw727_0), (zcl HB.out hw727_1)⟩ (fun hHeld => ?_); clear hK K; refine norm_ (a' := ?_) ?_ ?_; rotate_left
       ·show Act.put _ (some 34) _ = _; simp only [Act.put, zv, i64_w, i32_w]; rfl
       refine zp 22 (some 35) (v := ?_) (a' := ?_) (bz 26 8388607) rfl rfl HT_.out zz zQ ?_ ?_ ?_; rotate_left
       ·intro w'; go_simp; with_reducible rfl
       rotate_left
       ·simp only [Act.put, zv, i64_w, i32_w]; rfl
       refine zp 23 (some 36) (v := ?_) (a' := ?_) (bz 26 16777215) rfl rfl HT_.out zz zQ ?_ ?_ ?_; rotate_left
       ·intro w'; go_simp; with_reducible rfl
       rotate_left
       ·simp only [Act.put, zv, i64_w, i32_w]; rfl
       refine zp 24 (some 37) (v := ?_) (a' := ?_) (bz 26 33554431) rfl rfl HT_.out zz zQ ?_ ?_ ?_; rotate_left
       ·intro w'; go_simp; with_reducible rfl
       rotate_left
       ·simp only [Act.put, zv, i64_w, i32_w]; rfl
       refine zp 25 (some 38) (v := ?_) (a' := ?_) (bz 26 67108863) rfl rfl HT_.out zz zQ ?_ ?_ ?_; rotate_left
       ·intro w'; go_simp; with_reducible rfl
       rotate_left
       ·simp only [Act.put, zv, i64_w, i32_w]; rfl
       refine done_ (done_of HT_.out zz) ?_; try go_wp2
       go_ret
       exact ⟨ze, zU HB.out⟩
      ·rw [if_neg c8] at H; have c8b0 : decide (a1 ≤ (wrap64 ((wrap64 (((rd_T47 l0_0 x5_1).f1) + t728)) - 1))) = false := decide_eq_false c8; clear c8; have H' := zk H; clear H; have hcz12_0 : wr.cell? ⟨gb724, 0, none⟩ = some (.slice A0_0 l0_0.length c0_0) := zh BK724.out 0; have hfz12_0 := blk_frozen BK724.out 0; try go_wp2
       have n0_ := zk (blk_drew BK724.out); have n1_ := zk (below_drew1 HB.out); clear BK724; clear HB; have BK724 := n0_; have HB := n1_; clear n0_ n1_; have p725 : 0 ≤ (x5_1 : Int) := zT; have q725 : x5_1 < (l0_0.length : Int) := zT; obtain ⟨ad725, A725_0, c725_0, e725, hx725_0, hx725_1, hl725_0, hi725_0⟩ := at_T47 HR0_0.out x5_1 p725 q725; have hw725_1 := hx725_1; have hw725_0 := hx725_0; cases e725; replace hx725_0 := zcl HB.out hx725_0; replace hx725_1 := zcl HB.out hx725_1; have HR725_0 := zk hi725_0; have HC725_0 := zk hl725_0; clear hi725_0 hl725_0; replace p725 := eq_true p725; replace q725 := eq_true q725; have p726 : 0 ≤ (x5_1 : Int) := zT; have q726 : x5_1 < (l0_0.length : Int) := zT; obtain ⟨ad726, A726_0, c726_0, e726, hx726_0, hx726_1, hl726_0, hi726_0⟩ := at_T47 HR0_0.out x5_1 p726 q726; have hw726_1 := hx726_1; have hw726_0 := hx726_0; obtain rfl : ad725 = ad726 := (by injection e726); replace hx726_0 := zcl HB.out hx726_0; replace hx726_1 := zcl HB.out hx726_1; have HR726_0 := zk hi726_0; have HC726_0 := zk hl726_0; clear hi726_0 hl726_0; replace p726 := eq_true p726; replace q726 := eq_true q726; have ea_ := Option.some.inj (hx725_0.symm.trans hx726_0); injection ea_ with ea_ en_ ec_
       subst ea_; subst ec_; clear en_; have p727 : 0 ≤ (x5_1 : Int) := zT; have q727 : x5_1 < (l0_0.length : Int) := zT; obtain ⟨ad727, A727_0, c727_0, e727, hx727_0, hx727_1, hl727_0, hi727_0⟩ := at_T47 HR0_0.out x5_1 p727 q727; have hw727_1 := hx727_1; have hw727_0 := hx727_0; obtain rfl : ad725 = ad727 := (by injection e727); replace hx727_0 := zcl HB.out hx727_0; replace hx727_1 := zcl HB.out hx727_1; have HR727_0 := zk hi727_0; have HC727_0 := zk hl727_0; clear hi727_0 hl727_0; replace p727 := eq_true p727; replace q727 := eq_true q727; have ea_ := Option.some.inj (hx725_0.symm.trans hx727_0); injection ea_ with ea_ en_ ec_
       subst ea_; subst ec_; clear en_; refine start_ (n := 26) (S := fun w' => w'.cell? ⟨gb724, 0, none⟩ = some (.slice (some ad725) l0_0.length c0_0) ∧ w'.cell? (ad725.add ((x5_1).toNat * 2)) = some (.slice A725_0 ((rd_T47 l0_0 x5_1).f0).length c725_0) ∧ w'.cell? ⟨(ad725.add ((x5_1).toNat * 2)).block, (ad725.add ((x5_1).toNat * 2)).off + 1, none⟩ = some (.int .i64 ((rd_T47 l0_0 x5_1).f1)) ∧ w'.cell? (ad725.add ((x5_1).toNat * 2)) = some (.slice A725_0 ((rd_T47 l0_0 x5_1).f0).length c725_0) ∧ w'.cell? ⟨(ad725.add ((x5_1).toNat * 2)).block, (ad725.add ((x5_1).toNat * 2)).off + 1, none⟩ = some (.int .i64 ((rd_T47 l0_0 x5_1).f1)) ∧ w'.cell? (ad725.add ((x5_1).toNat * 2)) = some (.slice A725_0 ((rd_T47 l0_0 x5_1).f0).length c725_0) ∧ w'.cell? ⟨(ad725.add ((x5_1).toNat * 2)).block, (ad725.add ((x5_1).toNat * 2)).off + 1, none⟩ = some (.int .i64 ((rd_T47 l0_0 x5_1).f1))) (ds := []) #[false, false, false, false, false, false, false, false, false, false, false, false, false, false, false, false, false, false, false, false, false, false, false, false, false, false] zz rfl rfl ⟨(blk_cell BK724.out 0).trans rfl, (zcl HB.out hw725_0), (zcl HB.out hw725_1), (zcl HB.out hw726_0), (zcl HB.out hw726_1), (zcl HB.out hw727_0), (zcl HB.out hw727_1)⟩ (fun hHeld => ?_); refine with_tabW leadtrailref10_Find.tab4 leadtrailref10_Find.bits4 (fun HT_ HW_ => ?_); generalize wr.drew = w13 at BK724 HB HR725_0 HR726_0 HR727_0 hx725_0 hx725_1 hx726_0 hx726_1 hx727_0 hx727_1 hHeld ⊢; refine zp 0 (some 13) (v := ?_) (a' := ?_) (bz 26 1) rfl rfl HT_.out zz zQ ?_ ?_ ?_; rotate_left
       ·intro w'; go_simp; with_reducible rfl
       rotate_left
       ·simp only [Act.put, zv, i64_w, i32_w]; rfl
       refine zp 1 (some 14) (v := ?_) (a' := ?_) (bz 26 3) rfl rfl HT_.out zz zQ ?_ ?_ ?_; rotate_left
       ·intro w'; go_simp; with_reducible rfl
       rotate_left
       ·simp only [Act.put, zv, i64_w, i32_w]; rfl
       refine zp 3 (some 16) (v := ?_) (a' := ?_) (bz 26 11) rfl rfl HT_.out zz zQ ?_ ?_ ?_; rotate_left
       ·intro w'; go_simp; with_reducible rfl
       rotate_left
       ·simp only [Act.put, zv, i64_w, i32_w]; rfl
       refine take_ (i := 2) (N := some 15) (v := ?_) (a' := ?_) (bz 26 15) rfl rfl (take_ofW HT_.out HW_.out zz) zQ (Or.inl ⟨by rfl, ?_⟩) hHeld ?_ ?_; rotate_left
       ·rintro w' ⟨s0, s1, s2, s3, s4, s5, s6⟩; go_simp; with_reducible rfl
       rotate_left
       ·simp only [Act.put, zv, i64_w, i32_w]; rfl
       refine zp 4 (some 17) (v := ?_) (a' := ?_) (bz 26 31) rfl rfl HT_.out zz zQ ?_ ?_ ?_; rotate_left
       ·intro w'; go_simp; with_reducible rfl
       rotate_left
       ·simp only [Act.put, zv, i64_w, i32_w]; rfl
       refine zp 5 (some 18) (v := ?_) (a' := ?_) (bz 26 63) rfl rfl HT_.out zz zQ ?_ ?_ ?_; rotate_left
       ·intro w'; go_simp; with_reducible rfl
       rotate_left
       ·simp only [Act.put, zv, i64_w, i32_w]; rfl
       refine take_ (i := 6) (N := some 19) (v := ?_) (a' := ?_) (bz 26 127) rfl rfl (take_ofW HT_.out HW_.out zz) zQ (Or.inl ⟨by rfl, ?_⟩) hHeld ?_ ?_; rotate_left
       ·rintro w' ⟨s0, s1, s2, s3, s4, s5, s6⟩; go_simp; with_reducible rfl
       rotate_left
       ·simp only [Act.put, zv, i64_w, i32_w]; rfl
       refine zp 7 (some 20) (v := ?_) (a' := ?_) (bz 26 255) rfl rfl HT_.out zz zQ ?_ ?_ ?_; rotate_left
       ·intro w'; go_simp; with_reducible rfl
       rotate_left
       ·simp only [Act.put, zv, i64_w, i32_w]; rfl
       refine zp 8 (some 21) (v := ?_) (a' := ?_) (bz 26 511) rfl rfl HT_.out zz zQ ?_ ?_ ?_; rotate_left
       ·intro w'; go_simp; with_reducible rfl
       rotate_left
       ·simp only [Act.put, zv, i64_w, i32_w]; rfl
       refine zp 9 (some 22) (v := ?_) (a' := ?_) (bz 26 1023) rfl rfl HT_.out zz zQ ?_ ?_ ?_; rotate_left
       ·intro w'; go_simp; with_reducible rfl
       rotate_left
       ·simp only [Act.put, zv, i64_w, i32_w]; rfl
       refine zp 10 (some 23) (v := ?_) (a' := ?_) (bz 26 2047) rfl rfl HT_.out zz zQ ?_ ?_ ?_; rotate_left
       ·intro w'; go_simp; with_reducible rfl
       rotate_left
       ·simp only [Act.put, zv, i64_w, i32_w]; rfl
       refine zp 12 (some 25) (v := ?_) (a' := ?_) (bz 26 6143) rfl rfl HT_.out zz zQ ?_ ?_ ?_; rotate_left
       ·intro w'; go_simp; with_reducible rfl
       rotate_left
       ·simp only [Act.put, zv, i64_w, i32_w]; rfl
       refine zp 16 (some 29) (v := ?_) (a' := ?_) (bz 26 71679) rfl rfl HT_.out zz zQ ?_ ?_ ?_; rotate_left
       ·intro w'; go_simp; with_reducible rfl
       rotate_left
       ·simp only [Act.put, zv, i64_w, i32_w]; rfl
       refine zp 18 (some 31) (v := ?_) (a' := ?_) (bz 26 333823) rfl rfl HT_.out zz zQ ?_ ?_ ?_; rotate_left
       ·intro w'; go_simp; with_reducible rfl
       rotate_left
       ·simp only [Act.put, zv, i64_w, i32_w]; rfl
       refine take_ (i := 11) (N := some 24) (v := ?_) (a' := ?_) (bz 26 335871) rfl rfl (take_ofW HT_.out HW_.out zz) zQ (Or.inl ⟨by rfl, ?_⟩) hHeld ?_ ?_; rotate_left
       ·rintro w' ⟨s0, s1, s2, s3, s4, s5, s6⟩; go_simp; with_reducible rfl
       rotate_left
       ·simp only [Act.put, zv, i64_w, i32_w]; rfl
       refine zp 13 (some 26) (v := ?_) (a' := ?_) (bz 26 344063) rfl rfl HT_.out zz zQ ?_ ?_ ?_; rotate_left
       ·intro w'; go_simp; with_reducible rfl
       rotate_left
       ·simp only [Act.put, zv, i64_w, i32_w]; rfl
       refine zp 14 (some 27) (v := ?_) (a' := ?_) (bz 26 360447) rfl rfl HT_.out zz zQ ?_ ?_ ?_; rotate_left
       ·intro w'; go_simp; with_reducible rfl
       rotate_left
       ·simp only [Act.put, zv, i64_w, i32_w]; rfl
       refine take_ (i := 15) (N := some 28) (v := ?_) (a' := ?_) (bz 26 393215) rfl rfl (take_ofW HT_.out HW_.out zz) zQ (Or.inl ⟨by rfl, ?_⟩) hHeld ?_ ?_; rotate_left
       ·rintro w' ⟨s0, s1, s2, s3, s4, s5, s6⟩; go_simp; with_reducible rfl
       rotate_left
       ·simp only [Act.put, zv, i64_w, i32_w]; rfl
       refine take_ (i := 17) (N := some 30) (v := ?_) (a' := ?_) (bz 26 524287) rfl rfl (take_ofW HT_.out HW_.out zz) zQ (Or.inl ⟨by rfl, ?_⟩) hHeld ?_ ?_; rotate_left
       ·rintro w' ⟨s0, s1, s2, s3, s4, s5, s6⟩; go_simp; with_reducible rfl
       rotate_left
       ·simp only [Act.put, zv, i64_w, i32_w]; rfl
       refine zp 19 (some 32) (v := ?_) (a' := ?_) (bz 26 1048575) rfl rfl HT_.out zz zQ ?_ ?_ ?_; rotate_left
       ·intro w'; go_simp; with_reducible rfl
       rotate_left
       ·simp only [Act.put, zv, i64_w, i32_w]; rfl
       refine take_ (i := 20) (N := some 33) (v := ?_) (a' := ?_) (bz 26 2097151) rfl rfl (take_ofW HT_.out HW_.out zz) zQ (Or.inl ⟨by rfl, ?_⟩) hHeld ?_ ?_; rotate_left
       ·rintro w' ⟨s0, s1, s2, s3, s4, s5, s6⟩; go_simp; with_reducible rfl
       rotate_left
       ·simp only [Act.put, zv, i64_w, i32_w]; rfl
       refine one_ (i := 21) (N := some 34) (bz 26 4194303) rfl rfl (one_of HT_.out zz) (by decide) (fun K hK => ?_); refine goes_ Try.func83 zz rfl #[.agg #[.slice A725_0 ((rd_T47 l0_0 x5_1).f0).length c725_0, .int .i64 ((rd_T47 l0_0 x5_1).f1)]] (by rfl) rfl rfl zM ?_; with_reducible refine (leadtrailref08_Count.calls k1 _ _ ((rd_T47 l0_0 x5_1).f0) ((rd_T47 l0_0 x5_1).f1) t728 _ ?side1 ?side2 A7.out).mono ?_; (case side1 => exact zc (Kd.C_below HR727_0.out HB.out))
       (case side2 => exact HC727_0.out)
       rintro e w14 ⟨rfl, hb⟩; refine ⟨_, rfl, ?_⟩; have n0_ := zk (zbb BK724.out hb); have n1_ := zk (below_step (zU HB.out) hb); clear BK724; clear HB; have BK724 := n0_; have HB := n1_; clear n0_ n1_; (try clear hb); (try clear hb2); (try clear hk); (try clear hi); refine hK.out _ _ ⟨(blk_cell BK724.out 0).trans rfl, (zcl HB.out hw725_0), (zcl HB.out hw725_1), (zcl HB.out hw726_0), (zcl HB.out hw726_1), (zcl HB.out hw727_0), (zcl HB.out hw727_1)⟩ (fun hHeld => ?_); clear hK K; refine norm_ (a' := ?_) ?_ ?_; rotate_left
       ·show Act.put _ (some 34) _ = _; simp only [Act.put, zv, i64_w, i32_w]; rfl
       refine zp 22 (some 35) (v := ?_) (a' := ?_) (bz 26 8388607) rfl rfl HT_.out zz zQ ?_ ?_ ?_; rotate_left
       ·intro w'; go_simp; with_reducible rfl
       rotate_left
       ·simp only [Act.put, zv, i64_w, i32_w]; rfl
       refine zp 23 (some 36) (v := ?_) (a' := ?_) (bz 26 16777215) rfl rfl HT_.out zz zQ ?_ ?_ ?_; rotate_left
       ·intro w'; go_simp; with_reducible rfl
       rotate_left
       ·simp only [Act.put, zv, i64_w, i32_w]; rfl
       refine zp 24 (some 37) (v := ?_) (a' := ?_) (bz 26 33554431) rfl rfl HT_.out zz zQ ?_ ?_ ?_; rotate_left
       ·intro w'; go_simp; with_reducible rfl
       rotate_left
       ·simp only [Act.put, zv, i64_w, i32_w]; rfl
       refine zp 25 (some 38) (v := ?_) (a' := ?_) (bz 26 67108863) rfl rfl HT_.out zz zQ ?_ ?_ ?_; rotate_left
       ·intro w'; go_simp; with_reducible rfl
       rotate_left
       ·simp only [Act.put, zv, i64_w, i32_w]; rfl
       refine done_ (done_of HT_.out zz) ?_; try go_wp2
       go_roundg k1
       case measure => have := HK1.out; omega
       case rel => exact ⟨(wrap64 (x5_1 + 1)), zR, H', ⟨by have := HK1.out; omega⟩, ⟨zb BK724.out⟩, ⟨zU HB.out⟩⟩
     ·rw [if_neg c6] at H; have c6b0 : decide (((rd_T47 l0_0 x5_1).f1) ≤ a1) = false := decide_eq_false c6; clear c6; have H' := zk H; clear H; have hcz15_0 : wr.cell? ⟨gb724, 0, none⟩ = some (.slice A0_0 l0_0.length c0_0) := zh BK724.out 0; have hfz15_0 := blk_frozen BK724.out 0; try go_wp2
      have n0_ := zk (blk_drew BK724.out); have n1_ := zk (below_drew1 HB.out); clear BK724; clear HB; have BK724 := n0_; have HB := n1_; clear n0_ n1_; have p725 : 0 ≤ (x5_1 : Int) := zT; have q725 : x5_1 < (l0_0.length : Int) := zT; obtain ⟨ad725, A725_0, c725_0, e725, hx725_0, hx725_1, hl725_0, hi725_0⟩ := at_T47 HR0_0.out x5_1 p725 q725; have hw725_1 := hx725_1; have hw725_0 := hx725_0; cases e725; replace hx725_0 := zcl HB.out hx725_0; replace hx725_1 := zcl HB.out hx725_1; have HR725_0 := zk hi725_0; have HC725_0 := zk hl725_0; clear hi725_0 hl725_0; replace p725 := eq_true p725; replace q725 := eq_true q725; refine start_ (n := 26) (S := fun w' => w'.cell? ⟨gb724, 0, none⟩ = some (.slice (some ad725) l0_0.length c0_0) ∧ w'.cell? (ad725.add ((x5_1).toNat * 2)) = some (.slice A725_0 ((rd_T47 l0_0 x5_1).f0).length c725_0) ∧ w'.cell? ⟨(ad725.add ((x5_1).toNat * 2)).block, (ad725.add ((x5_1).toNat * 2)).off + 1, none⟩ = some (.int .i64 ((rd_T47 l0_0 x5_1).f1))) (ds := []) #[false, false, false, false, false, false, false, false, false, false, false, false, false, false, false, false, false, false, false, false, false, false, false, false, false, false] zz rfl rfl ⟨(blk_cell BK724.out 0).trans rfl, (zcl HB.out hw725_0), (zcl HB.out hw725_1)⟩ (fun hHeld => ?_); refine with_tabW leadtrailref10_Find.tab4 leadtrailref10_Find.bits4 (fun HT_ HW_ => ?_); generalize wr.drew = w16 at BK724 HB HR725_0 hx725_0 hx725_1 hHeld ⊢; refine zp 0 (some 13) (v := ?_) (a' := ?_) (bz 26 1) rfl rfl HT_.out zz zQ ?_ ?_ ?_; rotate_left
      ·intro w'; go_simp; with_reducible rfl
      rotate_left
      ·simp only [Act.put, zv, i64_w, i32_w]; rfl
      refine zp 1 (some 14) (v := ?_) (a' := ?_) (bz 26 3) rfl rfl HT_.out zz zQ ?_ ?_ ?_; rotate_left
      ·intro w'; go_simp; with_reducible rfl
      rotate_left
      ·simp only [Act.put, zv, i64_w, i32_w]; rfl
      refine zp 3 (some 16) (v := ?_) (a' := ?_) (bz 26 11) rfl rfl HT_.out zz zQ ?_ ?_ ?_; rotate_left
      ·intro w'; go_simp; with_reducible rfl
      rotate_left
      ·simp only [Act.put, zv, i64_w, i32_w]; rfl
      refine take_ (i := 2) (N := some 15) (v := ?_) (a' := ?_) (bz 26 15) rfl rfl (take_ofW HT_.out HW_.out zz) zQ (Or.inl ⟨by rfl, ?_⟩) hHeld ?_ ?_; rotate_left
      ·rintro w' ⟨s0, s1, s2⟩; go_simp; with_reducible rfl
      rotate_left
      ·simp only [Act.put, zv, i64_w, i32_w]; rfl
      refine zp 4 (some 17) (v := ?_) (a' := ?_) (bz 26 31) rfl rfl HT_.out zz zQ ?_ ?_ ?_; rotate_left
      ·intro w'; go_simp; with_reducible rfl
      rotate_left
      ·simp only [Act.put, zv, i64_w, i32_w]; rfl
      refine zp 5 (some 18) (v := ?_) (a' := ?_) (bz 26 63) rfl rfl HT_.out zz zQ ?_ ?_ ?_; rotate_left
      ·intro w'; go_simp; with_reducible rfl
      rotate_left
      ·simp only [Act.put, zv, i64_w, i32_w]; rfl
      refine take_ (i := 6) (N := some 19) (v := ?_) (a' := ?_) (bz 26 127) rfl rfl (take_ofW HT_.out HW_.out zz) zQ (Or.inl ⟨by rfl, ?_⟩) hHeld ?_ ?_; rotate_left
      ·rintro w' ⟨s0, s1, s2⟩; go_simp; with_reducible rfl
      rotate_left
      ·simp only [Act.put, zv, i64_w, i32_w]; rfl
      refine zp 7 (some 20) (v := ?_) (a' := ?_) (bz 26 255) rfl rfl HT_.out zz zQ ?_ ?_ ?_; rotate_left
      ·intro w'; go_simp; with_reducible rfl
      rotate_left
      ·simp only [Act.put, zv, i64_w, i32_w]; rfl
      refine zp 8 (some 21) (v := ?_) (a' := ?_) (bz 26 511) rfl rfl HT_.out zz zQ ?_ ?_ ?_; rotate_left
      ·intro w'; go_simp; with_reducible rfl
      rotate_left
      ·simp only [Act.put, zv, i64_w, i32_w]; rfl
      refine pure_ (i := 9) (N := some 22) (v := undef) (a' := ?_) (bz 26 1023) rfl rfl (any_of HT_.out zz) zQ (Or.inr ⟨by rfl, rfl⟩) ?_ ?_; rotate_left
      ·simp only [Act.put, zv, i64_w, i32_w]; rfl
      refine pure_ (i := 10) (N := some 23) (v := undef) (a' := ?_) (bz 26 2047) rfl rfl (any_of HT_.out zz) zQ (Or.inr ⟨by rfl, rfl⟩) ?_ ?_; rotate_left
      ·simp only [Act.put, zv, i64_w, i32_w]; rfl
      refine pure_ (i := 11) (N := some 24) (v := undef) (a' := ?_) (bz 26 4095) rfl rfl (any_of HT_.out zz) zQ (Or.inr ⟨by rfl, rfl⟩) ?_ ?_; rotate_left
      ·simp only [Act.put, zv, i64_w, i32_w]; rfl
      refine pure_ (i := 12) (N := some 25) (v := undef) (a' := ?_) (bz 26 8191) rfl rfl (any_of HT_.out zz) zQ (Or.inr ⟨by rfl, rfl⟩) ?_ ?_; rotate_left
      ·simp only [Act.put, zv, i64_w, i32_w]; rfl
      refine pure_ (i := 13) (N := some 26) (v := undef) (a' := ?_) (bz 26 16383) rfl rfl (any_of HT_.out zz) zQ (Or.inr ⟨by rfl, rfl⟩) ?_ ?_; rotate_left
      ·simp only [Act.put, zv, i64_w, i32_w]; rfl
      refine pure_ (i := 14) (N := some 27) (v := undef) (a' := ?_) (bz 26 32767) rfl rfl (any_of HT_.out zz) zQ (Or.inr ⟨by rfl, rfl⟩) ?_ ?_; rotate_left
      ·simp only [Act.put, zv, i64_w, i32_w]; rfl
      refine pure_ (i := 15) (N := some 28) (v := undef) (a' := ?_) (bz 26 65535) rfl rfl (any_of HT_.out zz) zQ (Or.inr ⟨by rfl, rfl⟩) ?_ ?_; rotate_left
      ·simp only [Act.put, zv, i64_w, i32_w]; rfl
      refine pure_ (i := 16) (N := some 29) (v := undef) (a' := ?_) (bz 26 131071) rfl rfl (any_of HT_.out zz) zQ (Or.inr ⟨by rfl, rfl⟩) ?_ ?_; rotate_left
      ·simp only [Act.put, zv, i64_w, i32_w]; rfl
      refine pure_ (i := 17) (N := some 30) (v := undef) (a' := ?_) (bz 26 262143) rfl rfl (any_of HT_.out zz) zQ (Or.inr ⟨by rfl, rfl⟩) ?_ ?_; rotate_left
      ·simp only [Act.put, zv, i64_w, i32_w]; rfl
      refine pure_ (i := 18) (N := some 31) (v := undef) (a' := ?_) (bz 26 524287) rfl rfl (any_of HT_.out zz) zQ (Or.inr ⟨by rfl, rfl⟩) ?_ ?_; rotate_left
      ·simp only [Act.put, zv, i64_w, i32_w]; rfl
      refine pure_ (i := 19) (N := some 32) (v := undef) (a' := ?_) (bz 26 1048575) rfl rfl (any_of HT_.out zz) zQ (Or.inr ⟨by rfl, rfl⟩) ?_ ?_; rotate_left
      ·simp only [Act.put, zv, i64_w, i32_w]; rfl
      refine pure_ (i := 20) (N := some 33) (v := undef) (a' := ?_) (bz 26 2097151) rfl rfl (any_of HT_.out zz) zQ (Or.inr ⟨by rfl, rfl⟩) ?_ ?_; rotate_left
      ·simp only [Act.put, zv, i64_w, i32_w]; rfl
      refine pure_ (i := 21) (N := some 34) (v := undef) (a' := ?_) (bz 26 4194303) rfl rfl (any_of HT_.out zz) zQ (Or.inr ⟨by rfl, rfl⟩) ?_ ?_; rotate_left
      ·simp only [Act.put, zv, i64_w, i32_w]; rfl
      refine pure_ (i := 22) (N := some 35) (v := undef) (a' := ?_) (bz 26 8388607) rfl rfl (any_of HT_.out zz) zQ (Or.inr ⟨by rfl, rfl⟩) ?_ ?_; rotate_left
      ·simp only [Act.put, zv, i64_w, i32_w]; rfl
      refine pure_ (i := 23) (N := some 36) (v := undef) (a' := ?_) (bz 26 16777215) rfl rfl (any_of HT_.out zz) zQ (Or.inr ⟨by rfl, rfl⟩) ?_ ?_; rotate_left
      ·simp only [Act.put, zv, i64_w, i32_w]; rfl
      refine pure_ (i := 24) (N := some 37) (v := undef) (a' := ?_) (bz 26 33554431) rfl rfl (any_of HT_.out zz) zQ (Or.inr ⟨by rfl, rfl⟩) ?_ ?_; rotate_left
      ·simp only [Act.put, zv, i64_w, i32_w]; rfl
      refine zp 25 (some 38) (v := ?_) (a' := ?_) (bz 26 67108863) rfl rfl HT_.out zz zQ ?_ ?_ ?_; rotate_left
      ·intro w'; go_simp; with_reducible rfl
      rotate_left
      ·simp only [Act.put, zv, i64_w, i32_w]; rfl
      refine done_ (done_of HT_.out zz) ?_; try go_wp2
      go_roundg k1
      case measure => have := HK1.out; omega
      case rel => exact ⟨(wrap64 (x5_1 + 1)), zR, H', ⟨by have := HK1.out; omega⟩, ⟨zb BK724.out⟩, ⟨zU HB.out⟩⟩
    ·rw [if_neg c5] at H; exact absurd H (by simp)
   ·rw [if_neg c4] at H; have c4b0 : decide (x5_1 < (l0_0.length : Int)) = false := decide_eq_false c4; clear c4; obtain rfl := Option.some.inj H; have hcz17_0 : wr.cell? ⟨gb724, 0, none⟩ = some (.slice A0_0 l0_0.length c0_0) := zh BK724.out 0; have hfz17_0 := blk_frozen BK724.out 0; go_wp2
    go_ret
    exact ⟨ze, zU HB.out⟩
end Go.Proofs.Ytoljcfocgaonpaa.I
