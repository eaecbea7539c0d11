/- Words and walks of this claim, of the text Ix15. -/
import Derived.Test.YtoljcfocgaonpaaGreatKaQW0
import Derived.Test.YtoljcfocgaonpaaGreatKaIx0
import Derived.Test.YtoljcfocgaonpaaGreatKaIx12
namespace Go.Proofs.I
open Go.RowKit Go.Proofs.Zw.PrintWords Go.Proofs.Zw.PrintLast Go.Proofs.Zw.PrintMore
set_option maxHeartbeats 8000000
set_option maxRecDepth 100000
attribute [local go_sem] Dw Ec El Es Dd Dj Dr Eb
set_option linter.unusedVariables false
set_option linter.unusedSimpArgs false
def Ba.l0 : Nat → Int → Int → List (S44) → Option (Int)
 | 0, _, _, _ => none
 | k + 1, x1, x5, x402000 => if x5 < (x402000.length : Int) then (if 0 ≤ x5 then (if x1 ≥ ((Ad x402000 x5).f1) then ((Am.f k ((Ad x402000 x5).f0) ((Ad x402000 x5).f1)).bind fun t405 => (if x1 ≤ (wrap64 ((wrap64 (((Ad x402000 x5).f1) + t405)) - 1)) then (some x5) else (Ba.l0 k x1 (wrap64 (x5 + 1)) x402000))) else (Ba.l0 k x1 (wrap64 (x5 + 1)) x402000)) else (none)) else (some (-1))
def Ba.f (k : Nat) (l0_0 : List (S44)) (a1 : Int) : Option (Int) := Ba.l0 k a1 0 l0_0
def Ba.T4 : Bool × List (List Nat × List Nat) := (true, [([], []), ([], []), ([1], [1]), ([], []), ([2, 3], [2, 3]), ([4], [4]), ([5], [5]), ([0, 6], [0, 6]), ([7], [7]), ([8], [8]), ([8], [8]), ([10, 8], [8, 10]), ([8], [8]), ([11, 12, 8], [8, 11, 12]), ([13, 8], [8, 13]), ([14, 8], [8, 14]), ([8], [8]), ([16, 8], [8, 16]), ([8], [8]), ([17, 18, 8], [8, 17, 18]), ([19, 8], [8, 19]), ([20, 8, 8], [8, 20]), ([15, 21, 8], [8, 15, 21]), ([22, 8], [8, 22]), ([9, 23, 8], [8, 9, 23]), ([8, 24], [8, 24])])
def Ba.B4 : List Nat := [0, 0, 2, 0, 14, 30, 62, 127, 255, 511, 511, 1535, 511, 7679, 15871, 32255, 511, 66047, 511, 459263, 983551, 2032127, 4193791, 8388095, 16777215, 33554431]
theorem Ba.tab4 : rtab .any (Jp Tryz.f32 4) = Ba.T4 := by kernel_rfl
theorem Ba.bits4 : Ff Ba.T4.2 Ba.B4 = true := by kernel_rfl
theorem Ba.calls (k : Nat) (A0_0 : Option Addr) (c0_0 : Nat) (l0_0 : List (S44)) (a1 : Int) (r : Int) (w : World) (hr0_0 : Kd.C k44 w A0_0 l0_0.length l0_0) (hc0_0 : l0_0.length ≤ c0_0) (h : Ba.f k l0_0 a1 = some r) :
 Calls Tryz.prog 32 #[.agg #[.slice A0_0 l0_0.length c0_0], .int .i64 a1] w fun e w' => e = .returned (.int .i64 r) ∧ Below w.heap.size w w' := by
 have hu24 := Tryz.underlying24; have hu44 := Tryz.underlying44; have HR0_0 := zk hr0_0; have HC0_0 := zk hc0_0; clear hr0_0 hc0_0; have HB := zk (Below.refl w.heap.size w); have H : (Ba.l0 k a1 0 l0_0) = some r := h; clear h; have H' := zk H; clear H; go_enter Tryz.func32, Tryz.ntmps32
 go_wp2_with (first | ((with_reducible refine Bd (N := 2) rfl ?_); refine Bb ?hg (N := 2) ?hd (cs := #[.slice A0_0 l0_0.length c0_0]) (t := 24) ?hr ?_; (case hd => rfl); (case hg => rfl); (case hr => first | (go_simp; done) | (go_simp; rfl)); intro gb401 hg w3 hbox hb; have BK401 := zk (hbox); have GE401 := zk ((zg hg HB.out : w.heap.size ≤ gb401)); replace HB := zs HB hb;  clear hb hbox hg))
 go_loopg [5] k (fun kq v5 w' => ∃ (x5_1 : Int), v5 = .int .i64 x5_1 ∧ Aa (Ba.l0 kq a1 x5_1 l0_0 = some r) ∧ Aa (kq ≤ k) ∧ Aa (w'.heap[gb401]? = some (.cells #[(.slice A0_0 l0_0.length c0_0)] 24 (0, 0))) ∧ Aa (Below w.heap.size w w'))
 case atStart => exact ⟨(0), zR, H', ⟨Nat.le_refl _⟩, ⟨zb BK401.out⟩, ⟨zU HB.out⟩⟩
 case round =>
  clear H'; (try clear p2); (try clear c3); obtain ⟨x5_1, rfl, HA, HK1, BK401, HB⟩ := hrel
  cases gk with
  | zero => exact absurd HA.out (by simp [Ba.l0])
  | succ k1 =>
   have H := HA.out; clear HA; simp only [Ba.l0] at H; by_cases c4 : x5_1 < (l0_0.length : Int)
   ·rw [if_pos c4] at H; have c4b0 : decide (x5_1 < (l0_0.length : Int)) = true := decide_eq_true c4; clear c4; by_cases c5 : 0 ≤ x5_1
    ·rw [if_pos c5] at H; have c5b0 : decide (0 ≤ x5_1) = true := decide_eq_true c5; clear c5; by_cases c6 : a1 ≥ ((Ad l0_0 x5_1).f1)
     ·rw [if_pos c6] at H; have c6b0 : decide (((Ad l0_0 x5_1).f1) ≤ a1) = true := decide_eq_true c6; clear c6; replace H := Option.bind_eq_some_iff.mp H; obtain ⟨t405, A70, H⟩ := H; replace H : (if a1 ≤ (wrap64 ((wrap64 (((Ad l0_0 x5_1).f1) + t405)) - 1)) then (some x5_1) else (Ba.l0 k1 a1 (wrap64 (x5_1 + 1)) l0_0)) = some r := H; have A7 := zk A70; clear A70; by_cases c8 : a1 ≤ (wrap64 ((wrap64 (((Ad l0_0 x5_1).f1) + t405)) - 1))
      ·rw [if_pos c8] at H; have c8b0 : decide (a1 ≤ (wrap64 ((wrap64 (((Ad l0_0 x5_1).f1) + t405)) - 1))) = true := decide_eq_true c8; clear c8; obtain rfl := Option.some.inj H; have hcz9_0 : wr.cell? ⟨gb401, 0, none⟩ = some (.slice A0_0 l0_0.length c0_0) := zh BK401.out 0; have hfz9_0 := Ac BK401.out 0; try go_wp2
       have n0_ := zk (Ay BK401.out); have n1_ := zk (Bv HB.out); clear BK401; clear HB; have BK401 := n0_; have HB := n1_; clear n0_ n1_; have p402 : 0 ≤ (x5_1 : Int) := zT; have q402 : x5_1 < (l0_0.length : Int) := zT; obtain ⟨ad402, A402_0, c402_0, e402, hx402_0, hx402_1, hl402_0, hi402_0⟩ := Cz HR0_0.out x5_1 p402 q402; have hw402_1 := hx402_1; have hw402_0 := hx402_0; cases e402; replace hx402_0 := zcl HB.out hx402_0; replace hx402_1 := zcl HB.out hx402_1; have HR402_0 := zk hi402_0; have HC402_0 := zk hl402_0; clear hi402_0 hl402_0; replace p402 := eq_true p402; replace q402 := eq_true q402; have p403 : 0 ≤ (x5_1 : Int) := zT; have q403 : x5_1 < (l0_0.length : Int) := zT; obtain ⟨ad403, A403_0, c403_0, e403, hx403_0, hx403_1, hl403_0, hi403_0⟩ := Cz HR0_0.out x5_1 p403 q403; have hw403_1 := hx403_1; have hw403_0 := hx403_0; obtain rfl : ad402 = ad403 := (by injection e403); replace hx403_0 := zcl HB.out hx403_0; replace hx403_1 := zcl HB.out hx403_1; have HR403_0 := zk hi403_0; have HC403_0 := zk hl403_0; clear hi403_0 hl403_0; replace p403 := eq_true p403; replace q403 := eq_true q403; have ea_ := Option.some.inj (hx402_0.symm.trans hx403_0); injection ea_ with ea_ en_ ec_
       subst ea_; subst ec_; clear en_; have p404 : 0 ≤ (x5_1 : Int) := zT; have q404 : x5_1 < (l0_0.length : Int) := zT; obtain ⟨ad404, A404_0, c404_0, e404, hx404_0, hx404_1, hl404_0, hi404_0⟩ := Cz HR0_0.out x5_1 p404 q404; have hw404_1 := hx404_1; have hw404_0 := hx404_0; obtain rfl : ad402 = ad404 := (by injection e404); replace hx404_0 := zcl HB.out hx404_0; replace hx404_1 := zcl HB.out hx404_1; have HR404_0 := zk hi404_0; have HC404_0 := zk hl404_0; clear hi404_0 hl404_0; replace p404 := eq_true p404; replace q404 := eq_true q404; have ea_ := Option.some.inj (hx402_0.symm.trans hx404_0); injection ea_ with ea_ en_ ec_
       subst ea_; subst ec_; clear en_; refine Ew (n := 26) (S := fun w' => w'.cell? ⟨gb401, 0, none⟩ = some (.slice (some ad402) l0_0.length c0_0) ∧ w'.cell? (ad402.add ((x5_1).toNat * 2)) = some (.slice A402_0 ((Ad l0_0 x5_1).f0).length c402_0) ∧ w'.cell? ⟨(ad402.add ((x5_1).toNat * 2)).block, (ad402.add ((x5_1).toNat * 2)).off + 1, none⟩ = some (.int .i64 ((Ad l0_0 x5_1).f1)) ∧ w'.cell? (ad402.add ((x5_1).toNat * 2)) = some (.slice A402_0 ((Ad l0_0 x5_1).f0).length c402_0) ∧ w'.cell? ⟨(ad402.add ((x5_1).toNat * 2)).block, (ad402.add ((x5_1).toNat * 2)).off + 1, none⟩ = some (.int .i64 ((Ad l0_0 x5_1).f1)) ∧ w'.cell? (ad402.add ((x5_1).toNat * 2)) = some (.slice A402_0 ((Ad l0_0 x5_1).f0).length c402_0) ∧ w'.cell? ⟨(ad402.add ((x5_1).toNat * 2)).block, (ad402.add ((x5_1).toNat * 2)).off + 1, none⟩ = some (.int .i64 ((Ad l0_0 x5_1).f1))) (ds := []) #[false, false, false, false, false, false, false, false, false, false, false, false, false, false, false, false, false, false, false, false, false, false, false, false, false, false] zz rfl rfl ⟨(Ag BK401.out 0).trans rfl, (zcl HB.out hw402_0), (zcl HB.out hw402_1), (zcl HB.out hw403_0), (zcl HB.out hw403_1), (zcl HB.out hw404_0), (zcl HB.out hw404_1)⟩ (fun hHeld => ?_); refine Cy Ba.tab4 Ba.bits4 (fun HT_ HW_ => ?_); generalize wr.drew = w10 at BK401 HB HR402_0 HR403_0 HR404_0 hx402_0 hx402_1 hx403_0 hx403_1 hx404_0 hx404_1 hHeld ⊢; refine zp 0 (some 13) (v := ?_) (a' := ?_) (bz 26 1) rfl rfl HT_.out zz zQ ?_ ?_ ?_; rotate_left
       ·intro w'; go_simp; with_reducible rfl
       rotate_left
       ·simp only [zy]; rfl
       refine zp 1 (some 14) (v := ?_) (a' := ?_) (bz 26 3) rfl rfl HT_.out zz zQ ?_ ?_ ?_; rotate_left
       ·intro w'; go_simp; with_reducible rfl
       rotate_left
       ·simp only [zy]; rfl
       refine zp 3 (some 16) (v := ?_) (a' := ?_) (bz 26 11) rfl rfl HT_.out zz zQ ?_ ?_ ?_; rotate_left
       ·intro w'; go_simp; with_reducible rfl
       rotate_left
       ·simp only [zy]; rfl
       refine take_ (i := 2) (N := some 15) (v := ?_) (a' := ?_) (bz 26 15) rfl rfl (Bk HT_.out HW_.out zz) zQ (Or.inl ⟨by rfl, ?_⟩) hHeld ?_ ?_; rotate_left
       ·rintro w' ⟨s0, s1, s2, s3, s4, s5, s6⟩; go_simp; with_reducible rfl
       rotate_left
       ·simp only [zy]; rfl
       refine zp 4 (some 17) (v := ?_) (a' := ?_) (bz 26 31) rfl rfl HT_.out zz zQ ?_ ?_ ?_; rotate_left
       ·intro w'; go_simp; with_reducible rfl
       rotate_left
       ·simp only [zy]; rfl
       refine zp 5 (some 18) (v := ?_) (a' := ?_) (bz 26 63) rfl rfl HT_.out zz zQ ?_ ?_ ?_; rotate_left
       ·intro w'; go_simp; with_reducible rfl
       rotate_left
       ·simp only [zy]; rfl
       refine take_ (i := 6) (N := some 19) (v := ?_) (a' := ?_) (bz 26 127) rfl rfl (Bk HT_.out HW_.out zz) zQ (Or.inl ⟨by rfl, ?_⟩) hHeld ?_ ?_; rotate_left
       ·rintro w' ⟨s0, s1, s2, s3, s4, s5, s6⟩; go_simp; with_reducible rfl
       rotate_left
       ·simp only [zy]; rfl
       refine zp 7 (some 20) (v := ?_) (a' := ?_) (bz 26 255) rfl rfl HT_.out zz zQ ?_ ?_ ?_; rotate_left
       ·intro w'; go_simp; with_reducible rfl
       rotate_left
       ·simp only [zy]; rfl
       refine zp 8 (some 21) (v := ?_) (a' := ?_) (bz 26 511) rfl rfl HT_.out zz zQ ?_ ?_ ?_; rotate_left
       ·intro w'; go_simp; with_reducible rfl
       rotate_left
       ·simp only [zy]; rfl
       refine zp 9 (some 22) (v := ?_) (a' := ?_) (bz 26 1023) rfl rfl HT_.out zz zQ ?_ ?_ ?_; rotate_left
       ·intro w'; go_simp; with_reducible rfl
       rotate_left
       ·simp only [zy]; rfl
       refine zp 10 (some 23) (v := ?_) (a' := ?_) (bz 26 2047) rfl rfl HT_.out zz zQ ?_ ?_ ?_; rotate_left
       ·intro w'; go_simp; with_reducible rfl
       rotate_left
       ·simp only [zy]; rfl
       refine zp 12 (some 25) (v := ?_) (a' := ?_) (bz 26 6143) rfl rfl HT_.out zz zQ ?_ ?_ ?_; rotate_left
       ·intro w'; go_simp; with_reducible rfl
       rotate_left
       ·simp only [zy]; rfl
       refine zp 16 (some 29) (v := ?_) (a' := ?_) (bz 26 71679) rfl rfl HT_.out zz zQ ?_ ?_ ?_; rotate_left
       ·intro w'; go_simp; with_reducible rfl
       rotate_left
       ·simp only [zy]; rfl
       refine zp 18 (some 31) (v := ?_) (a' := ?_) (bz 26 333823) rfl rfl HT_.out zz zQ ?_ ?_ ?_; rotate_left
       ·intro w'; go_simp; with_reducible rfl
       rotate_left
       ·simp only [zy]; rfl
       refine take_ (i := 11) (N := some 24) (v := ?_) (a' := ?_) (bz 26 335871) rfl rfl (Bk HT_.out HW_.out zz) zQ (Or.inl ⟨by rfl, ?_⟩) hHeld ?_ ?_; rotate_left
       ·rintro w' ⟨s0, s1, s2, s3, s4, s5, s6⟩; go_simp; with_reducible rfl
       rotate_left
       ·simp only [zy]; rfl
       refine zp 13 (some 26) (v := ?_) (a' := ?_) (bz 26 344063) rfl rfl HT_.out zz zQ ?_ ?_ ?_; rotate_left
       ·intro w'; go_simp; with_reducible rfl
       rotate_left
       ·simp only [zy]; rfl
       refine zp 14 (some 27) (v := ?_) (a' := ?_) (bz 26 360447) rfl rfl HT_.out zz zQ ?_ ?_ ?_; rotate_left
       ·intro w'; go_simp; with_reducible rfl
       rotate_left
       ·simp only [zy]; rfl
       refine take_ (i := 15) (N := some 28) (v := ?_) (a' := ?_) (bz 26 393215) rfl rfl (Bk HT_.out HW_.out zz) zQ (Or.inl ⟨by rfl, ?_⟩) hHeld ?_ ?_; rotate_left
       ·rintro w' ⟨s0, s1, s2, s3, s4, s5, s6⟩; go_simp; with_reducible rfl
       rotate_left
       ·simp only [zy]; rfl
       refine take_ (i := 17) (N := some 30) (v := ?_) (a' := ?_) (bz 26 524287) rfl rfl (Bk HT_.out HW_.out zz) zQ (Or.inl ⟨by rfl, ?_⟩) hHeld ?_ ?_; rotate_left
       ·rintro w' ⟨s0, s1, s2, s3, s4, s5, s6⟩; go_simp; with_reducible rfl
       rotate_left
       ·simp only [zy]; rfl
       refine zp 19 (some 32) (v := ?_) (a' := ?_) (bz 26 1048575) rfl rfl HT_.out zz zQ ?_ ?_ ?_; rotate_left
       ·intro w'; go_simp; with_reducible rfl
       rotate_left
       ·simp only [zy]; rfl
       refine take_ (i := 20) (N := some 33) (v := ?_) (a' := ?_) (bz 26 2097151) rfl rfl (Bk HT_.out HW_.out zz) zQ (Or.inl ⟨by rfl, ?_⟩) hHeld ?_ ?_; rotate_left
       ·rintro w' ⟨s0, s1, s2, s3, s4, s5, s6⟩; go_simp; with_reducible rfl
       rotate_left
       ·simp only [zy]; rfl
       refine one_ (i := 21) (N := some 34) (bz 26 4194303) rfl rfl (Eh HT_.out zz) (by decide) (fun K hK => ?_); refine Gy Tryz.func22 zz rfl #[.agg #[.slice A402_0 ((Ad l0_0 x5_1).f0).length c402_0, .int .i64 ((Ad l0_0 x5_1).f1)]] (by rfl) rfl rfl zM ?_; with_reducible refine (Am.calls k1 _ _ ((Ad l0_0 x5_1).f0) ((Ad l0_0 x5_1).f1) t405 _ ?side1 ?side2 A7.out).mono ?_; (case side1 => exact zc (Kd.C_below HR404_0.out HB.out))
       (case side2 => exact HC404_0.out)
       rintro e w11 ⟨rfl, hb⟩; refine ⟨_, rfl, ?_⟩; have n0_ := zk (zbb BK401.out hb); have n1_ := zs HB hb; clear BK401; clear HB; have BK401 := n0_; have HB := n1_; clear n0_ n1_; (try clear hb); (try clear hb2); (try clear hk); (try clear hi); refine hK.out _ _ ⟨(Ag BK401.out 0).trans rfl, (zcl HB.out hw402_0), (zcl HB.out hw402_1), (zcl HB.out hw403_0), (zcl HB.out hw403_1), (zcl HB.out hw404_0), (zcl HB.out hw404_1)⟩ (fun hHeld => ?_); clear hK K; refine Fi (a' := ?_) ?_ ?_; rotate_left
       ·show Act.put _ (some 34) _ = _; simp only [zy]; rfl
       refine zp 22 (some 35) (v := ?_) (a' := ?_) (bz 26 8388607) rfl rfl HT_.out zz zQ ?_ ?_ ?_; rotate_left
       ·intro w'; go_simp; with_reducible rfl
       rotate_left
       ·simp only [zy]; rfl
       refine zp 23 (some 36) (v := ?_) (a' := ?_) (bz 26 16777215) rfl rfl HT_.out zz zQ ?_ ?_ ?_; rotate_left
       ·intro w'; go_simp; with_reducible rfl
       rotate_left
       ·simp only [zy]; rfl
       refine zp 24 (some 37) (v := ?_) (a' := ?_) (bz 26 33554431) rfl rfl HT_.out zz zQ ?_ ?_ ?_; rotate_left
       ·intro w'; go_simp; with_reducible rfl
       rotate_left
       ·simp only [zy]; rfl
       refine zp 25 (some 38) (v := ?_) (a' := ?_) (bz 26 67108863) rfl rfl HT_.out zz zQ ?_ ?_ ?_; rotate_left
       ·intro w'; go_simp; with_reducible rfl
       rotate_left
       ·simp only [zy]; rfl
       refine Gg (Ei HT_.out zz) ?_; try go_wp2
       go_ret
       exact ⟨ze, zU HB.out⟩
      ·rw [if_neg c8] at H; have c8b0 : decide (a1 ≤ (wrap64 ((wrap64 (((Ad l0_0 x5_1).f1) + t405)) - 1))) = false := decide_eq_false c8; clear c8; have H' := zk H; clear H; have hcz12_0 : wr.cell? ⟨gb401, 0, none⟩ = some (.slice A0_0 l0_0.length c0_0) := zh BK401.out 0; have hfz12_0 := Ac BK401.out 0; try go_wp2
       have n0_ := zk (Ay BK401.out); have n1_ := zk (Bv HB.out); clear BK401; clear HB; have BK401 := n0_; have HB := n1_; clear n0_ n1_; have p402 : 0 ≤ (x5_1 : Int) := zT; have q402 : x5_1 < (l0_0.length : Int) := zT; obtain ⟨ad402, A402_0, c402_0, e402, hx402_0, hx402_1, hl402_0, hi402_0⟩ := Cz HR0_0.out x5_1 p402 q402; have hw402_1 := hx402_1; have hw402_0 := hx402_0; cases e402; replace hx402_0 := zcl HB.out hx402_0; replace hx402_1 := zcl HB.out hx402_1; have HR402_0 := zk hi402_0; have HC402_0 := zk hl402_0; clear hi402_0 hl402_0; replace p402 := eq_true p402; replace q402 := eq_true q402; have p403 : 0 ≤ (x5_1 : Int) := zT; have q403 : x5_1 < (l0_0.length : Int) := zT; obtain ⟨ad403, A403_0, c403_0, e403, hx403_0, hx403_1, hl403_0, hi403_0⟩ := Cz HR0_0.out x5_1 p403 q403; have hw403_1 := hx403_1; have hw403_0 := hx403_0; obtain rfl : ad402 = ad403 := (by injection e403); replace hx403_0 := zcl HB.out hx403_0; replace hx403_1 := zcl HB.out hx403_1; have HR403_0 := zk hi403_0; have HC403_0 := zk hl403_0; clear hi403_0 hl403_0; replace p403 := eq_true p403; replace q403 := eq_true q403; have ea_ := Option.some.inj (hx402_0.symm.trans hx403_0); injection ea_ with ea_ en_ ec_
       subst ea_; subst ec_; clear en_; have p404 : 0 ≤ (x5_1 : Int) := zT; have q404 : x5_1 < (l0_0.length : Int) := zT; obtain ⟨ad404, A404_0, c404_0, e404, hx404_0, hx404_1, hl404_0, hi404_0⟩ := Cz HR0_0.out x5_1 p404 q404; have hw404_1 := hx404_1; have hw404_0 := hx404_0; obtain rfl : ad402 = ad404 := (by injection e404); replace hx404_0 := zcl HB.out hx404_0; replace hx404_1 := zcl HB.out hx404_1; have HR404_0 := zk hi404_0; have HC404_0 := zk hl404_0; clear hi404_0 hl404_0; replace p404 := eq_true p404; replace q404 := eq_true q404; have ea_ := Option.some.inj (hx402_0.symm.trans hx404_0); injection ea_ with ea_ en_ ec_
       subst ea_; subst ec_; clear en_; refine Ew (n := 26) (S := fun w' => w'.cell? ⟨gb401, 0, none⟩ = some (.slice (some ad402) l0_0.length c0_0) ∧ w'.cell? (ad402.add ((x5_1).toNat * 2)) = some (.slice A402_0 ((Ad l0_0 x5_1).f0).length c402_0) ∧ w'.cell? ⟨(ad402.add ((x5_1).toNat * 2)).block, (ad402.add ((x5_1).toNat * 2)).off + 1, none⟩ = some (.int .i64 ((Ad l0_0 x5_1).f1)) ∧ w'.cell? (ad402.add ((x5_1).toNat * 2)) = some (.slice A402_0 ((Ad l0_0 x5_1).f0).length c402_0) ∧ w'.cell? ⟨(ad402.add ((x5_1).toNat * 2)).block, (ad402.add ((x5_1).toNat * 2)).off + 1, none⟩ = some (.int .i64 ((Ad l0_0 x5_1).f1)) ∧ w'.cell? (ad402.add ((x5_1).toNat * 2)) = some (.slice A402_0 ((Ad l0_0 x5_1).f0).length c402_0) ∧ w'.cell? ⟨(ad402.add ((x5_1).toNat * 2)).block, (ad402.add ((x5_1).toNat * 2)).off + 1, none⟩ = some (.int .i64 ((Ad l0_0 x5_1).f1))) (ds := []) #[false, false, false, false, false, false, false, false, false, false, false, false, false, false, false, false, false, false, false, false, false, false, false, false, false, false] zz rfl rfl ⟨(Ag BK401.out 0).trans rfl, (zcl HB.out hw402_0), (zcl HB.out hw402_1), (zcl HB.out hw403_0), (zcl HB.out hw403_1), (zcl HB.out hw404_0), (zcl HB.out hw404_1)⟩ (fun hHeld => ?_); refine Cy Ba.tab4 Ba.bits4 (fun HT_ HW_ => ?_); generalize wr.drew = w13 at BK401 HB HR402_0 HR403_0 HR404_0 hx402_0 hx402_1 hx403_0 hx403_1 hx404_0 hx404_1 hHeld ⊢; refine zp 0 (some 13) (v := ?_) (a' := ?_) (bz 26 1) rfl rfl HT_.out zz zQ ?_ ?_ ?_; rotate_left
       ·intro w'; go_simp; with_reducible rfl
       rotate_left
       ·simp only [zy]; rfl
       refine zp 1 (some 14) (v := ?_) (a' := ?_) (bz 26 3) rfl rfl HT_.out zz zQ ?_ ?_ ?_; rotate_left
       ·intro w'; go_simp; with_reducible rfl
       rotate_left
       ·simp only [zy]; rfl
       refine zp 3 (some 16) (v := ?_) (a' := ?_) (bz 26 11) rfl rfl HT_.out zz zQ ?_ ?_ ?_; rotate_left
       ·intro w'; go_simp; with_reducible rfl
       rotate_left
       ·simp only [zy]; rfl
       refine take_ (i := 2) (N := some 15) (v := ?_) (a' := ?_) (bz 26 15) rfl rfl (Bk HT_.out HW_.out zz) zQ (Or.inl ⟨by rfl, ?_⟩) hHeld ?_ ?_; rotate_left
       ·rintro w' ⟨s0, s1, s2, s3, s4, s5, s6⟩; go_simp; with_reducible rfl
       rotate_left
       ·simp only [zy]; rfl
       refine zp 4 (some 17) (v := ?_) (a' := ?_) (bz 26 31) rfl rfl HT_.out zz zQ ?_ ?_ ?_; rotate_left
       ·intro w'; go_simp; with_reducible rfl
       rotate_left
       ·simp only [zy]; rfl
       refine zp 5 (some 18) (v := ?_) (a' := ?_) (bz 26 63) rfl rfl HT_.out zz zQ ?_ ?_ ?_; rotate_left
       ·intro w'; go_simp; with_reducible rfl
       rotate_left
       ·simp only [zy]; rfl
       refine take_ (i := 6) (N := some 19) (v := ?_) (a' := ?_) (bz 26 127) rfl rfl (Bk HT_.out HW_.out zz) zQ (Or.inl ⟨by rfl, ?_⟩) hHeld ?_ ?_; rotate_left
       ·rintro w' ⟨s0, s1, s2, s3, s4, s5, s6⟩; go_simp; with_reducible rfl
       rotate_left
       ·simp only [zy]; rfl
       refine zp 7 (some 20) (v := ?_) (a' := ?_) (bz 26 255) rfl rfl HT_.out zz zQ ?_ ?_ ?_; rotate_left
       ·intro w'; go_simp; with_reducible rfl
       rotate_left
       ·simp only [zy]; rfl
       refine zp 8 (some 21) (v := ?_) (a' := ?_) (bz 26 511) rfl rfl HT_.out zz zQ ?_ ?_ ?_; rotate_left
       ·intro w'; go_simp; with_reducible rfl
       rotate_left
       ·simp only [zy]; rfl
       refine zp 9 (some 22) (v := ?_) (a' := ?_) (bz 26 1023) rfl rfl HT_.out zz zQ ?_ ?_ ?_; rotate_left
       ·intro w'; go_simp; with_reducible rfl
       rotate_left
       ·simp only [zy]; rfl
       refine zp 10 (some 23) (v := ?_) (a' := ?_) (bz 26 2047) rfl rfl HT_.out zz zQ ?_ ?_ ?_; rotate_left
       ·intro w'; go_simp; with_reducible rfl
       rotate_left
       ·simp only [zy]; rfl
       refine zp 12 (some 25) (v := ?_) (a' := ?_) (bz 26 6143) rfl rfl HT_.out zz zQ ?_ ?_ ?_; rotate_left
       ·intro w'; go_simp; with_reducible rfl
       rotate_left
       ·simp only [zy]; rfl
       refine zp 16 (some 29) (v := ?_) (a' := ?_) (bz 26 71679) rfl rfl HT_.out zz zQ ?_ ?_ ?_; rotate_left
       ·intro w'; go_simp; with_reducible rfl
       rotate_left
       ·simp only [zy]; rfl
       refine zp 18 (some 31) (v := ?_) (a' := ?_) (bz 26 333823) rfl rfl HT_.out zz zQ ?_ ?_ ?_; rotate_left
       ·intro w'; go_simp; with_reducible rfl
       rotate_left
       ·simp only [zy]; rfl
       refine take_ (i := 11) (N := some 24) (v := ?_) (a' := ?_) (bz 26 335871) rfl rfl (Bk HT_.out HW_.out zz) zQ (Or.inl ⟨by rfl, ?_⟩) hHeld ?_ ?_; rotate_left
       ·rintro w' ⟨s0, s1, s2, s3, s4, s5, s6⟩; go_simp; with_reducible rfl
       rotate_left
       ·simp only [zy]; rfl
       refine zp 13 (some 26) (v := ?_) (a' := ?_) (bz 26 344063) rfl rfl HT_.out zz zQ ?_ ?_ ?_; rotate_left
       ·intro w'; go_simp; with_reducible rfl
       rotate_left
       ·simp only [zy]; rfl
       refine zp 14 (some 27) (v := ?_) (a' := ?_) (bz 26 360447) rfl rfl HT_.out zz zQ ?_ ?_ ?_; rotate_left
       ·intro w'; go_simp; with_reducible rfl
       rotate_left
       ·simp only [zy]; rfl
       refine take_ (i := 15) (N := some 28) (v := ?_) (a' := ?_) (bz 26 393215) rfl rfl (Bk HT_.out HW_.out zz) zQ (Or.inl ⟨by rfl, ?_⟩) hHeld ?_ ?_; rotate_left
       ·rintro w' ⟨s0, s1, s2, s3, s4, s5, s6⟩; go_simp; with_reducible rfl
       rotate_left
       ·simp only [zy]; rfl
       refine take_ (i := 17) (N := some 30) (v := ?_) (a' := ?_) (bz 26 524287) rfl rfl (Bk HT_.out HW_.out zz) zQ (Or.inl ⟨by rfl, ?_⟩) hHeld ?_ ?_; rotate_left
       ·rintro w' ⟨s0, s1, s2, s3, s4, s5, s6⟩; go_simp; with_reducible rfl
       rotate_left
       ·simp only [zy]; rfl
       refine zp 19 (some 32) (v := ?_) (a' := ?_) (bz 26 1048575) rfl rfl HT_.out zz zQ ?_ ?_ ?_; rotate_left
       ·intro w'; go_simp; with_reducible rfl
       rotate_left
       ·simp only [zy]; rfl
       refine take_ (i := 20) (N := some 33) (v := ?_) (a' := ?_) (bz 26 2097151) rfl rfl (Bk HT_.out HW_.out zz) zQ (Or.inl ⟨by rfl, ?_⟩) hHeld ?_ ?_; rotate_left
       ·rintro w' ⟨s0, s1, s2, s3, s4, s5, s6⟩; go_simp; with_reducible rfl
       rotate_left
       ·simp only [zy]; rfl
       refine one_ (i := 21) (N := some 34) (bz 26 4194303) rfl rfl (Eh HT_.out zz) (by decide) (fun K hK => ?_); refine Gy Tryz.func22 zz rfl #[.agg #[.slice A402_0 ((Ad l0_0 x5_1).f0).length c402_0, .int .i64 ((Ad l0_0 x5_1).f1)]] (by rfl) rfl rfl zM ?_; with_reducible refine (Am.calls k1 _ _ ((Ad l0_0 x5_1).f0) ((Ad l0_0 x5_1).f1) t405 _ ?side1 ?side2 A7.out).mono ?_; (case side1 => exact zc (Kd.C_below HR404_0.out HB.out))
       (case side2 => exact HC404_0.out)
       rintro e w14 ⟨rfl, hb⟩; refine ⟨_, rfl, ?_⟩; have n0_ := zk (zbb BK401.out hb); have n1_ := zs HB hb; clear BK401; clear HB; have BK401 := n0_; have HB := n1_; clear n0_ n1_; (try clear hb); (try clear hb2); (try clear hk); (try clear hi); refine hK.out _ _ ⟨(Ag BK401.out 0).trans rfl, (zcl HB.out hw402_0), (zcl HB.out hw402_1), (zcl HB.out hw403_0), (zcl HB.out hw403_1), (zcl HB.out hw404_0), (zcl HB.out hw404_1)⟩ (fun hHeld => ?_); clear hK K; refine Fi (a' := ?_) ?_ ?_; rotate_left
       ·show Act.put _ (some 34) _ = _; simp only [zy]; rfl
       refine zp 22 (some 35) (v := ?_) (a' := ?_) (bz 26 8388607) rfl rfl HT_.out zz zQ ?_ ?_ ?_; rotate_left
       ·intro w'; go_simp; with_reducible rfl
       rotate_left
       ·simp only [zy]; rfl
       refine zp 23 (some 36) (v := ?_) (a' := ?_) (bz 26 16777215) rfl rfl HT_.out zz zQ ?_ ?_ ?_; rotate_left
       ·intro w'; go_simp; with_reducible rfl
       rotate_left
       ·simp only [zy]; rfl
       refine zp 24 (some 37) (v := ?_) (a' := ?_) (bz 26 33554431) rfl rfl HT_.out zz zQ ?_ ?_ ?_; rotate_left
       ·intro w'; go_simp; with_reducible rfl
       rotate_left
       ·simp only [zy]; rfl
       refine zp 25 (some 38) (v := ?_) (a' := ?_) (bz 26 67108863) rfl rfl HT_.out zz zQ ?_ ?_ ?_; rotate_left
       ·intro w'; go_simp; with_reducible rfl
       rotate_left
       ·simp only [zy]; rfl
       refine Gg (Ei HT_.out zz) ?_; try go_wp2
       go_roundg k1
       case measure => have := HK1.out; omega
       case rel => exact ⟨(wrap64 (x5_1 + 1)), zR, H', ⟨by have := HK1.out; omega⟩, ⟨zb BK401.out⟩, ⟨zU HB.out⟩⟩
     ·rw [if_neg c6] at H; have c6b0 : decide (((Ad l0_0 x5_1).f1) ≤ a1) = false := decide_eq_false c6; clear c6; have H' := zk H; clear H; have hcz15_0 : wr.cell? ⟨gb401, 0, none⟩ = some (.slice A0_0 l0_0.length c0_0) := zh BK401.out 0; have hfz15_0 := Ac BK401.out 0; try go_wp2
      have n0_ := zk (Ay BK401.out); have n1_ := zk (Bv HB.out); clear BK401; clear HB; have BK401 := n0_; have HB := n1_; clear n0_ n1_; have p402 : 0 ≤ (x5_1 : Int) := zT; have q402 : x5_1 < (l0_0.length : Int) := zT; obtain ⟨ad402, A402_0, c402_0, e402, hx402_0, hx402_1, hl402_0, hi402_0⟩ := Cz HR0_0.out x5_1 p402 q402; have hw402_1 := hx402_1; have hw402_0 := hx402_0; cases e402; replace hx402_0 := zcl HB.out hx402_0; replace hx402_1 := zcl HB.out hx402_1; have HR402_0 := zk hi402_0; have HC402_0 := zk hl402_0; clear hi402_0 hl402_0; replace p402 := eq_true p402; replace q402 := eq_true q402; refine Ew (n := 26) (S := fun w' => w'.cell? ⟨gb401, 0, none⟩ = some (.slice (some ad402) l0_0.length c0_0) ∧ w'.cell? (ad402.add ((x5_1).toNat * 2)) = some (.slice A402_0 ((Ad l0_0 x5_1).f0).length c402_0) ∧ w'.cell? ⟨(ad402.add ((x5_1).toNat * 2)).block, (ad402.add ((x5_1).toNat * 2)).off + 1, none⟩ = some (.int .i64 ((Ad l0_0 x5_1).f1))) (ds := []) #[false, false, false, false, false, false, false, false, false, false, false, false, false, false, false, false, false, false, false, false, false, false, false, false, false, false] zz rfl rfl ⟨(Ag BK401.out 0).trans rfl, (zcl HB.out hw402_0), (zcl HB.out hw402_1)⟩ (fun hHeld => ?_); refine Cy Ba.tab4 Ba.bits4 (fun HT_ HW_ => ?_); generalize wr.drew = w16 at BK401 HB HR402_0 hx402_0 hx402_1 hHeld ⊢; refine zp 0 (some 13) (v := ?_) (a' := ?_) (bz 26 1) rfl rfl HT_.out zz zQ ?_ ?_ ?_; rotate_left
      ·intro w'; go_simp; with_reducible rfl
      rotate_left
      ·simp only [zy]; rfl
      refine zp 1 (some 14) (v := ?_) (a' := ?_) (bz 26 3) rfl rfl HT_.out zz zQ ?_ ?_ ?_; rotate_left
      ·intro w'; go_simp; with_reducible rfl
      rotate_left
      ·simp only [zy]; rfl
      refine zp 3 (some 16) (v := ?_) (a' := ?_) (bz 26 11) rfl rfl HT_.out zz zQ ?_ ?_ ?_; rotate_left
      ·intro w'; go_simp; with_reducible rfl
      rotate_left
      ·simp only [zy]; rfl
      refine take_ (i := 2) (N := some 15) (v := ?_) (a' := ?_) (bz 26 15) rfl rfl (Bk HT_.out HW_.out zz) zQ (Or.inl ⟨by rfl, ?_⟩) hHeld ?_ ?_; rotate_left
      ·rintro w' ⟨s0, s1, s2⟩; go_simp; with_reducible rfl
      rotate_left
      ·simp only [zy]; rfl
      refine zp 4 (some 17) (v := ?_) (a' := ?_) (bz 26 31) rfl rfl HT_.out zz zQ ?_ ?_ ?_; rotate_left
      ·intro w'; go_simp; with_reducible rfl
      rotate_left
      ·simp only [zy]; rfl
      refine zp 5 (some 18) (v := ?_) (a' := ?_) (bz 26 63) rfl rfl HT_.out zz zQ ?_ ?_ ?_; rotate_left
      ·intro w'; go_simp; with_reducible rfl
      rotate_left
      ·simp only [zy]; rfl
      refine take_ (i := 6) (N := some 19) (v := ?_) (a' := ?_) (bz 26 127) rfl rfl (Bk HT_.out HW_.out zz) zQ (Or.inl ⟨by rfl, ?_⟩) hHeld ?_ ?_; rotate_left
      ·rintro w' ⟨s0, s1, s2⟩; go_simp; with_reducible rfl
      rotate_left
      ·simp only [zy]; rfl
      refine zp 7 (some 20) (v := ?_) (a' := ?_) (bz 26 255) rfl rfl HT_.out zz zQ ?_ ?_ ?_; rotate_left
      ·intro w'; go_simp; with_reducible rfl
      rotate_left
      ·simp only [zy]; rfl
      refine zp 8 (some 21) (v := ?_) (a' := ?_) (bz 26 511) rfl rfl HT_.out zz zQ ?_ ?_ ?_; rotate_left
      ·intro w'; go_simp; with_reducible rfl
      rotate_left
      ·simp only [zy]; rfl
      refine Dv (i := 9) (N := some 22) (v := undef) (a' := ?_) (bz 26 1023) rfl rfl (Da HT_.out zz) zQ (Or.inr ⟨by rfl, rfl⟩) ?_ ?_; rotate_left
      ·simp only [zy]; rfl
      refine Dv (i := 10) (N := some 23) (v := undef) (a' := ?_) (bz 26 2047) rfl rfl (Da HT_.out zz) zQ (Or.inr ⟨by rfl, rfl⟩) ?_ ?_; rotate_left
      ·simp only [zy]; rfl
      refine Dv (i := 11) (N := some 24) (v := undef) (a' := ?_) (bz 26 4095) rfl rfl (Da HT_.out zz) zQ (Or.inr ⟨by rfl, rfl⟩) ?_ ?_; rotate_left
      ·simp only [zy]; rfl
      refine Dv (i := 12) (N := some 25) (v := undef) (a' := ?_) (bz 26 8191) rfl rfl (Da HT_.out zz) zQ (Or.inr ⟨by rfl, rfl⟩) ?_ ?_; rotate_left
      ·simp only [zy]; rfl
      refine Dv (i := 13) (N := some 26) (v := undef) (a' := ?_) (bz 26 16383) rfl rfl (Da HT_.out zz) zQ (Or.inr ⟨by rfl, rfl⟩) ?_ ?_; rotate_left
      ·simp only [zy]; rfl
      refine Dv (i := 14) (N := some 27) (v := undef) (a' := ?_) (bz 26 32767) rfl rfl (Da HT_.out zz) zQ (Or.inr ⟨by rfl, rfl⟩) ?_ ?_; rotate_left
      ·simp only [zy]; rfl
      refine Dv (i := 15) (N := some 28) (v := undef) (a' := ?_) (bz 26 65535) rfl rfl (Da HT_.out zz) zQ (Or.inr ⟨by rfl, rfl⟩) ?_ ?_; rotate_left
      ·simp only [zy]; rfl
      refine Dv (i := 16) (N := some 29) (v := undef) (a' := ?_) (bz 26 131071) rfl rfl (Da HT_.out zz) zQ (Or.inr ⟨by rfl, rfl⟩) ?_ ?_; rotate_left
      ·simp only [zy]; rfl
      refine Dv (i := 17) (N := some 30) (v := undef) (a' := ?_) (bz 26 262143) rfl rfl (Da HT_.out zz) zQ (Or.inr ⟨by rfl, rfl⟩) ?_ ?_; rotate_left
      ·simp only [zy]; rfl
      refine Dv (i := 18) (N := some 31) (v := undef) (a' := ?_) (bz 26 524287) rfl rfl (Da HT_.out zz) zQ (Or.inr ⟨by rfl, rfl⟩) ?_ ?_; rotate_left
      ·simp only [zy]; rfl
      refine Dv (i := 19) (N := some 32) (v := undef) (a' := ?_) (bz 26 1048575) rfl rfl (Da HT_.out zz) zQ (Or.inr ⟨by rfl, rfl⟩) ?_ ?_; rotate_left
      ·simp only [zy]; rfl
      refine Dv (i := 20) (N := some 33) (v := undef) (a' := ?_) (bz 26 2097151) rfl rfl (Da HT_.out zz) zQ (Or.inr ⟨by rfl, rfl⟩) ?_ ?_; rotate_left
      ·simp only [zy]; rfl
      refine Dv (i := 21) (N := some 34) (v := undef) (a' := ?_) (bz 26 4194303) rfl rfl (Da HT_.out zz) zQ (Or.inr ⟨by rfl, rfl⟩) ?_ ?_; rotate_left
      ·simp only [zy]; rfl
      refine Dv (i := 22) (N := some 35) (v := undef) (a' := ?_) (bz 26 8388607) rfl rfl (Da HT_.out zz) zQ (Or.inr ⟨by rfl, rfl⟩) ?_ ?_; rotate_left
      ·simp only [zy]; rfl
      refine Dv (i := 23) (N := some 36) (v := undef) (a' := ?_) (bz 26 16777215) rfl rfl (Da HT_.out zz) zQ (Or.inr ⟨by rfl, rfl⟩) ?_ ?_; rotate_left
      ·simp only [zy]; rfl
      refine Dv (i := 24) (N := some 37) (v := undef) (a' := ?_) (bz 26 33554431) rfl rfl (Da HT_.out zz) zQ (Or.inr ⟨by rfl, rfl⟩) ?_ ?_; rotate_left
      ·simp only [zy]; rfl
      refine zp 25 (some 38) (v := ?_) (a' := ?_) (bz 26 67108863) rfl rfl HT_.out zz zQ ?_ ?_ ?_; rotate_left
      ·intro w'; go_simp; with_reducible rfl
      rotate_left
      ·simp only [zy]; rfl
      refine Gg (Ei HT_.out zz) ?_; try go_wp2
      go_roundg k1
      case measure => have := HK1.out; omega
      case rel => exact ⟨(wrap64 (x5_1 + 1)), zR, H', ⟨by have := HK1.out; omega⟩, ⟨zb BK401.out⟩, ⟨zU HB.out⟩⟩
    ·rw [if_neg c5] at H; cases H
   ·rw [if_neg c4] at H; have c4b0 : decide (x5_1 < (l0_0.length : Int)) = false := decide_eq_false c4; clear c4; obtain rfl := Option.some.inj H; have hcz17_0 : wr.cell? ⟨gb401, 0, none⟩ = some (.slice A0_0 l0_0.length c0_0) := zh BK401.out 0; have hfz17_0 := Ac BK401.out 0; go_wp2
    go_ret
    exact ⟨ze, zU HB.out⟩
end Go.Proofs.I
